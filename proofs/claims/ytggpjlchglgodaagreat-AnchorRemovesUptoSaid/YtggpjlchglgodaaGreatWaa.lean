/-
  What the claim stands on, part 1: Lg Op Oq Cb Rep Dr Sq Row Dy De Dj Bd Eq Mp Dk Dw Mk Cl Hv.
-/
import Derived.Test.YtggpjlchglgodaaGreatProg
import Derived.CallsIn
import Derived.TacticsIn
import Derived.RangeFuncIn
import Derived.RangeFuncLeaves
import Derived.RangeFuncRecord
import Derived.Below
import Derived.KernelRfl
import Derived.Maps.AppendAt
import Derived.IntWalk
import Derived.OrdersIn
import Derived.Lib.Builder
import Derived.Lib.UnsafeStr
import Derived.Lib.AppendStr
import Derived.Laws.Externs
import Derived.Laws.StructEq
import Derived.ChangeKeysEq
import Derived.MapKept
import Derived.Laws.MakeOwn
namespace Go.Proofs.YtggpjlchglgodaaGreat
set_option linter.all false
open Go.Proofs.Tryz
theorem O.{u} {α:Sort u} {a:α}:a=a:=rfl
theorem V {p:Prop} (h:p:=by omega):p:=h
theorem Z {p:Prop} (h:p:=by kernel_rfl):p:=h
theorem Q1 {p:Prop} (h:p:=by decide):p:=h
section
theorem aB:True:=trivial
theorem ay.{u}:∀ {c:Prop} {h:Decidable c},¬c->∀ {α:Sort u} {t e:α},(if c then t else e)=e:=@if_neg
theorem aH.{u}:∀ {c:Prop} {h:Decidable c},c->∀ {α:Sort u} {t e:α},(if c then t else e)=t:=@if_pos
theorem bR.{u_1,u_2}:∀ {α:Type u_1} {β:Type u_2} {xs:List α} (f:α->β),List.length (List.map f xs)=List.length xs:=@List.length_map
theorem dh.{u,v}:∀ {α:Sort u} {β:Sort v} {a₁ a₂:α} (f:α->β),a₁=a₂->f a₁=f a₂:=@congrArg
theorem dM:∀ {α β:Type} (P:Go.Program) (w:Go.World) (x:Go.Sem α) (f:α->Go.Sem β),   Go.Sem.run P (x >>= f) w=Go.Result.andThen (Go.Sem.run P x w) fun a w'=>Go.Sem.run P (f a) w':=@Go.Sem.run_bind
theorem eP.{u,v}:∀ {α:Type u} {β:Type v} {f:α->β} {a:α} {l:List α},List.map f (a :: l)=f a :: List.map f l:=@List.map_cons
theorem eT.{u_1}:∀ {α:Type u_1} {a:α} {l:List α},a∈a :: l:=@List.mem_cons_self
theorem fD:∀ (n:Nat),n<=n:=@Nat.le_refl
theorem fF.{u_1}:∀ {α:Type u_1} {l:List α} {i:Nat} (h:i < List.length l),l[i]?=some l[i]:=@List.getElem?_eq_getElem
theorem fO:∀ (n:Nat),0+n=n:=@Nat.zero_add
theorem gH.{u_1}:∀ {α:Type u_1} (y:α) {a:α} {l:List α},a∈l->a∈y :: l:=@List.mem_cons_of_mem
theorem gJ.{u}:∀ {α:Type u} (xs:List α),[]++xs=xs:=@List.nil_append
theorem gY.{u}:∀ {α:Type u} (xs bs cs:List α),xs++bs++cs=xs++(bs++cs):=@List.append_assoc
theorem iD.{u_1}:∀ {α:Type u_1} {b:α} {l:List α} {a:α},a∈b :: l↔a=b∨a∈l:=@List.mem_cons
theorem iE.{u,v}:∀ {α:Type u} {β:Type v} (fst:α) (snd:β) (agq:α) (akH:β),   ((fst,snd)=(agq,akH))=(fst=agq∧snd=akH):=@Prod.mk.injEq
theorem iK.{u}:∀ {α:Type u} {xs bs:List α},List.length (xs++bs)=List.length xs+List.length bs:=@List.length_append
theorem iP.{u_1}:∀ {α:Type u_1} {a:α} {s t:List α},a∈s++t↔a∈s∨a∈t:=@List.mem_append
theorem iT.{u}:∀ {α:Type u} {a:α} {xs bs:List α},a :: xs++bs=a :: (xs++bs):=@List.cons_append
theorem ji.{u_1}:∀ {α:Type u_1} {i:Nat} {a:α} {l:List α},l[i]?=some a↔∃ h,l[i]=a:=@List.getElem?_eq_some_iff
theorem jk.{u_1}:∀ {α:Type u_1} {i:Nat} {l:List α} (h:i < List.length l),List.take (i+1) l=List.take i l++[l[i]]:=@List.take_succ_eq_append_getElem
theorem jl.{u_1}:∀ {α:Type u_1} {l:List α} {n:Nat} (h:n < List.length l),l[n]∈l:=@List.getElem_mem
theorem jL:∀ (n:Nat),0<=n:=@Nat.zero_le
theorem jM.{u_1,u_2}:∀ {α:Type u_1} {β:Type u_2} {f:α->β} {l₁ l₂:List α},List.map f (l₁++l₂)=List.map f l₁++List.map f l₂:=@List.map_append
theorem jV.{u}:∀ {α:Type u} (xs:List α),xs++[]=xs:=@List.append_nil
theorem kW:∀ {α β:Type} (a:α) (w:Go.World) (f:α->Go.World->Go.Result β),Go.Result.andThen (Go.Result.ok a w) f=f a w:=@Go.Result.andThen_ok
theorem lD.{u}:∀ {α:Type u} {a:α} {xs:List α},List.length (a :: xs)=List.length xs+1:=@List.length_cons
theorem lQ.{u_1}:∀ {α:Type u_1} {l:List α} {i:Nat} {a:α},l[i]?=some a->a∈l:=@List.mem_of_getElem?
theorem lS.{u_1}:∀ {α:Type u_1} {p:α->Bool} {l:List α},List.all l p=true↔∀ (x:α),x∈l->p x=true:=@List.all_eq_true
theorem lT:∀ {p:Prop} [inst:Decidable p],p->decide p=true:=@decide_eq_true
theorem lU.{u_1}:∀ {α:Type u_1} {i:Nat} {l:List α},List.length l<=i->List.take i l=l:=@List.take_of_length_le
theorem lV.{u_1}:∀ {α:Type u_1} (l:List α),List.Sublist l l:=@List.Sublist.refl
theorem mG:∀ (a b:Bool),((a && b)=true)=(a=true∧b=true):=@Bool.and_eq_true
theorem mW.{u_1}:∀ {α:Type u_1} {i:Nat} {l:List α} (h:i < List.length l),List.drop i l=l[i] :: List.drop (i+1) l:=@List.drop_eq_getElem_cons
theorem nG.{u_1,u_2}:∀ {α:Type u_1} {b:α} {amg:Type u_2} {x:Option amg} {f:amg->α},   Option.map f x=some b↔∃ a,x=some a∧f a=b:=@Option.map_eq_some_iff
theorem nV:∀ {p:Prop} [Decidable p],¬¬p↔p:=@Decidable.not_not
theorem ou.{u}:∀ {α:Type u} (val alB:α),(some val=some alB)=(val=alB):=@Option.some.injEq
theorem ow.{u_1}:∀ {α:Type u_1} {i:Nat} {l:List α},List.length l<=i->List.drop i l=[]:=@List.drop_of_length_le
theorem oP:∀ {p:Prop} [inst:Decidable p],¬p->decide p=false:=@decide_eq_false
theorem pJ.{u_1,u_2}:∀ {α:Type u_1} {β:Type u_2} {f:α->β} {l:List α} {i:Nat},(List.map f l)[i]?=Option.map f l[i]?:=@List.getElem?_map
theorem pK:∀ {p:Prop} [inst:Decidable p],decide p=true->p:=@of_decide_eq_true
theorem qj.{u_1}:∀ {α:Type u_1} {l₁ l₂:List α} {i:Nat},List.length l₁<=i->(l₁++l₂)[i]?=l₂[i - List.length l₁]?:=@List.getElem?_append_right
theorem qD:∀ {m n:Nat},m∈List.range n↔m < n:=@List.mem_range
theorem qX.{u_1}:∀ {α:Type u_1} {a b:α},a∈[b]↔a=b:=@List.mem_singleton
theorem rW:∀ {α:Type} (P:Go.Program) (w:Go.World) (a:α),Go.Sem.run P (pure a) w=Go.Result.ok a w:=@Go.Sem.run_pure
theorem sV.{u_1}:∀ {α:Type u_1} {l:List α} {i j:Nat},(List.take i l)[j]?=if j < i then l[j]? else none:=@List.getElem?_take
theorem sW:∀ {p:Prop} [inst:Decidable p],(decide p=true)=p:=@decide_eq_true_eq
theorem sZ.{u_1}:∀ {α:Type u_1} {l₁ l₂:List α} {i:Nat},i < List.length l₁->(l₁++l₂)[i]?=l₁[i]?:=@List.getElem?_append_left
theorem tq.{u,v}:∀ {α:Type u} {β:Type v} {f:α->β},List.map f []=[]:=@List.map_nil
theorem um.{u_1}:∀ {α:Type u_1} {l₁ l₂:List α},List.Perm (l₁++l₂) (l₂++l₁):=@List.perm_append_comm
theorem uZ.{u_1}:∀ {α:Type u_1} {xs:Array α},List.length xs.toList=Array.size xs:=@Array.length_toList
theorem vg.{u_1}:∀ {α:Type u_1} {l:List α},List.take (List.length l) l=l:=@List.take_length
theorem wB:∀ (n:Nat),n+0=n:=@Nat.add_zero
theorem xq.{u_1}:∀ {α:Type u_1} [inst:BEq α] [LawfulBEq α] {a:α} {xs:List α},List.contains xs a=true↔a∈xs:=@List.contains_iff_mem
theorem xu.{u}:∀ {α:Type u} {l:List α},List.drop 0 l=l:=@List.drop_zero
theorem yC:(false=true)=False:=@Bool.false_eq_true
theorem zK:∀ {a b:Bool},a=b↔(a=true↔b=true):=@Bool.eq_iff_iff
theorem AJ:∀ {n m:Nat},Nat.beq n m=true->n=m:=@Nat.eq_of_beq_eq_true
theorem AL.{u}:∀ {α:Type u} {R:α->α->Prop} {a:α} {l:List α},   List.Pairwise R (a :: l)↔(∀ (a':α),a'∈l->R a a')∧List.Pairwise R l:=@List.pairwise_cons
theorem AO.{u_1}:∀ {α:Type u_1} {a:α} {l:List α},(a :: l)[0]?=some a:=@List.getElem?_cons_zero
theorem Dq.{u_1}:∀ {α:Type u_1} (a:α) (l:List α),List.Sublist l (a :: l):=@List.sublist_cons_self
theorem Dr:∀ {p:Prop} {x:Decidable p},decide p=false↔¬p:=@decide_eq_false_iff_not
theorem Dt.{u}:∀ {α:Type u} {a:α} {l:List α} {i:Nat},List.drop (i+1) (a :: l)=List.drop i l:=@List.drop_succ_cons
theorem Gq:∀ (n m:Nat),n+m - n=m:=@Nat.add_sub_cancel_left
theorem Jk:∀ (b:Bool),(true && b)=b:=@Bool.true_and
abbrev ah := Value
theorem iq {a b:Bool} (h:a=b):Value.bool a=Value.bool b:=congrArg _ h
end
abbrev aW (f : FuncId) : Prop := ∀ (args : Array Value) (w : World), (callFunc f args).run Tryz.prog w = .ok (.enter f args) w
open Go.RowKit
section
def FW (r:Option Nat):Fence:={ Fence.wide with round:=r }
theorem O1 (r:Option Nat):(FW r).depth.isSome=true->1<=(0:Nat):=by intro h;cases h
abbrev WP (r:Option Nat) (P:Program) (c:Code) (Q:Exit->Act->World->Prop) (a:Act) (w:World):Prop:=c.wpIn (FW r) 0 P Q a w
abbrev WL (r:Option Nat) (P:Program) (ops:Array Oper) (Q:Exit->Act->World->Prop) (l:List Oper) (a:Act) (w:World):Prop:=wpListIn (FW r) 0 P ops Q l a w
theorem VO {r:Option Nat} {n:Nat} {P:Program} {f:FuncId} {args:Array ah} {w:World} {R:Ending->World->Prop} (h:Calls P f args w R):CallsIn (FW r) n P f args w R:=callsIn_wide.2 h
theorem aoh {r:Option Nat} {n:Nat} {P:Program} {f:FuncId} {args:Array ah} {w:World} {R:Ending->World->Prop} (h:CallsIn (FW r) n P f args w R):Calls P f args w R:=callsIn_wide.1 h
def lk:List (Nat × ah)->Nat->Option ah
 | [],_=>none
 | (s,v) :: r,t=>bif Nat.beq s t then some v else lk r t
theorem lI (t:Nat) (v:ah) (T:List (Nat × ah)):lk ((t,v) :: T) t=some v:=by simp [lk]
theorem gy {s t:Nat} (h:s≠t) (v:ah) (T:List (Nat × ah)):lk ((s,v) :: T) t=lk T t:=by
 have:Nat.beq s t=false:=by
  cases h':Nat.beq s t with
  | false=>rfl
  | true=>exact absurd (AJ h') h
 simp [lk,this]
def ev (T:List (Nat × ah)):Operand->Option ah
 | .tmp t=>lk T t
 | .const v=>some v
 | .global g=>some (.pointer (some ⟨g,0,none⟩))
 | .func f=>some (.func (.func f) #[] #[])
def evs (T:List (Nat × ah)):List Operand->Option (List ah)
 | []=>some []
 | x :: r=>match ev T x,evs T r with|some v,some vs=>some (v :: vs)|_,_=>none
abbrev GH:=Nat->Option Obj
structure Hp (w0:World) (F:Nat->Prop) (G0 G:GH) (L:List (Nat × Obj)) (w:World):Prop where
 os:w.os=w0.os
 tape:w.tape=w0.tape
 output:w.output=w0.output
 size:w0.heap.size<=w.heap.size
 wK:∀ k,F k->k < w0.heap.size
 fr:∀ k,F k->w.heap[k]?=w0.heap[k]?
 ro:∀ k o,G k=some o->w.heap[k]?=some o
 gm:∀ k o,G0 k=some o->G k=some o
 gx:∀ k o,G k=some o->G0 k=some o∨¬ F k
 own:∀ p∈L,w.heap[p.1]?=some p.2
 uN:∀ p∈L,G p.1=none
 uM:∀ p∈L,¬ F p.1
 nd:L.Pairwise fun p q=>p.1≠q.1
structure St (N:Nat) (D:List Deferred) (w0:World) (F:Nat->Prop) (G0 G:GH) (L:List (Nat × Obj)) (T:List (Nat × ah)) (a:Act) (w:World):Prop where
 nH:a.tmps.size=N
 get:∀ t v,lk T t=some v->a.tmps[t]?=some v
 tu:a.defers=D
 hp:Hp w0 F G0 G L w
theorem lt_of_heap {w:World} {k:Nat} {o:Obj} (h:w.heap[k]?=some o):k < w.heap.size:=(Array.getElem?_eq_some_iff.1 h).1
structure xk (b:Nat) (o:Obj) (w w':World):Prop where
 os:w'.os=w.os
 tape:w'.tape=w.tape
 output:w'.output=w.output
 size:w'.heap.size=w.heap.size
 this:w'.heap[b]?=some o
 others:∀ k,k≠b->w'.heap[k]?=w.heap[k]?
section
variable {N:Nat} {D:List Deferred} {w0 w w':World} {F:Nat->Prop} {G0 G G':GH} {L L':List (Nat × Obj)} {T:List (Nat × ah)} {a:Act} {b:Nat} {o o':Obj}
theorem Hp.lt (h:Hp w0 F G0 G L w) {p:Nat × Obj} (hp:p∈L):p.1 < w.heap.size:=lt_of_heap (h.own p hp)
theorem Hp.alloc (h:Hp w0 F G0 G L w) (o:Obj):Hp w0 F G0 G ((w.heap.size,o) :: L) (w.alloc o):=by
 have hold:∀ k,k < w.heap.size->(w.alloc o).heap[k]?=w.heap[k]?:=fun k hk=>Below.heap_alloc w o k hk
 refine ⟨h.os,h.tape,h.output,by simp;exact Nat.le_succ_of_le h.size,h.wK,fun k hk=>(hold k (Nat.lt_of_lt_of_le (h.wK k hk) h.size)).trans (h.fr k hk),fun k o' hk=>(hold k (lt_of_heap (h.ro k o' hk))).trans (h.ro k o' hk),h.gm,h.gx,?_,?_,?_,?_⟩
 ·intro p hp
  rcases iD.1 hp with rfl|hp
  ·show (w.heap.push o)[w.heap.size]?=some o;simp
  ·exact (hold _ (h.lt hp)).trans (h.own p hp)
 ·intro p hp
  rcases iD.1 hp with rfl|hp
  ·cases hg:G w.heap.size with
   | none=>rfl
   | some o'=>exact absurd (lt_of_heap (h.ro _ _ hg)) (Nat.lt_irrefl _)
  ·exact h.uN p hp
 ·intro p hp
  rcases iD.1 hp with rfl|hp
  ·intro hf;exact absurd (Nat.lt_of_lt_of_le (h.wK _ hf) h.size) (Nat.lt_irrefl _)
  ·exact h.uM p hp
 ·refine AL.2 ⟨fun q hq=>?_,h.nd⟩
  have:=h.lt hq
  simp only;omega
theorem Hp.below (h:Hp w0 F G0 G L w) (hb:Below w.heap.size w w'):Hp w0 F G0 G L w':=by
 refine ⟨hb.os.trans h.os,hb.tape.trans h.tape,hb.output.trans h.output,Nat.le_trans h.size hb.size,h.wK,fun k hk=>(hb.block k (Nat.lt_of_lt_of_le (h.wK k hk) h.size)).trans (h.fr k hk),fun k o hk=>(hb.block k (lt_of_heap (h.ro k o hk))).trans (h.ro k o hk),h.gm,h.gx,fun p hp=>(hb.block _ (h.lt hp)).trans (h.own p hp),h.uN,h.uM,h.nd⟩
def Ext (n1:Nat) (G G':GH) (w':World):Prop:=(∀ k o,G k=some o->G' k=some o)∧(∀ k o,G' k=some o->G k=some o∨n1<=k)∧(∀ k o,G' k=some o->w'.heap[k]?=some o)
theorem Hp.abf (h:Hp w0 F G0 G L w) (hb:Below w.heap.size w w') (hx:Ext w.heap.size G G' w'):Hp w0 F G0 G' L w':=by
 have h':=h.below hb
 refine ⟨h'.os,h'.tape,h'.output,h'.size,h'.wK,h'.fr,hx.2.2,fun k o hk=>hx.1 k o (h.gm k o hk),fun k o hk=>?_,h'.own,fun p hp=>?_,h'.uM,h'.nd⟩
 ·rcases hx.2.1 k o hk with hk|hk
  ·exact h.gx k o hk
  ·exact .inr fun hf=>absurd (Nat.lt_of_lt_of_le (h.wK k hf) h.size) V
 ·cases hg:G' p.1 with
  | none=>rfl
  | some o =>
   rcases hx.2.1 _ _ hg with hk|hk
   ·rw [h.uN p hp] at hk;cases hk
   ·exact absurd (h.lt hp) V
theorem Zf:∀ {L:List (Nat × Obj)} {i b:Nat} {o o':Obj},L.Pairwise (fun p q=>p.1≠q.1)->L[i]?=some (b,o)->(L.set i (b,o')).Pairwise fun p q=>p.1≠q.1
 | [],_,_,_,_,h,_=>h
 | p :: L,0,b,o,o',h,hi=>by
  simp only [AO,ou] at hi
  subst hi
  exact AL.2 ⟨(AL.1 h).1,(AL.1 h).2⟩
 | p :: L,i+1,b,o,o',h,hi=>by
  simp only [List.getElem?_cons_succ] at hi
  refine AL.2 ⟨fun q hq=>?_,Zf (AL.1 h).2 hi⟩
  rcases List.mem_or_eq_of_mem_set hq with hq|rfl
  ·exact (AL.1 h).1 q hq
  ·exact (AL.1 h).1 (b,o) (lQ hi)
theorem YZ:∀ {L:List (Nat × Obj)} {i:Nat} {p q:Nat × Obj},L.Pairwise (fun p q=>p.1≠q.1)->L[i]?=some p->q∈L->q.1=p.1->q=p
 | [],_,_,_,_,h,_,_=>by simp at h
 | x :: L,0,p,q,h,hi,hq,e=>by
  simp only [AO,ou] at hi
  subst hi
  rcases iD.1 hq with rfl|hq
  ·rfl
  ·exact absurd e.symm ((AL.1 h).1 q hq)
 | x :: L,i+1,p,q,h,hi,hq,e=>by
  simp only [List.getElem?_cons_succ] at hi
  rcases iD.1 hq with rfl|hq
  ·exact absurd e ((AL.1 h).1 p (lQ hi))
  ·exact YZ (AL.1 h).2 hi hq e
theorem Hp.upd (h:Hp w0 F G0 G L w) {i:Nat} (hi:L[i]?=some (b,o)) (hu:xk b o' w w'):Hp w0 F G0 G (L.set i (b,o')) w':=by
 have hm:(b,o)∈L:=lQ hi
 refine ⟨hu.os.trans h.os,hu.tape.trans h.tape,hu.output.trans h.output,hu.size ▸ h.size,h.wK,fun k hk=>?_,fun k o hk=>?_,h.gm,h.gx,fun p hp=>?_,fun p hp=>?_,fun p hp=>?_,Zf h.nd hi⟩
 ·exact (hu.others k (fun e=>h.uM _ hm (e ▸ hk))).trans (h.fr k hk)
 ·refine (hu.others k (fun e=>?_)).trans (h.ro k o hk)
  have:=h.uN _ hm
  rw [<- e,hk] at this;cases this
 ·by_cases e:p.1=b
  ·rcases List.mem_or_eq_of_mem_set hp with hp'|rfl
   ·obtain ⟨j,hj⟩:=List.getElem?_of_mem hp
    have hib:i < L.length:=(ji.1 hi).1
    have hset:(L.set i (b,o'))[i]?=some (b,o'):=by simp [hib]
    have:=YZ (Zf (o':=o') h.nd hi) hset hp e
    rw [this];exact hu.this
   ·exact hu.this
  ·rcases List.mem_or_eq_of_mem_set hp with hp|rfl
   ·exact (hu.others _ e).trans (h.own p hp)
   ·exact absurd O e
 ·rcases List.mem_or_eq_of_mem_set hp with hp|rfl
  ·exact h.uN p hp
  ·exact (h.uN (b,o) hm:G b=none)
 ·rcases List.mem_or_eq_of_mem_set hp with hp|rfl
  ·exact h.uM p hp
  ·exact (h.uM (b,o) hm:¬ F b)
theorem Hp.drew (h:Hp w0 F G0 G L w):Hp w0 F G0 G L w.drew:=⟨h.os,h.tape,h.output,h.size,h.wK,h.fr,h.ro,h.gm,h.gx,h.own,h.uN,h.uM,h.nd⟩
theorem Hp.drop (h:Hp w0 F G0 G L w) (hs:L'.Sublist L):Hp w0 F G0 G L' w:=⟨h.os,h.tape,h.output,h.size,h.wK,h.fr,h.ro,h.gm,h.gx,fun p hp=>h.own p (hs.subset hp),fun p hp=>h.uN p (hs.subset hp),fun p hp=>h.uM p (hs.subset hp),h.nd.sublist hs⟩
theorem Hp.dV {Pl dL Lo:List (Nat × Obj)} (h:Hp w0 F G0 G (Pl++Lo) w) (idx:List Nat) (hi:idx.Nodup) (hL:idx.map (fun i=>Pl[i]?)=dL.map some):Hp w0 F G0 G (dL++Lo) w:=by
 have hget:∀ (j:Nat) (p:Nat × Obj),dL[j]?=some p->∃ i:Nat,idx[j]?=some i∧Pl[i]?=some p:=by
  intro j p hp
  have h1:(idx.map (fun i=>Pl[i]?))[j]?=some (some p):=by rw [hL];simp [hp]
  rw [pJ] at h1
  obtain ⟨i,hi1,hi2⟩:=nG.1 h1
  exact ⟨i,hi1,hi2⟩
 have hmem:∀ p∈dL++Lo,p∈Pl++Lo:=by
  intro p hp
  rcases iP.1 hp with hp|hp
  ·obtain ⟨j,hj⟩:=List.getElem?_of_mem hp
   obtain ⟨i,_,hi2⟩:=hget j p hj
   exact List.mem_append_left _ (lQ hi2)
  ·exact List.mem_append_right _ hp
 have hnd:=List.pairwise_append.1 h.nd
 refine ⟨h.os,h.tape,h.output,h.size,h.wK,h.fr,h.ro,h.gm,h.gx,fun p hp=>h.own p (hmem p hp),fun p hp=>h.uN p (hmem p hp),fun p hp=>h.uM p (hmem p hp),List.pairwise_append.2 ⟨?_,hnd.2.1,fun p hp q hq=>?_⟩⟩
 ·refine List.pairwise_iff_getElem.2 fun x y hx hy hxy=>?_
  obtain ⟨i,hi1,hi2⟩:=hget x _ (fF hx)
  obtain ⟨j,hj1,hj2⟩:=hget y _ (fF hy)
  have hij:i≠j:=by
   intro e
   subst e
   obtain ⟨hx1,hx2⟩:=ji.1 hi1
   obtain ⟨hy1,hy2⟩:=ji.1 hj1
   exact (List.pairwise_iff_getElem.1 hi x y hx1 hy1 hxy) (by rw [hx2,hy2])
  obtain ⟨hi3,hi4⟩:=ji.1 hi2
  obtain ⟨hj3,hj4⟩:=ji.1 hj2
  rcases Nat.lt_or_ge i j with hlt|hge
  ·rw [<- hi4,<- hj4];exact List.pairwise_iff_getElem.1 hnd.1 i j hi3 hj3 hlt
  ·rw [<- hi4,<- hj4];exact Ne.symm (List.pairwise_iff_getElem.1 hnd.1 j i hj3 hi3 V)
 ·obtain ⟨j,hj⟩:=List.getElem?_of_mem hp
  obtain ⟨i,_,hi2⟩:=hget j p hj
  exact hnd.2.2 p (lQ hi2) q hq
def GH.add (G:GH) (b:Nat) (o:Obj):GH:=fun k=>if k=b then some o else G k
theorem GH.Jj (G:GH) {b:Nat} {o:Obj} (hn:G b=none) (k:Nat) (o':Obj) (h:G k=some o'):(G.add b o) k=some o':=by
 unfold GH.add;rw [ay (fun e=>by subst e;rw [hn] at h;cases h)];exact h
theorem GH.Gp (G:GH) (b:Nat) (o:Obj):(G.add b o) b=some o:=by simp [GH.add]
theorem Hp.giveUp (h:Hp w0 F G0 G L w) (i:Nat) (hi:L[i]?=some (b,o)):Hp w0 F G0 (G.add b o) (L.eraseIdx i) w:=by
 have hm:(b,o)∈L:=lQ hi
 have hsub:(L.eraseIdx i).Sublist L:=List.eraseIdx_sublist L i
 have hne:∀ p∈L.eraseIdx i,p.1≠b:=by
  intro p hp e
  have h1:=YZ h.nd hi (hsub.subset hp) e
  subst h1
  obtain ⟨j,hj,hjp⟩:=List.mem_eraseIdx_iff_getElem?.1 hp
  have hnd:=h.nd
  have hij:j≠i:=hj
  have hlt1:j < L.length:=(ji.1 hjp).1
  have hlt2:i < L.length:=(ji.1 hi).1
  have e1:=(ji.1 hjp).2
  have e2:=(ji.1 hi).2
  rcases Nat.lt_or_ge j i with hlt|hge
  ·exact (List.pairwise_iff_getElem.1 hnd j i hlt1 hlt2 hlt) (by rw [e1,e2])
  ·exact (List.pairwise_iff_getElem.1 hnd i j hlt2 hlt1 V) (by rw [e1,e2])
 refine ⟨h.os,h.tape,h.output,h.size,h.wK,h.fr,fun k o' hk=>?_,fun k o' hk=>GH.Jj G (h.uN _ hm) k o' (h.gm k o' hk),fun k o' hk=>?_,fun p hp=>h.own p (hsub.subset hp),fun p hp=>?_,fun p hp=>h.uM p (hsub.subset hp),h.nd.sublist hsub⟩
 ·unfold GH.add at hk
  split at hk
  ·rename_i e;subst e;cases hk;exact h.own _ hm
  ·exact h.ro k o' hk
 ·unfold GH.add at hk
  split at hk
  ·rename_i e;subst e;exact .inr (h.uM _ hm)
  ·exact h.gx k o' hk
 ·unfold GH.add
  rw [ay (hne p hp)]
  exact h.uN p (hsub.subset hp)
theorem St.ev (h:St N D w0 F G0 G L T a w) {x:Operand} {v:ah} (hx:Proofs.YtggpjlchglgodaaGreat.ev T x=some v):a.eval x=v:=by
 cases x with
 | tmp t =>
  have:=h.get t v hx
  simp only [Act.eval,Array.getD_eq_getD_getElem?,this,Option.getD_some]
 | const u=>simp only [Proofs.YtggpjlchglgodaaGreat.ev,ou] at hx;subst hx;rfl
 | global g=>simpa [Proofs.YtggpjlchglgodaaGreat.ev,Act.eval] using hx
 | func f=>simpa [Proofs.YtggpjlchglgodaaGreat.ev,Act.eval] using hx
theorem St.evs (h:St N D w0 F G0 G L T a w):∀ {xs:List Operand} {vs:List ah},Proofs.YtggpjlchglgodaaGreat.evs T xs=some vs->xs.map a.eval=vs
 | [],vs,hx=>by simp [Proofs.YtggpjlchglgodaaGreat.evs] at hx;subst hx;rfl
 | x :: xs,vs,hx=>by
  unfold Proofs.YtggpjlchglgodaaGreat.evs at hx
  split at hx
  ·rename_i v vs' h1 h2
   simp only [ou] at hx
   subst hx
   rw [eP,h.ev h1,h.evs h2]
  ·cases hx
theorem St.put (h:St N D w0 F G0 G L T a w) {d:Nat} (hd:Nat.blt d N=true) (v:ah) (H':Hp w0 F G0 G' L' w'):St N D w0 F G0 G' L' ((d,v) :: T) (a.put (some d) v) w':=by
 have hlt:d < a.tmps.size:=by rw [h.nH];exact Eq.mp Nat.blt_eq hd
 refine ⟨by simp [Act.put,h.nH],fun t u ht=>?_,h.tu,H'⟩
 simp only [Act.put,Array.getElem?_setIfInBounds]
 by_cases e:d=t
 ·subst e
  rw [lI] at ht
  simp [hlt];simpa using ht
 ·rw [gy e] at ht
  simp [e];exact h.get t u ht
theorem St.move (h:St N D w0 F G0 G L T a w) (H':Hp w0 F G0 G' L' w'):St N D w0 F G0 G' L' T a w':=⟨h.nH,h.get,h.tu,H'⟩
def ZO (T:List (Nat × ah)):List (Nat × ah)->Prop
 | []=>True
 | (t,v) :: r=>lk T t=some v∧ZO T r
theorem ala {T:List (Nat × ah)}:∀ {T':List (Nat × ah)},ZO T T'->∀ {t v},lk T' t=some v->lk T t=some v
 | [],_,_,_,h=>by simp [lk] at h
 | (s,u) :: r,hs,t,v,h=>by
  by_cases e:s=t
  ·subst e;rw [lI] at h;exact h ▸ hs.1
  ·rw [gy e] at h;exact ala hs.2 h
theorem St.sub (h:St N D w0 F G0 G L T a w) {T':List (Nat × ah)} (hs:ZO T T'):St N D w0 F G0 G L T' a w:=⟨h.nH,fun t v ht=>h.get t v (ala hs ht),h.tu,h.hp⟩
theorem St.dV {Pl dL Lo:List (Nat × Obj)} (h:St N D w0 F G0 G (Pl++Lo) T a w) (idx:List Nat) (hi:idx.Nodup) (hL:idx.map (fun i=>Pl[i]?)=dL.map some):St N D w0 F G0 G (dL++Lo) T a w:=⟨h.nH,h.get,h.tu,h.hp.dV idx hi hL⟩
end
end
section
section base
variable {r:Option Nat} {P:Program} {ops:Array Oper} {Q:Exit->Act->World->Prop} {rest:List Oper} {a:Act} {w w':World} {o:Oper}
def Sd:Op->Bool
 | .defer _=>false
 | _=>true
theorem ZH {o:Oper} {ro:Option Nat} {ρ:Operand->ah} (h:Sd o.op=true):o.semAt ro ρ=execOp ρ o :=
 Oper.semAt_eq ro ρ o fun c e=>by rw [e] at h;cases h
theorem aF (h:Q .normal a w):WL r P ops Q [] a w:=wpListIn_nil h
theorem aaf (hw:Region.wanted o (yielded ops a.tmps)=true) (h:o.wpIn (FW r) 0 P a w (WL r P ops Q rest) Q):WL r P ops Q (o :: rest) a w:=by
 show wpListIn (FW r) 0 P ops Q (o :: rest) a w
 unfold wpListIn
 rw [aH hw]
 exact h
theorem alT (hw:Region.wanted o (yielded ops a.tmps)=false) (h:WL r P ops Q rest (a.put o.dst undef) w):WL r P ops Q (o :: rest) a w:=by
 show wpListIn (FW r) 0 P ops Q (o :: rest) a w
 unfold wpListIn
 rw [ay (by simp [hw])]
 exact ⟨fun _ _=>trivial,h⟩
theorem fQ {v:ah} (hw:Region.wanted o (yielded ops a.tmps)=true) (hd:Sd o.op=true) (h:(execOp a.eval o).run P w=.ok (.value v) w')
  (k:WL r P ops Q rest (a.put o.dst v) w'):WL r P ops Q (o :: rest) a w:=by
 refine aaf hw ⟨fun _ _=>trivial,?_⟩
 rw [ZH hd,h]
 exact k
theorem TH (hw:Region.wanted o (yielded ops a.tmps)=true) (hd:Sd o.op=true) (h:(execOp a.eval o).run P w=.ok .skip w')
  (k:WL r P ops Q rest (a.put o.dst undef) w'):WL r P ops Q (o :: rest) a w:=by
 refine aaf hw ⟨fun _ _=>trivial,?_⟩
 rw [ZH hd,h]
 exact k
def After (P:Program) (nx:Result Next) (R:Ending->World->Prop):Prop :=
 match nx with
 | .ok (.enter f args) w'=>Calls P f args w' R
 | .ok (.round l f tmps assign body) w'=>RoundIn (FW none) 0 P l f tmps assign body w' R
 | _=>False
structure tY (P:Program) (fv:ah) (args:List ah) (w:World) (R:Ending->World->Prop):Prop where
 go:After P ((do let d <- Deferred.ofValue fv args.toArray;invoke d.target d.args:Sem Next).run P w) R
theorem aae {nx:Result Next} {R:Ending->World->Prop} (hw:Region.wanted o (yielded ops a.tmps)=true) (hd:Sd o.op=true) (h:(execOp a.eval o).run P w=nx) (hc:After P nx R)
  (k:∀ e w',R e w'->∃ v,e=.returned v∧WL r P ops Q rest (a.put o.dst v) w'):WL r P ops Q (o :: rest) a w:=by
 refine aaf hw ⟨fun _ _=>trivial,?_⟩
 rw [ZH hd,h]
 cases nx with
 | halt x y=>exact hc.elim
 | ok x w1 =>
  cases x with
  | enter f args =>
   refine ⟨O1 r,(VO hc).mono fun e w2 hR=>?_⟩
   obtain ⟨v,rfl,hk⟩:=k e w2 hR
   exact hk
  | round l f tmps assign body =>
   have hc':RoundIn (FW none) 0 P l f tmps assign body w1 R:=hc
   refine ⟨O1 r,?_⟩
   have h2:RoundIn (FW r) (0 - 1) P l f tmps assign body w1 R:=⟨aB,fun c cs hr=>hc'.2 c cs (room_wide _)⟩
   exact h2.mono fun e w2 hR=>by obtain ⟨v,rfl,hk⟩:=k e w2 hR;exact hk
  | _=>exact hc.elim
end base
section steps
variable {N:Nat} {D:List Deferred} {w0:World} {F:Nat->Prop} {G0 G:GH} {L:List (Nat × Obj)} {T:List (Nat × ah)}
variable {r:Option Nat} {P:Program} {ops:Array Oper} {Q:Exit->Act->World->Prop} {rest:List Oper} {a:Act} {w:World}
variable {d:Nat} {ty:TypeId} {pos:String} {aL:Array Edge} {g:Option (Nat × Bool)}
theorem wn {op:Op} {dst:Option Tmp} {y:Nat->Option Bool}:Region.wanted ⟨dst,op,ty,pos,aL,none⟩ y=true:=rfl
theorem alV (H:St N D w0 F G0 G L T a w) {j t:Nat} {b:Bool} (hj:(ops[j]?).bind (·.dst)=some t) (ht:lk T t=some (.bool b)):yielded ops a.tmps j=some b:=by
 unfold yielded
 rw [hj]
 simp [H.get t _ ht]
theorem wg (H:St N D w0 F G0 G L T a w) {op:Op} {dst:Option Tmp} {j t:Nat} {want b:Bool} (hj:(ops[j]?).bind (·.dst)=some t) (ht:lk T t=some (.bool b)) (hb:b=want) :
  Region.wanted ⟨dst,op,ty,pos,aL,some (j,want)⟩ (yielded ops a.tmps)=true:=by
 simp [Region.wanted,alV H hj ht,hb]
theorem akw (H:St N D w0 F G0 G L T a w) {op:Op} {j t:Nat} {want b:Bool} (hj:(ops[j]?).bind (·.dst)=some t) (ht:lk T t=some (.bool b)) (hb:b=!want) (hd:Nat.blt d N=true)
  (k:∀ a',St N D w0 F G0 G L ((d,undef) :: T) a' w->WL r P ops Q rest a' w):WL r P ops Q (⟨some d,op,ty,pos,aL,some (j,want)⟩ :: rest) a w:=by
 refine alT ?_ (k _ (H.put hd undef H.hp))
 simp only [Region.wanted,alV H hj ht,hb]
 cases want <;> rfl
theorem aA5 (H:St N D w0 F G0 G L T a w) {op:Op} {j t:Nat} {want:Bool} (hj:(ops[j]?).bind (·.dst)=some t) (ht:lk T t=some undef) (hd:Nat.blt d N=true)
  (k:∀ a',St N D w0 F G0 G L ((d,undef) :: T) a' w->WL r P ops Q rest a' w):WL r P ops Q (⟨some d,op,ty,pos,aL,some (j,want)⟩ :: rest) a w:=by
 refine alT ?_ (k _ (H.put hd undef H.hp))
 have h:yielded ops a.tmps j=none:=by
  unfold yielded
  rw [hj]
  simp [H.get t _ ht,undef]
 simp only [Region.wanted,h]
 cases want <;> rfl
theorem SY (_H:St N D w0 F G0 G L T a w) (t:Nat) {b:Bool} {X:Prop} (_ht:lk T t=some (.bool b)) (h1:b=true->X) (h0:b=false->X):X:=by cases b <;> simp_all
theorem FI {x:Operand} {v:ah} (H:St N D w0 F G0 G L T a w) (hw:Region.wanted ⟨some d,.move x,ty,pos,aL,g⟩ (yielded ops a.tmps)=true) (hx:ev T x=some v) (hd:Nat.blt d N=true)
  (k:∀ a',St N D w0 F G0 G L ((d,v) :: T) a' w->WL r P ops Q rest a' w):WL r P ops Q (⟨some d,.move x,ty,pos,aL,g⟩ :: rest) a w :=
 fQ (v:=v) (w':=w) hw O (by simp [execOp,H.ev hx]) (k _ (H.put hd v H.hp))
theorem aAP {x:Operand} {v:ah} (H:St N D w0 F G0 G L T a w) (hw:Region.wanted ⟨some d,.assign x,ty,pos,aL,g⟩ (yielded ops a.tmps)=true) (hx:ev T x=some v) (hd:Nat.blt d N=true)
  (k:∀ a',St N D w0 F G0 G L ((d,v) :: T) a' w->WL r P ops Q rest a' w):WL r P ops Q (⟨some d,.assign x,ty,pos,aL,g⟩ :: rest) a w :=
 fQ (v:=v) (w':=w) hw O (by simp [execOp,H.ev hx]) (k _ (H.put hd v H.hp))
theorem Le {c x y:Operand} {b:Bool} {v:ah} (H:St N D w0 F G0 G L T a w) (hw:Region.wanted ⟨some d,.pick c x y,ty,pos,aL,g⟩ (yielded ops a.tmps)=true) (hc:ev T c=some (.bool b)) (hb:b=true) (hx:ev T x=some v) (hd:Nat.blt d N=true)
  (k:∀ a',St N D w0 F G0 G L ((d,v) :: T) a' w->WL r P ops Q rest a' w):WL r P ops Q (⟨some d,.pick c x y,ty,pos,aL,g⟩ :: rest) a w :=
 fQ (v:=v) (w':=w) hw O (by simp [execOp,H.ev hx,H.ev hc,asBool,hb]) (k _ (H.put hd v H.hp))
theorem Ov {c x y:Operand} {b:Bool} {v:ah} (H:St N D w0 F G0 G L T a w) (hw:Region.wanted ⟨some d,.pick c x y,ty,pos,aL,g⟩ (yielded ops a.tmps)=true) (hc:ev T c=some (.bool b)) (hb:b=false) (hx:ev T y=some v) (hd:Nat.blt d N=true)
  (k:∀ a',St N D w0 F G0 G L ((d,v) :: T) a' w->WL r P ops Q rest a' w):WL r P ops Q (⟨some d,.pick c x y,ty,pos,aL,g⟩ :: rest) a w :=
 fQ (v:=v) (w':=w) hw O (by simp [execOp,H.ev hx,H.ev hc,asBool,hb]) (k _ (H.put hd v H.hp))
class Und (P:Program) (t:TypeId) (d:outParam TypeDesc):Prop where
 h:P.underlying t=some d
class Ty (P:Program) (t:TypeId) (sz bytes:outParam Nat) (zero:outParam (List ah)) (agg:outParam Bool):Prop where
 info:(P.info? t).map (fun i=>(i.size,i.bytes,i.zero.map fun z=>z.cells.toList))=some (sz,bytes,some zero)
 ag:(P.underlying t).map (fun|.struct _=>true|.array _ _=>true|_=>false)=some agg
theorem Ty.parts {t:TypeId} {sz bytes:Nat} {zero:List ah} {agg:Bool} (h:Ty P t sz bytes zero agg):∃ i z,P.info? t=some i∧i.size=sz∧i.bytes=bytes∧i.zero=some z∧z.cells=zero.toArray:=by
 obtain ⟨i,hi,hx⟩:=nG.1 h.info
 simp only [iE] at hx
 obtain ⟨z,hz,hzz⟩:=nG.1 hx.2.2
 exact ⟨i,z,hi,hx.1,hx.2.1,hz,by rw [<- hzz]⟩
theorem CO {t:TypeId} {i:TypeInfo} (h:P.info? t=some i) (w:World):(typeInfo t).run P w=.ok i w:=by simp [typeInfo,program,Sem.run,dM,h]
theorem Ty.CP {t:TypeId} {sz bytes:Nat} {zero:List ah} {agg:Bool} (h:Ty P t sz bytes zero agg) (w:World):(sizeOf t).run P w=.ok sz w:=by
 obtain ⟨i,z,hi,h1,-,-,-⟩:=h.parts
 simp [sizeOf,dM,CO hi,h1]
theorem Ty.akm {t:TypeId} {sz bytes:Nat} {zero:List ah} {agg:Bool} (h:Ty P t sz bytes zero agg) (w:World):∃ z,(zeroValue t).run P w=.ok z w∧z.cells=zero.toArray:=by
 obtain ⟨i,z,hi,-,-,h1,h2⟩:=h.parts
 exact ⟨z,by simp [zeroValue,dM,CO hi,h1],h2⟩
theorem lC {t:TypeId} {u:TypeDesc} (h:P.underlying t=some u) (w:World):(underlying t).run P w=.ok u w:=by simp [underlying,program,Sem.run,dM,h]
theorem Ty.SI {t:TypeId} {sz bytes:Nat} {zero:List ah} {agg:Bool} (h:Ty P t sz bytes zero agg) (w:World):(isAgg t).run P w=.ok agg w:=by
 obtain ⟨u,hu,hx⟩:=nG.1 h.ag
 unfold isAgg
 simp only [dM,lC hu,kW]
 cases u <;> simp_all
theorem dR {elem:TypeId} {sz bytes:Nat} {zero:List ah} {agg:Bool} (ht:Ty P elem sz bytes zero agg) (H:St N D w0 F G0 G L T a w) (hw:Region.wanted ⟨some d,.alloc elem,ty,pos,aL,g⟩ (yielded ops a.tmps)=true) (hd:Nat.blt d N=true)
  (k:∀ b a' w',w0.heap.size<=b->St N D w0 F G0 G ((b,.cells zero.toArray elem (0,0)) :: L) ((d,.pointer (some ⟨b,0,none⟩)) :: T) a' w'->WL r P ops Q rest a' w'):WL r P ops Q (⟨some d,.alloc elem,ty,pos,aL,g⟩ :: rest) a w:=by
 obtain ⟨z,hz,hzc⟩:=ht.akm w
 refine fQ (v:=.pointer (some ⟨w.heap.size,0,none⟩)) (w':=w.alloc (.cells zero.toArray elem (0,0))) hw O ?_ (k _ _ _ H.hp.size (H.put hd _ (H.hp.alloc _)))
 simp [execOp,Instr.alloc,dM,hz,newVar,newRow,newObj,Sem.run,hzc]
theorem eB {elem:TypeId} {x:Operand} {v:ah} {cs:List ah} (H:St N D w0 F G0 G L T a w) (hw:Region.wanted ⟨some d,.box elem x,ty,pos,aL,g⟩ (yielded ops a.tmps)=true) (hx:ev T x=some v) (hc:v.cells=cs.toArray) (hd:Nat.blt d N=true)
  (k:∀ b a' w',w0.heap.size<=b->St N D w0 F G0 G ((b,.cells cs.toArray elem (0,0)) :: L) ((d,.pointer (some ⟨b,0,none⟩)) :: T) a' w'->WL r P ops Q rest a' w'):WL r P ops Q (⟨some d,.box elem x,ty,pos,aL,g⟩ :: rest) a w:=by
 refine fQ (v:=.pointer (some ⟨w.heap.size,0,none⟩)) (w':=w.alloc (.cells cs.toArray elem (0,0))) hw O ?_ (k _ _ _ H.hp.size (H.put hd _ (H.hp.alloc _)))
 simp [execOp,Instr.box,dM,newVar,newRow,newObj,Sem.run,H.ev hx,hc]
def aI (G:GH) (b o:Nat):Option ah:=match G b with|some (.cells c _ _)=>c[o]?|_=>none
theorem Hp.aI (h:Hp w0 F G0 G L w) {b o:Nat} {v:ah} (hg:Proofs.YtggpjlchglgodaaGreat.aI G b o=some v):w.cell? ⟨b,o,none⟩=some v:=by
 unfold Proofs.YtggpjlchglgodaaGreat.aI at hg
 split at hg
 ·rename_i c e f he
  simp only [World.cell?,h.ro b _ he]
  exact hg
 ·cases hg
theorem Hp.tO (h:Hp w0 F G0 G L w) (i:Nat) {b o:Nat} {c:Array ah} {e:TypeId} {fz:Nat × Nat} {v:ah} (hi:L[i]?=some (b,.cells c e fz)) (hv:c[o]?=some v):w.cell? ⟨b,o,none⟩=some v:=by
 have:=h.own _ (lQ hi)
 simp only [World.cell?] at *
 rw [this]
 exact hv
theorem add_lit (b o n:Nat):(⟨b,o,none⟩:Addr).add n=⟨b,o+n,none⟩:=by
 unfold Addr.add
 split
 ·rename_i h;subst h;rfl
 ·rfl
theorem Zr {b o:Nat} {v:ah} (h:w.cell? ⟨b,o,none⟩=some v):(load ⟨b,o,none⟩).run P w=.ok v w:=by simp [load,Sem.run,h]
theorem run_loadCells (b:Nat) (w:World):∀ (cs:List ah) (o i:Nat) (acc:Array ah),(∀ j v,cs[j]?=some v->w.cell? ⟨b,o+i+j,none⟩=some v) ->
  (loadCellsFrom ⟨b,o,none⟩ i cs.length acc).run P w=.ok (acc++cs.toArray) w
 | [],o,i,acc,_=>by simp [loadCellsFrom,Sem.run]
 | c :: cs,o,i,acc,h=>by
  have h0:=h 0 c O
  have ih:=run_loadCells b w cs o (i+1) (acc.push c) (fun j v hj=>by have:=h (j+1) v (by simpa using hj);rw [<- this];congr 2;omega)
  simp only [loadCellsFrom,lD,dM,add_lit,Zr (P:=P) (by simpa using h0),kW,ih]
  congr 1
  apply Array.ext'
  simp
theorem tQ {t:TypeId} {sz bytes:Nat} {zero:List ah} (ht:Ty P t sz bytes zero false) {x:Operand} {b o:Nat} {v:ah} (H:St N D w0 F G0 G L T a w) (hw:Region.wanted ⟨some d,.load t x,ty,pos,aL,g⟩ (yielded ops a.tmps)=true)
  (hx:ev T x=some (.pointer (some ⟨b,o,none⟩))) (hc:w.cell? ⟨b,o,none⟩=some v) (hd:Nat.blt d N=true)
  (k:∀ a',St N D w0 F G0 G L ((d,v) :: T) a' w->WL r P ops Q rest a' w):WL r P ops Q (⟨some d,.load t x,ty,pos,aL,g⟩ :: rest) a w:=by
 refine fQ (v:=v) (w':=w) hw O ?_ (k _ (H.put hd v H.hp))
 simp only [execOp,Instr.loadAt,Instr.sureAddr,loadVar,dM,H.ev hx,ht.SI,kW,rW,yC,if_false,Zr hc]
theorem bq {t:TypeId} {sz bytes:Nat} {zero:List ah} (ht:Ty P t sz bytes zero true) {x:Operand} {b o:Nat} {cs:List ah} (H:St N D w0 F G0 G L T a w) (hw:Region.wanted ⟨some d,.load t x,ty,pos,aL,g⟩ (yielded ops a.tmps)=true)
  (hx:ev T x=some (.pointer (some ⟨b,o,none⟩))) (hl:cs.length=sz) (hc:∀ j v,cs[j]?=some v->w.cell? ⟨b,o+j,none⟩=some v) (hd:Nat.blt d N=true)
  (k:∀ a',St N D w0 F G0 G L ((d,.agg cs.toArray) :: T) a' w->WL r P ops Q rest a' w):WL r P ops Q (⟨some d,.load t x,ty,pos,aL,g⟩ :: rest) a w:=by
 refine fQ (v:=.agg cs.toArray) (w':=w) hw O ?_ (k _ (H.put hd _ H.hp))
 have h1:=run_loadCells (P:=P) b w cs o 0 #[] (fun j v hj=>by simpa using hc j v hj)
 simp only [Array.empty_append,hl] at h1
 simp [execOp,Instr.loadAt,Instr.sureAddr,loadVar,dM,H.ev hx,ht.SI,ht.CP,loadCells,h1]
theorem Hp.dD (h:Hp w0 F G0 G L w) (i:Nat) {b o:Nat} {c:List ah} {e:TypeId} {fz:Nat × Nat} {cs:List ah} (hi:L[i]?=some (b,.cells c.toArray e fz)) (hv:(c.drop o).take cs.length=cs):∀ j v,cs[j]?=some v->w.cell? ⟨b,o+j,none⟩=some v:=by
 intro j v hj
 refine h.tO i hi ?_
 rw [<- hv,sV] at hj
 split at hj
 ·rw [List.getElem?_drop] at hj
  simpa using hj
 ·cases hj
theorem aCs {b o:Nat} {c:Array ah} {e:TypeId} {fz:Nat × Nat} (h:w.heap[b]?=some (.cells c e fz)) (v:ah):xk b (.cells (c.setIfInBounds o v) e fz) w (w.setCell ⟨b,o,none⟩ v):=by
 refine ⟨O,O,O,by simp,?_,fun k hk=>Below.heap_setCell w _ v k hk⟩
 simp [World.setCell,Array.getElem?_modify,h]
theorem xk.trans {b:Nat} {o1 o2:Obj} {w1 w2 w3:World} (h:xk b o1 w1 w2) (k:xk b o2 w2 w3):xk b o2 w1 w3 :=
 ⟨k.os.trans h.os,k.tape.trans h.tape,k.output.trans h.output,k.size.trans h.size,k.this,fun j hj=>(k.others j hj).trans (h.others j hj)⟩
theorem xk.refl {b:Nat} {o:Obj} {w:World} (h:w.heap[b]?=some o):xk b o w w:=⟨O,O,O,O,h,fun _ _=>rfl⟩
def oneCell':ah->Bool
 | .agg _|.tuple _=>false
 | _=>true
def setRow (c:List ah):Nat->List ah->List ah
 | _,[]=>c
 | o,v :: vs=>setRow (c.set o v) (o+1) vs
theorem aAE {b o:Nat} {c:Array ah} {e:TypeId} {v:ah} (hb:w.heap[b]?=some (.cells c e (0,0))) (ho:o < c.size) (hv:oneCell' v=true) :
  (store ⟨b,o,none⟩ v).run P w=.ok () (w.setCell ⟨b,o,none⟩ v):=by
 have h1:w.cell? ⟨b,o,none⟩=some c[o]:=by simp [World.cell?,hb,ho]
 have h2:w.frozen? ⟨b,o,none⟩=false:=by simp [World.frozen?,hb]
 unfold store
 cases v <;> first|(simp [oneCell'] at hv;done)|(simp only [Sem.run,h1,h2];rfl)
theorem Zt (b:Nat) (e:TypeId) (o0:Nat):∀ (vs:List ah) (i:Nat) (c:List ah) (w:World),w.heap[b]?=some (.cells c.toArray e (0,0))->o0+i+vs.length<=c.length->(∀ v∈vs,oneCell' v=true) ->
  ∃ w',(storeCells ⟨b,o0,none⟩ vs i).run P w=.ok () w'∧xk b (.cells (setRow c (o0+i) vs).toArray e (0,0)) w w'
 | [],i,c,w,hb,_,_=>⟨w,by simp [storeCells,Sem.run],xk.refl hb⟩
 | v :: vs,i,c,w,hb,hl,hv=>by
  simp only [lD] at hl
  have hr:=aAE (P:=P) (o:=o0+i) (v:=v) hb (by simp;omega) (hv v (by simp))
  have hu:=aCs (o:=o0+i) hb v
  have hb':=hu.this
  simp only [List.setIfInBounds_toArray] at hb' hu
  obtain ⟨w2,h2,u2⟩:=Zt b e o0 vs (i+1) (c.set (o0+i) v) _ hb' (by simp;omega) (fun u hu=>hv u (by simp [hu]))
  refine ⟨w2,?_,?_⟩
  ·simp only [storeCells,dM,add_lit,hr,kW,h2]
  ·exact hu.trans u2
theorem zy {t:TypeId} {sz bytes:Nat} {zero:List ah} {agg:Bool} (ht:Ty P t sz bytes zero agg) {x y:Operand} (i:Nat) {b o:Nat} {c:List ah} {e:TypeId} {v:ah} {vs:List ah} (c':List ah) (H:St N D w0 F G0 G L T a w) (hw:Region.wanted ⟨none,.store t x y,ty,pos,aL,g⟩ (yielded ops a.tmps)=true)
  (hx:ev T x=some (.pointer (some ⟨b,o,none⟩))) (hi:L[i]?=some (b,.cells c.toArray e (0,0))) (hy:ev T y=some v) (hvs:v.cells=vs.toArray) (hl:Nat.beq vs.length sz=true) (h1:vs.all oneCell'=true) (hle:Nat.ble (o+vs.length) c.length=true) (hset:setRow c o vs=c')
  (k:∀ w',St N D w0 F G0 G (L.set i (b,.cells c'.toArray e (0,0))) T a w'->WL r P ops Q rest a w'):WL r P ops Q (⟨none,.store t x y,ty,pos,aL,g⟩ :: rest) a w:=by
 have hb:=H.hp.own _ (lQ hi)
 obtain ⟨w2,h2,u2⟩:=Zt (P:=P) b e o vs 0 c w hb (by simpa using Nat.le_of_ble_eq_true hle) (fun u hu=>lS.1 h1 u hu)
 simp only [wB,hset] at u2
 refine TH (w':=w2) hw O ?_ (k w2 (H.move (H.hp.upd hi u2)))
 have hl':vs.length=sz:=AJ hl
 simp [execOp,Instr.storeAt,Instr.sureAddr,storeVar,dM,H.ev hx,H.ev hy,ht.CP,hvs,hl',h2]
class dz (P:Program) (s n:Nat) (off:outParam Nat):Prop where
 h:(match P.underlying s with|some (.struct fs)=>(fs[n]?).bind fun f=>(P.info? f.type).map fun i=>(f.offset,i.size == 0)|_=>none)=some (off,false)
theorem dz.parts {s n off:Nat} (h:dz P s n off):∃ fs fl i,P.underlying s=some (.struct fs)∧fs[n]?=some fl∧P.info? fl.type=some i∧fl.offset=off∧i.size≠0:=by
 obtain ⟨h⟩:=h
 split at h
 ·rename_i fs hs
  obtain ⟨fl,hf,h2⟩:=Option.bind_eq_some_iff.1 h
  obtain ⟨i,hi,h3⟩:=nG.1 h2
  simp only [iE,beq_eq_false_iff_ne] at h3
  exact ⟨fs,fl,i,hs,hf,hi,h3.1,h3.2⟩
 ·cases h
theorem CX {s:TypeId} {x:Operand} {n b o off:Nat} (hs:dz P s n off) (H:St N D w0 F G0 G L T a w) (hw:Region.wanted ⟨some d,.fieldAddr s x n,ty,pos,aL,g⟩ (yielded ops a.tmps)=true)
  (hx:ev T x=some (.pointer (some ⟨b,o,none⟩))) (hd:Nat.blt d N=true)
  (k:∀ a',St N D w0 F G0 G L ((d,.pointer (some ⟨b,o+off,none⟩)) :: T) a' w->WL r P ops Q rest a' w):WL r P ops Q (⟨some d,.fieldAddr s x n,ty,pos,aL,g⟩ :: rest) a w:=by
 obtain ⟨fs,fl,i,h1,h2,h3,h4,h5⟩:=hs.parts
 refine fQ (v:=.pointer (some ⟨b,o+off,none⟩)) (w':=w) hw O ?_ (k _ (H.put hd _ H.hp))
 simp only [execOp,Instr.fieldAt,Instr.sureAddr,dM,H.ev hx,lC h1,h2,kW,rW,fieldPlace,sizeOf,CO h3,ay h5,add_lit,h4]
theorem Ld {s e:TypeId} {sz bytes:Nat} {zero:List ah} {agg:Bool} (hs:P.underlying s=some (.slice e)) (ht:Ty P e sz bytes zero agg) {x y:Operand} {b o n c:Nat} {kd:IntKind} {z:Int} (i:Nat) (H:St N D w0 F G0 G L T a w) (hw:Region.wanted ⟨some d,.indexAddr s x y,ty,pos,aL,g⟩ (yielded ops a.tmps)=true)
  (hx:ev T x=some (.slice (some ⟨b,o,none⟩) n c)) (hy:ev T y=some (.int kd z)) (hz:z=(i:Int)) (hn:i < n) (hd:Nat.blt d N=true)
  (k:∀ a',St N D w0 F G0 G L ((d,.pointer (some ⟨b,o+i*sz,none⟩)) :: T) a' w->WL r P ops Q rest a' w):WL r P ops Q (⟨some d,.indexAddr s x y,ty,pos,aL,g⟩ :: rest) a w:=by
 subst hz
 refine fQ (v:=.pointer (some ⟨b,o+i*sz,none⟩)) (w':=w) hw O ?_ (k _ (H.put hd _ H.hp))
 have hr:(0:Int)<=i∧(i:Int) < (n:Int):=by omega
 simp only [execOp,Instr.indexAt,asIntOf,dM,H.ev hx,H.ev hy,lC hs,kW,rW,aH hr,ht.CP,add_lit,Int.toNat_natCast]
theorem ko {x:Operand} {n:Nat} {vs:List ah} {v:ah} (H:St N D w0 F G0 G L T a w) (hw:Region.wanted ⟨some d,.extract x n,ty,pos,aL,g⟩ (yielded ops a.tmps)=true) (hx:ev T x=some (.tuple vs.toArray)) (hv:vs[n]?=some v) (hd:Nat.blt d N=true)
  (k:∀ a',St N D w0 F G0 G L ((d,v) :: T) a' w->WL r P ops Q rest a' w):WL r P ops Q (⟨some d,.extract x n,ty,pos,aL,g⟩ :: rest) a w :=
 fQ (v:=v) (w':=w) hw O (by simp [execOp,Instr.extract,H.ev hx,hv]) (k _ (H.put hd _ H.hp))
theorem zx {x:Operand} {p:Addr} (H:St N D w0 F G0 G L T a w) (hw:Region.wanted ⟨some d,.nilCheck x,ty,pos,aL,g⟩ (yielded ops a.tmps)=true) (hx:ev T x=some (.pointer (some p))) (hd:Nat.blt d N=true)
  (k:∀ a',St N D w0 F G0 G L ((d,.pointer (some p)) :: T) a' w->WL r P ops Q rest a' w):WL r P ops Q (⟨some d,.nilCheck x,ty,pos,aL,g⟩ :: rest) a w :=
 fQ (v:=.pointer (some p)) (w':=w) hw O (by simp [execOp,H.ev hx]) (k _ (H.put hd _ H.hp))
theorem wV {fn:Fn} {xs:List Operand} {vs:List ah} (H:St N D w0 F G0 G L T a w) (hw:Region.wanted ⟨some d,.makeFunc fn #[] xs.toArray,ty,pos,aL,g⟩ (yielded ops a.tmps)=true) (hx:evs T xs=some vs) (hd:Nat.blt d N=true)
  (k:∀ a',St N D w0 F G0 G L ((d,.func fn #[] vs.toArray) :: T) a' w->WL r P ops Q rest a' w):WL r P ops Q (⟨some d,.makeFunc fn #[] xs.toArray,ty,pos,aL,g⟩ :: rest) a w :=
 fQ (v:=.func fn #[] vs.toArray) (w':=w) hw O (by simp [execOp,Instr.makeFunc,H.evs hx]) (k _ (H.put hd _ H.hp))
def zS (pl:List (Nat × Nat)):List ah->List (Nat × List ah)->Option (List ah)
 | c,[]=>some c
 | c,(i,vs) :: rest=>match pl[i]? with
  | none=>none
  | some (off,size)=>bif Nat.beq vs.length size && Nat.ble (off+vs.length) c.length then zS pl (setRow c off vs) rest else none
theorem II:∀ (vs:List ah) (o:Nat) (c:List ah),(setRow c o vs).length=c.length
 | [],_,_=>rfl
 | v :: vs,o,c=>by simp [setRow,II vs]
theorem agm (off:Nat):∀ (vs:List ah) (j:Nat) (c:List ah),
  ((vs.zipIdx j).toArray).foldl (fun cs (x:ah × Nat)=>cs.setIfInBounds (off+x.2) x.1) c.toArray=(setRow c (off+j) vs).toArray
 | [],j,c=>by simp [setRow]
 | v :: vs,j,c=>by
  have ih:=agm off vs (j+1) (c.set (off+j) v)
  simp only [List.zipIdx_cons,List.foldl_toArray'] at *
  simp only [List.foldl_cons,List.setIfInBounds_toArray]
  exact ih
theorem fill_eq (place:Nat->Option (Nat × Nat)) (pl:List (Nat × Nat)) (hp:∀ i q,pl[i]?=some q->place i=some q):∀ (parts:List (Nat × ah)) (Sr:List (Nat × List ah)) (c c':List ah),
  parts.map (fun x=>(x.1,x.2.cells.toList))=Sr->zS pl c Sr=some c'->Instr.fill place c.toArray parts=some c'.toArray
 | [],Sr,c,c',hm,h=>by subst hm;simp [zS] at h;subst h;rfl
 | (i,v) :: parts,Sr,c,c',hm,h=>by
  subst hm
  simp only [eP,zS] at h
  split at h
  ·cases h
  ·rename_i off size hq
   cases hcond:(Nat.beq v.cells.toList.length size && Nat.ble (off+v.cells.toList.length) c.length) with
   | false=>rw [hcond] at h;cases h
   | true =>
    rw [hcond] at h
    simp only [mG] at hcond
    have e1:=AJ hcond.1
    have e2:=Nat.le_of_ble_eq_true hcond.2
    have ih:=fill_eq place pl hp parts _ (setRow c off v.cells.toList) c' O h
    have hf:=agm off v.cells.toList 0 c
    simp only [wB] at hf
    simp only [uZ] at e1 e2
    unfold Instr.fill
    rw [hp i _ hq]
    have hz:(v.cells.zipIdx:Array (ah × Nat))=((v.cells.toList.zipIdx 0).toArray):=by
     apply Array.ext';simp
    simp only [e1,ne_eq,not_true_eq_false,yC,decide_false,Bool.false_or,List.size_toArray]
    rw [ay (by simp;omega),hz,hf]
    exact ih
structure qW (P:Program) (t:TypeId) (pl:List (Nat × Nat)) (zero:List ah):Prop where
 h:(match P.underlying t with|some (.struct fs)=>some (fs.toList.map fun f=>(f.offset,(P.info? f.type).map (·.size)))|_=>none)=some (pl.map fun q=>(q.1,some q.2))
 z:(P.info? t).map (fun i=>i.zero.map fun z=>z.cells.toList)=some (some zero)
end steps
end
section
section steps
variable {N:Nat} {D:List Deferred} {w0:World} {F:Nat->Prop} {G0 G:GH} {L:List (Nat × Obj)} {T:List (Nat × ah)}
variable {r:Option Nat} {P:Program} {ops:Array Oper} {Q:Exit->Act->World->Prop} {rest:List Oper} {a:Act} {w:World}
variable {d:Nat} {ty:TypeId} {pos:String} {aL:Array Edge} {g:Option (Nat × Bool)}
theorem qW.parts {t:TypeId} {pl:List (Nat × Nat)} {zero:List ah} (h:qW P t pl zero):∃ fs i z,P.underlying t=some (.struct fs)∧P.info? t=some i∧i.zero=some z∧z.cells=zero.toArray ∧
  fs.toList.map (fun f=>(f.offset,(P.info? f.type).map (·.size)))=pl.map fun q=>(q.1,some q.2):=by
 obtain ⟨h,hz⟩:=h
 obtain ⟨i,hi,hx⟩:=nG.1 hz
 obtain ⟨z,hz1,hz2⟩:=nG.1 hx
 split at h
 ·rename_i fs hs
  exact ⟨fs,i,z,hs,hi,hz1,by rw [<- hz2],by simpa using h⟩
 ·cases h
theorem akk (w:World):∀ (fs:List Field) (pl:List (Nat × Nat)),fs.map (fun f=>(f.offset,(P.info? f.type).map (·.size)))=pl.map (fun q=>(q.1,some q.2)) ->
  (fs.mapM (fun f=>(do pure (f.offset,<- sizeOf f.type):Sem (Nat × Nat)))).run P w=.ok pl w
 | [],[],_=>by simp [Sem.run]
 | [],q :: pl,h=>by simp at h
 | f :: fs,[],h=>by simp at h
 | f :: fs,q :: pl,h=>by
  simp only [eP,List.cons.injEq,iE] at h
  obtain ⟨⟨h1,h2⟩,h3⟩:=h
  obtain ⟨i,hi,hs⟩:=nG.1 h2
  have ih:=akk w fs pl h3
  have hsz:(sizeOf f.type).run P w=.ok q.2 w:=by simp only [sizeOf,dM,CO hi,kW,rW,hs]
  simp only [List.mapM_cons,dM,hsz,kW,rW,ih,h1]
theorem run_build {t:TypeId} {pl:List (Nat × Nat)} {zero:List ah} (h:qW P t pl zero) {parts:Array (Nat × ah)} {cs:List ah}
  (hf:zS pl zero (parts.toList.map fun x=>(x.1,x.2.cells.toList))=some cs) (w:World):(Instr.build t parts).run P w=.ok (.agg cs.toArray) w:=by
 obtain ⟨fs,i,z,h1,h2,h3,h4,h5⟩:=h.parts
 have hm:=akk (P:=P) w fs.toList pl h5
 have hm':(fs.mapM (fun f=>(do pure (f.offset,<- sizeOf f.type):Sem (Nat × Nat)))).run P w=.ok pl.toArray w:=by
  rw [Array.mapM_eq_mapM_toList]
  simp only [map_eq_pure_bind,dM,hm,kW,rW]
 have XE:=fill_eq (fun i=>pl.toArray[i]?) pl (fun i q hq=>by simpa using hq) parts.toList _ zero cs O hf
 simp only [Instr.build,zeroValue,dM,CO h2,h3,kW,rW,h4,lC h1,hm',XE]
def pts (T:List (Nat × ah)):List (Nat × Operand)->Option (List (Nat × ah))
 | []=>some []
 | (i,x) :: q=>match ev T x,pts T q with|some v,some vs=>some ((i,v) :: vs)|_,_=>none
theorem St.pts (H:St N D w0 F G0 G L T a w):∀ {xs:List (Nat × Operand)} {vs:List (Nat × ah)},Proofs.YtggpjlchglgodaaGreat.pts T xs=some vs->xs.map (fun x=>(x.1,a.eval x.2))=vs
 | [],vs,hx=>by simp [Proofs.YtggpjlchglgodaaGreat.pts] at hx;subst hx;rfl
 | (i,x) :: xs,vs,hx=>by
  unfold Proofs.YtggpjlchglgodaaGreat.pts at hx
  split at hx
  ·rename_i v vs' h1 h2
   simp only [ou] at hx
   subst hx
   rw [eP,H.ev h1,H.pts h2]
  ·cases hx
theorem kg {t:TypeId} {pl:List (Nat × Nat)} {zero:List ah} (ht:qW P t pl zero) {xs:List (Nat × Operand)} {vs:List (Nat × ah)} {vs':List (Nat × List ah)} (cs:List ah) (H:St N D w0 F G0 G L T a w) (hw:Region.wanted ⟨some d,.build t xs.toArray,ty,pos,aL,g⟩ (yielded ops a.tmps)=true)
  (hx:pts T xs=some vs) (hv:vs.map (fun x=>(x.1,x.2.cells.toList))=vs') (hf:zS pl zero vs'=some cs) (hd:Nat.blt d N=true)
  (k:∀ a',St N D w0 F G0 G L ((d,.agg cs.toArray) :: T) a' w->WL r P ops Q rest a' w):WL r P ops Q (⟨some d,.build t xs.toArray,ty,pos,aL,g⟩ :: rest) a w:=by
 refine fQ (v:=.agg cs.toArray) (w':=w) hw O ?_ (k _ (H.put hd _ H.hp))
 have h1:=run_build ht (parts:=(vs.toArray)) (cs:=cs) (by simpa [hv] using hf) w
 simp only [execOp,List.map_toArray,H.pts hx,dM,h1,kW,rW]
theorem iG {t e:TypeId} {sz bytes:Nat} {zero:List ah} {agg:Bool} (hs:P.underlying t=some (.slice e)) (ht:Ty P e sz bytes zero agg) {n:Nat} {xs:List (Nat × Operand)} {vs:List (Nat × ah)} {vs':List (Nat × List ah)} (z:List ah) (cs:List ah) (H:St N D w0 F G0 G L T a w) (hw:Region.wanted ⟨some d,.buildSlice t n xs.toArray,ty,pos,aL,g⟩ (yielded ops a.tmps)=true)
  (hx:pts T xs=some vs) (hv:vs.map (fun x=>(x.1,x.2.cells.toList))=vs') (hn:Nat.ble (n*sz) 1000=true) (hn0:Nat.beq (n*sz) 0=false) (hz:(List.range (n*sz)).map (fun i=>zero[i % zero.length]!)=z) (hpl:∀ i q,((List.range n).map fun i=>(i*sz,sz))[i]?=some q->(some (i*sz,sz):Option (Nat × Nat))=some q)
  (hf:zS ((List.range n).map fun i=>(i*sz,sz)) z vs'=some cs) (hd:Nat.blt d N=true)
  (k:∀ b a' w',w0.heap.size<=b->St N D w0 F G0 G ((b,.cells cs.toArray e (0,0)) :: L) ((d,.slice (some ⟨b,0,none⟩) n n) :: T) a' w'->WL r P ops Q rest a' w'):WL r P ops Q (⟨some d,.buildSlice t n xs.toArray,ty,pos,aL,g⟩ :: rest) a w:=by
 refine fQ (v:=.slice (some ⟨w.heap.size,0,none⟩) n n) (w':=w.alloc (.cells cs.toArray e (0,0))) hw O ?_ (k _ _ _ H.hp.size (H.put hd _ (H.hp.alloc _)))
 obtain ⟨z0,hz0,hzc⟩:=ht.akm w
 have h16:¬ n*sz > 2 ^ 24:=by have:=Nat.le_of_ble_eq_true hn;simp;omega
 have h0:¬ n*sz=0:=by intro e;rw [e] at hn0;cases hn0
 have XE:=fill_eq (fun i=>some (i*sz,sz)) _ hpl vs vs' z cs hv hf
 have hz':(Array.range (n*sz)).map (fun x=>zero.toArray[x % zero.toArray.size]!)=z.toArray:=by
  rw [<- hz];apply Array.ext';simp
 simp only [execOp,List.map_toArray,H.pts hx,Instr.buildSlice,dM,lC hs,kW,ht.CP,ay h16,ay h0,hz0,hzc,rW,hz',XE,newRow,newObj,Sem.run]
 rfl
theorem Ii {z:Int} (h1:-9223372036854775808<=z) (h2:z < 9223372036854775808):IntKind.i64.wrap z=z:=by
 unfold IntKind.wrap
 have e:(2:Int) ^ 64=18446744073709551616:=by decide
 have e':(2:Int) ^ (64 - 1)=9223372036854775808:=by decide
 simp only [IntKind.bits,IntKind.signed,Jk,e,e',sW]
 split <;> omega
theorem IC {x y:Operand} {t yt:TypeId} {p q:Int} (z:Int) (H:St N D w0 F G0 G L T a w) (hw:Region.wanted ⟨some d,.binOp .add t x y yt,ty,pos,aL,g⟩ (yielded ops a.tmps)=true) (hx:ev T x=some (.int .i64 p)) (hy:ev T y=some (.int .i64 q)) (hz:p+q=z) (h1:-9223372036854775808<=z) (h2:z < 9223372036854775808) (hd:Nat.blt d N=true)
  (k:∀ a',St N D w0 F G0 G L ((d,.int .i64 z) :: T) a' w->WL r P ops Q rest a' w):WL r P ops Q (⟨some d,.binOp .add t x y yt,ty,pos,aL,g⟩ :: rest) a w :=
 fQ (v:=.int .i64 z) (w':=w) hw O (by simp [execOp,eqGuard,binOp,Op.intArith,H.ev hx,H.ev hy,dM,hz,Ii h1 h2]) (k _ (H.put hd _ H.hp))
theorem BN {x y:Operand} {t yt:TypeId} {p q:Int} (z:Int) (H:St N D w0 F G0 G L T a w) (hw:Region.wanted ⟨some d,.binOp .sub t x y yt,ty,pos,aL,g⟩ (yielded ops a.tmps)=true) (hx:ev T x=some (.int .i64 p)) (hy:ev T y=some (.int .i64 q)) (hz:p - q=z) (h1:-9223372036854775808<=z) (h2:z < 9223372036854775808) (hd:Nat.blt d N=true)
  (k:∀ a',St N D w0 F G0 G L ((d,.int .i64 z) :: T) a' w->WL r P ops Q rest a' w):WL r P ops Q (⟨some d,.binOp .sub t x y yt,ty,pos,aL,g⟩ :: rest) a w :=
 fQ (v:=.int .i64 z) (w':=w) hw O (by simp [execOp,eqGuard,binOp,Op.intArith,H.ev hx,H.ev hy,dM,hz,Ii h1 h2]) (k _ (H.put hd _ H.hp))
def MP:BinOp->Int->Int->Option Bool
 | .eql,x,y=>some (decide (x=y))
 | .neq,x,y=>some (decide (¬ x=y))
 | .lss,x,y=>some (decide (x < y))
 | .leq,x,y=>some (decide (x<=y))
 | .gtr,x,y=>some (decide (y < x))
 | .geq,x,y=>some (decide (y<=x))
 | _,_,_=>none
theorem aAB {op:BinOp} {kd:IntKind} {x y:Int} {b:Bool} (h:MP op x y=some b) (t:TypeId) (X Y:Operand) (w:World):(do eqGuard op t X Y (.int kd x) (.int kd y);binOp op t (.int kd x) (.int kd y):Sem ah).run P w=.ok (.bool b) w:=by
 cases op <;> simp only [MP,ou,reduceCtorEq] at h <;> subst h <;> simp [eqGuard,binOp,Op.intCmp,dM]
 ·rfl
 ·rfl
theorem IE {op:BinOp} {x y:Operand} {t yt:TypeId} {kd:IntKind} {p q:Int} {b:Bool} (H:St N D w0 F G0 G L T a w) (hw:Region.wanted ⟨some d,.binOp op t x y yt,ty,pos,aL,g⟩ (yielded ops a.tmps)=true) (hx:ev T x=some (.int kd p)) (hy:ev T y=some (.int kd q)) (hb:MP op p q=some b) (hd:Nat.blt d N=true)
  (k:∀ a',St N D w0 F G0 G L ((d,.bool b) :: T) a' w->WL r P ops Q rest a' w):WL r P ops Q (⟨some d,.binOp op t x y yt,ty,pos,aL,g⟩ :: rest) a w:=by
 refine fQ (v:=.bool b) (w':=w) hw O ?_ (k _ (H.put hd _ H.hp))
 have h1:=aAB (P:=P) (kd:=kd) hb t x y w
 simp only [execOp,H.ev hx,H.ev hy]
 rw [dM,h1]
 rfl
theorem ZE {x:Operand} {t:TypeId} {b:Bool} (H:St N D w0 F G0 G L T a w) (hw:Region.wanted ⟨some d,.unOp .not t x,ty,pos,aL,g⟩ (yielded ops a.tmps)=true) (hx:ev T x=some (.bool b)) (hd:Nat.blt d N=true)
  (k:∀ a',St N D w0 F G0 G L ((d,.bool (!b)) :: T) a' w->WL r P ops Q rest a' w):WL r P ops Q (⟨some d,.unOp .not t x,ty,pos,aL,g⟩ :: rest) a w :=
 fQ (v:=.bool (!b)) (w':=w) hw O (by simp [execOp,Op.unary,H.ev hx,dM]) (k _ (H.put hd _ H.hp))
def vo (op:BinOp) (k:IntKind) (x y:Int):Int :=
 let a:=BitVec.ofInt k.bits x
 let b:=BitVec.ofInt k.bits y
 k.wrap (match op with|.and=>(a &&& b).toNat|.or=>(a ||| b).toNat|.xor=>(a ^^^ b).toNat|_=>(a &&& ~~~b).toNat)
theorem SS {op:BinOp} {x y:Operand} {t yt:TypeId} {kd:IntKind} {p q:Int} (hop:(match op with|.and|.or|.xor|.andNot=>true|_=>false)=true) (H:St N D w0 F G0 G L T a w) (hw:Region.wanted ⟨some d,.binOp op t x y yt,ty,pos,aL,g⟩ (yielded ops a.tmps)=true) (hx:ev T x=some (.int kd p)) (hy:ev T y=some (.int kd q)) (hd:Nat.blt d N=true)
  (k:∀ a',St N D w0 F G0 G L ((d,.int kd (vo op kd p q)) :: T) a' w->WL r P ops Q rest a' w):WL r P ops Q (⟨some d,.binOp op t x y yt,ty,pos,aL,g⟩ :: rest) a w:=by
 refine fQ (v:=.int kd (vo op kd p q)) (w':=w) hw O ?_ (k _ (H.put hd _ H.hp))
 cases op <;> simp only [yC] at hop <;> simp [execOp,eqGuard,binOp,Op.intBits,H.ev hx,H.ev hy,vo]
theorem aA4 {x y:Operand} {t yt:TypeId} {kd ky:IntKind} {p q:Int} (n:Nat) (H:St N D w0 F G0 G L T a w) (hw:Region.wanted ⟨some d,.binOp .shl t x y yt,ty,pos,aL,g⟩ (yielded ops a.tmps)=true) (hx:ev T x=some (.int kd p)) (hy:ev T y=some (.int ky q)) (hq:q=(n:Int)) (hn:n<=kd.bits) (hd:Nat.blt d N=true)
  (k:∀ a',St N D w0 F G0 G L ((d,.int kd (kd.wrap (p*2 ^ n))) :: T) a' w->WL r P ops Q rest a' w):WL r P ops Q (⟨some d,.binOp .shl t x y yt,ty,pos,aL,g⟩ :: rest) a w:=by
 subst hq
 refine fQ (v:=.int kd (kd.wrap (p*2 ^ n))) (w':=w) hw O ?_ (k _ (H.put hd _ H.hp))
 have h0:¬ ((n:Int) < 0):=by omega
 have h1:min n kd.bits=n:=by omega
 simp [execOp,eqGuard,binOp,Op.shift,H.ev hx,H.ev hy,h0,h1]
theorem ZG {x y:Operand} {t yt:TypeId} {kd ky:IntKind} {p q:Int} (n:Nat) (H:St N D w0 F G0 G L T a w) (hw:Region.wanted ⟨some d,.binOp .shr t x y yt,ty,pos,aL,g⟩ (yielded ops a.tmps)=true) (hx:ev T x=some (.int kd p)) (hy:ev T y=some (.int ky q)) (hq:q=(n:Int)) (hn:n<=kd.bits) (hd:Nat.blt d N=true)
  (k:∀ a',St N D w0 F G0 G L ((d,.int kd (p.fdiv (2 ^ n))) :: T) a' w->WL r P ops Q rest a' w):WL r P ops Q (⟨some d,.binOp .shr t x y yt,ty,pos,aL,g⟩ :: rest) a w:=by
 subst hq
 refine fQ (v:=.int kd (p.fdiv (2 ^ n))) (w':=w) hw O ?_ (k _ (H.put hd _ H.hp))
 have h0:¬ ((n:Int) < 0):=by omega
 have h1:min n kd.bits=n:=by omega
 simp [execOp,eqGuard,binOp,Op.shift,H.ev hx,H.ev hy,h0,h1]
theorem FD {x:Operand} {t u:TypeId} {kd ks:IntKind} {p:Int} {su:TypeDesc} (z:Int) (hu:P.underlying u=some (.int kd)) (ht:P.underlying t=some su) (H:St N D w0 F G0 G L T a w) (hw:Region.wanted ⟨some d,.convert t u x,ty,pos,aL,g⟩ (yielded ops a.tmps)=true) (hx:ev T x=some (.int ks p)) (hz:kd.wrap p=z) (hd:Nat.blt d N=true)
  (k:∀ a',St N D w0 F G0 G L ((d,.int kd z) :: T) a' w->WL r P ops Q rest a' w):WL r P ops Q (⟨some d,.convert t u x,ty,pos,aL,g⟩ :: rest) a w:=by
 refine fQ (v:=.int kd z) (w':=w) hw O ?_ (k _ (H.put hd _ H.hp))
 simp [execOp,convert,lC hu,lC ht,H.ev hx,dM,Conv.intToInt,hz]
theorem qy {x y:Operand} {t:TypeId} {s:ByteArray} {kd:IntKind} {z:Int} (i:Nat) (ht:P.underlying t=some .string) (H:St N D w0 F G0 G L T a w) (hw:Region.wanted ⟨some d,.index t x y,ty,pos,aL,g⟩ (yielded ops a.tmps)=true) (hx:ev T x=some (.string s)) (hy:ev T y=some (.int kd z)) (hz:z=(i:Int)) (hi:i < s.size) (hd:Nat.blt d N=true)
  (k:∀ a',St N D w0 F G0 G L ((d,.int .u8 (s[i].toNat:Int)) :: T) a' w->WL r P ops Q rest a' w):WL r P ops Q (⟨some d,.index t x y,ty,pos,aL,g⟩ :: rest) a w:=by
 subst hz
 refine fQ (v:=.int .u8 (s[i].toNat:Int)) (w':=w) hw O ?_ (k _ (H.put hd _ H.hp))
 simp [execOp,Instr.index,asIntOf,lC ht,H.ev hx,H.ev hy,dM,hi]
theorem ZC {x:Operand} {t e:TypeId} {A:Option Addr} {n c:Nat} (hs:P.underlying t=some (.slice e)) (H:St N D w0 F G0 G L T a w) (hw:Region.wanted ⟨some d,.call { callee:=.builtin .len,args:=#[x],argTypes:=#[t] },ty,pos,aL,g⟩ (yielded ops a.tmps)=true) (hx:ev T x=some (.slice A n c)) (hd:Nat.blt d N=true)
  (k:∀ a',St N D w0 F G0 G L ((d,.int .i64 n) :: T) a' w->WL r P ops Q rest a' w):WL r P ops Q (⟨some d,.call { callee:=.builtin .len,args:=#[x],argTypes:=#[t] },ty,pos,aL,g⟩ :: rest) a w :=
 fQ (v:=.int .i64 n) (w':=w) hw O (by simp [execOp,resolve,invoke,builtin,Builtin.len_,H.ev hx,dM,lC hs,goInt]) (k _ (H.put hd _ H.hp))
theorem FE {x:Operand} {t:TypeId} {s:ByteArray} (hs:P.underlying t=some .string) (H:St N D w0 F G0 G L T a w) (hw:Region.wanted ⟨some d,.call { callee:=.builtin .len,args:=#[x],argTypes:=#[t] },ty,pos,aL,g⟩ (yielded ops a.tmps)=true) (hx:ev T x=some (.string s)) (hd:Nat.blt d N=true)
  (k:∀ a',St N D w0 F G0 G L ((d,.int .i64 s.size) :: T) a' w->WL r P ops Q rest a' w):WL r P ops Q (⟨some d,.call { callee:=.builtin .len,args:=#[x],argTypes:=#[t] },ty,pos,aL,g⟩ :: rest) a w :=
 fQ (v:=.int .i64 s.size) (w':=w) hw O (by simp [execOp,resolve,invoke,builtin,Builtin.len_,H.ev hx,dM,lC hs,goInt]) (k _ (H.put hd _ H.hp))
theorem SX {x y:Operand} {t t':TypeId} {kd:IntKind} {p q:Int} (H:St N D w0 F G0 G L T a w) (hw:Region.wanted ⟨some d,.call { callee:=.builtin .max,args:=#[x,y],argTypes:=#[t,t'] },ty,pos,aL,g⟩ (yielded ops a.tmps)=true) (hx:ev T x=some (.int kd p)) (hy:ev T y=some (.int kd q)) (hd:Nat.blt d N=true)
  (k:∀ a',St N D w0 F G0 G L ((d,.int kd (max p q)) :: T) a' w->WL r P ops Q rest a' w):WL r P ops Q (⟨some d,.call { callee:=.builtin .max,args:=#[x,y],argTypes:=#[t,t'] },ty,pos,aL,g⟩ :: rest) a w:=by
 refine fQ (v:=.int kd (max p q)) (w':=w) hw O ?_ (k _ (H.put hd _ H.hp))
 have e:(if q > p then q else p)=max p q:=by omega
 simp [execOp,resolve,invoke,builtin,Builtin.max_,Builtin.max2,H.ev hx,H.ev hy,dM,e]
theorem aA0 {x y:Operand} {t t':TypeId} {kd:IntKind} {p q:Int} (H:St N D w0 F G0 G L T a w) (hw:Region.wanted ⟨some d,.call { callee:=.builtin .min,args:=#[x,y],argTypes:=#[t,t'] },ty,pos,aL,g⟩ (yielded ops a.tmps)=true) (hx:ev T x=some (.int kd p)) (hy:ev T y=some (.int kd q)) (hd:Nat.blt d N=true)
  (k:∀ a',St N D w0 F G0 G L ((d,.int kd (min p q)) :: T) a' w->WL r P ops Q rest a' w):WL r P ops Q (⟨some d,.call { callee:=.builtin .min,args:=#[x,y],argTypes:=#[t,t'] },ty,pos,aL,g⟩ :: rest) a w:=by
 refine fQ (v:=.int kd (min p q)) (w':=w) hw O ?_ (k _ (H.put hd _ H.hp))
 have e:(if q < p then q else p)=min p q:=by omega
 simp [execOp,resolve,invoke,builtin,Builtin.min_,Builtin.min2,H.ev hx,H.ev hy,dM,e]
def bG (w:World) (G:GH) (R:ah->GH->Prop):Ending->World->Prop:=fun e w'=>∃ v G',e=.returned v∧Below w.heap.size w w'∧Ext w.heap.size G G' w'∧R v G'
def Hold (G:GH) (w:World):Prop:=∀ k o,G k=some o->w.heap[k]?=some o
theorem s_call {f:FuncId} {xs:List Operand} {vs:List ah} {ts:Array TypeId} {R:ah->GH->Prop} (en:∀ args w,(callFunc f args).run P w=.ok (.enter f args) w) (H:St N D w0 F G0 G L T a w) (hw:Region.wanted ⟨some d,.call { callee:=.value (.func f),args:=xs.toArray,argTypes:=ts },ty,pos,aL,g⟩ (yielded ops a.tmps)=true)
  (hx:evs T xs=some vs) (hc:Calls P f vs.toArray w (bG w G R)) (hd:Nat.blt d N=true)
  (k:∀ v G' a' w',R v G'->(∀ k o,G k=some o->G' k=some o)->St N D w0 F G0 G' L ((d,v) :: T) a' w'->WL r P ops Q rest a' w'):WL r P ops Q (⟨some d,.call { callee:=.value (.func f),args:=xs.toArray,argTypes:=ts },ty,pos,aL,g⟩ :: rest) a w:=by
 refine aae (nx:=.ok (.enter f vs.toArray) w) (R:=bG w G R) hw O ?_ hc ?_
 ·have h1:=H.evs hx
  simp [execOp,resolve,Act.eval,Deferred.ofValue,invoke,dM,h1,en]
 ·rintro e w' ⟨v,G',rfl,hb,hX,hR⟩
  exact ⟨v,O,k v G' _ w' hR hX.1 (H.put hd v (H.hp.abf hb hX))⟩
theorem bP {x y:Code} (h:∀ K:Act->World->Prop,(∀ a w,WP r P y Q a w->K a w)->WP r P x (Exit.then K Q) a w):WP r P (.seq x y) Q a w:=wpIn_seq_k h
theorem mX {id:Nat} {l:List Oper} (h:WL r P l.toArray Q l a w):WP r P (.region id l.toArray false) Q a w:=wpIn_region_lit h
theorem dH {id:Nat} {l:List Oper} {y:Code} (h:∀ K:Act->World->Prop,(∀ a w,WP r P y Q a w->WL r P l.toArray (Exit.then K Q) [] a w)->WL r P l.toArray (Exit.then K Q) l a w):WP r P (.seq (.region id l.toArray false) y) Q a w:=bP fun K hK=>mX (h K fun a w h=>aF (hK a w h))
theorem gT (h:Q .normal a w):WP r P .skip Q a w:=wpIn_skip h
theorem gu (h:Q .ret a w):WP r P .ret Q a w:=wpIn_ret h
theorem dX {id:Nat} (h:Q (.exit id) a w):WP r P (.exit id) Q a w:=wpIn_exit h
theorem AU {id:Nat} {c:Code} (h:WP r P c (Exit.inBlock id Q) a w):WP r P (.block id c) Q a w:=wpIn_block h
theorem jX {c:Operand} {x y:Code} {b:Bool} (H:St N D w0 F G0 G L T a w) (hc:ev T c=some (.bool b)) (h1:b=true->WP r P x Q a w) (h0:b=false->WP r P y Q a w):WP r P (.cond c x y) Q a w :=
 wpIn_cond_split (H.ev hc) h1 h0
theorem AV {c:Operand} {x y:Code} {b:Bool} (H:St N D w0 F G0 G L T a w) (hc:ev T c=some (.bool b)) (hb:b=true) (h1:WP r P x Q a w):WP r P (.cond c x y) Q a w :=
 wpIn_cond_true (by rw [H.ev hc,hb]) h1
theorem oQ {c:Operand} {x y:Code} {b:Bool} (H:St N D w0 F G0 G L T a w) (hc:ev T c=some (.bool b)) (hb:b=false) (h1:WP r P y Q a w):WP r P (.cond c x y) Q a w :=
 wpIn_cond_false (by rw [H.ev hc,hb]) h1
theorem adJ {ι:Type} {c:Code} (I:ι->Act->World->Prop) (m:ι->Nat) (i0:ι) (h0:I i0 a w)
  (round:∀ i a w,I i a w->WP r P c (Exit.then (fun a' w'=>∃ i',I i' a' w'∧m i' < m i) Q) a w):WP r P (.loop c) Q a w:=by
 intro b k cs hro hb hr
 have key:∀ j i a w,m i=j->I i a w ->
   ∃ e a' w',Q e a' w'∧ArrivesIn (Machine.fenced P (FW r)) P (lone (b.atR a (.code c :: .inLoop c :: k)) cs w) b k cs e a' w':=by
  intro j
  induction j using Nat.strongRecOn with
  | _ j ih =>
   intro i a w hn hI
   obtain ⟨e,a₁,w₁,hq,harr⟩:=round i a w hI b (.inLoop c :: k) cs hro hb hr
   cases e with
   | normal =>
    obtain ⟨i',hI₁,hlt⟩:=hq
    obtain ⟨e₂,a₂,w₂,hq₂,harr₂⟩:=ih (m i') (hn ▸ hlt) i' a₁ w₁ O hI₁
    exact ⟨e₂,a₂,w₂,hq₂,.of_steps (StepsIn.trans harr (.one (fenced_calm hb hr O) stepR_inLoop)) harr₂⟩
   | exit id=>exact ⟨_,a₁,w₁,hq,.pass (x:=.inLoop c) O (fun _ _=>.inl (by simp)) harr⟩
   | goto l=>exact ⟨_,a₁,w₁,hq,.pass (x:=.inLoop c) O (fun _ _=>.inl (by simp)) harr⟩
   | ret=>exact ⟨_,a₁,w₁,hq,.pass (x:=.inLoop c) O (fun _ _=>.inl (by simp)) harr⟩
   | panic ch=>exact ⟨_,a₁,w₁,hq,.pass (x:=.inLoop c) O (fun _ _=>.inl (by simp)) harr⟩
   | outgrown=>exact ⟨_,a₁,w₁,hq,.pass (x:=.inLoop c) O (fun _ _=>.inl (by simp)) harr⟩
 obtain ⟨e,a',w',hq,harr⟩:=key _ i0 a w O h0
 exact ⟨e,a',w',hq,.of_steps (.one (fenced_calm hb hr O) stepR_loop) harr⟩
theorem eO {ι:Type} {c:Code} {Tc:List (Nat × ah)} {Lc:List (Nat × Obj)} (Tv:ι->List (Nat × ah)) (Lv:ι->List (Nat × Obj)) (Gv:ι->GH) (Pr:ι->Prop) (m:ι->Nat) (i0:ι)
  (H:St N D w0 F G0 (Gv i0) (Lc++Lv i0) (Tv i0++Tc) a w) (hP:Pr i0)
  (round:∀ i a w,Pr i->St N D w0 F G0 (Gv i) (Lc++Lv i) (Tv i++Tc) a w ->
   WP r P c (Exit.then (fun a' w'=>∃ i',(St N D w0 F G0 (Gv i') (Lc++Lv i') (Tv i'++Tc) a' w'∧Pr i')∧m i' < m i) Q) a w):WP r P (.loop c) Q a w :=
 adJ (fun i a w=>St N D w0 F G0 (Gv i) (Lc++Lv i) (Tv i++Tc) a w∧Pr i) m i0 ⟨H,hP⟩ fun i a w hI=>round i a w hI.2 hI.1
theorem rX {ι:Type} {x y:Code} {Tc:List (Nat × ah)} {Lc Lr:List (Nat × Obj)} {Gh:GH} (Tv:ι->List (Nat × ah)) (Lv:ι->List (Nat × Obj)) (Gv:ι->GH) (Pr:ι->Prop)
  (_:St N D w0 F G0 Gh (Lc++Lr) Tc a w) (h1:WP r P x (Exit.then (fun a w=>∃ i,St N D w0 F G0 (Gv i) (Lc++Lv i) (Tv i++Tc) a w∧Pr i) Q) a w)
  (h2:∀ i a w,Pr i->St N D w0 F G0 (Gv i) (Lc++Lv i) (Tv i++Tc) a w->WP r P y Q a w):WP r P (.seq x y) Q a w :=
 wpIn_seq (wpIn_mono h1 fun e a w h=>by
  cases e with
  | normal=>obtain ⟨i,H,hP⟩:=h;exact h2 i a w hP H
  | _=>exact h)
theorem aya {ι:Type} {Tc:List (Nat × ah)} {Lc:List (Nat × Obj)} {Tv:ι->List (Nat × ah)} {Lv:ι->List (Nat × Obj)} {Gv:ι->GH} {Pr:ι->Prop} {m:ι->Nat} {i:ι} (i':ι)
  (H:St N D w0 F G0 (Gv i') (Lc++Lv i') (Tv i'++Tc) a w) (hP:Pr i') (hm:m i' < m i) :
  ∃ i',(St N D w0 F G0 (Gv i') (Lc++Lv i') (Tv i'++Tc) a w∧Pr i')∧m i' < m i:=⟨i',⟨H,hP⟩,hm⟩
def Gx:Nat->List ah->List (Nat × ah)
 | _,[]=>[]
 | i,v :: vs=>(i,v) :: Gx (i+1) vs
theorem enters {f:FuncId} {fn:Func} {c:Code} (hf:P.funcs[f]?=some fn) (hb:fn.body=some c) (hname:(fn.name == "runtime.NumGoroutine")=false) (args:Array ah) (w:World):(callFunc f args).run P w=.ok (.enter f args) w:=by
 have h1:fn.name ≠ "runtime.NumGoroutine":=by simpa using hname
 simp [callFunc,hf,h1,hb,mark]
theorem enter {f:FuncId} {fn:Func} {c:Code} {vs:List ah} {R:Ending->World->Prop} (hf:P.funcs[f]?=some fn) (hb:fn.body=some c) (hN:fn.ntmps=N) (hle:Nat.ble vs.length N=true)
  (hT:Gx 0 vs=T) (hG:Hold G w) (hF:∀ k,F k->k < w.heap.size) (hL:∀ p∈L,w.heap[p.1]?=some p.2) (hLG:∀ p∈L,G p.1=none) (hLF:∀ p∈L,¬ F p.1) (hnd:L.Pairwise fun p q=>p.1≠q.1)
  (h:∀ a,St N [] w F G G L T a w->WP none P c (bodyPostM (FW none) 0 P fn R) a w):Calls P f vs.toArray w R:=by
 refine aoh (r:=none) (n:=0) (callsIn_of_wp_marks hf hb trivial (h _ ⟨?_,?_,O,⟨O,O,O,fD _,hF,fun _ _=>rfl,hG,fun _ _ h=>h,fun _ _ h=>.inl h,hL,hLG,hLF,hnd⟩⟩) O)
 ·have:=Nat.le_of_ble_eq_true hle
  simp [hN];omega
 ·intro t v ht
  have hlen:t < vs.length∧vs[t]?=some v:=by
   subst hT
   have key:∀ (vs:List ah) (s:Nat),lk (Gx s vs) t=some v->s<=t∧vs[t - s]?=some v:=by
    intro vs
    induction vs with
    | nil=>intro s h;simp [Gx,lk] at h
    | cons u vs ih =>
     intro s h
     simp only [Gx] at h
     by_cases e:s=t
     ·subst e;rw [lI] at h;simpa using h
     ·rw [gy e] at h
      obtain ⟨h1,h2⟩:=ih (s+1) h
      refine ⟨V,?_⟩
      have:t - s=(t - (s+1))+1:=by omega
      rw [this];simpa using h2
   have:=key vs 0 ht
   simp only [jL,Nat.sub_zero,true_and] at this
   exact ⟨(ji.1 this).1,this⟩
  rw [Array.getElem?_append_left (by simpa using hlen.1)]
  simpa using hlen.2
def Lb (tmps:Array ah):ResultVar->Sem ah
 | .tmp t=>pure (tmps.getD t undef)
 | .cell a t=>do loadVar t (<- asAddr (tmps.getD a undef))
def RV (P:Program) (w:World) (tmps:Array ah) (rv:ResultVar) (v:ah):Prop:=(Lb tmps rv).run P w=.ok v w
theorem fE (H:St N D w0 F G0 G L T a w) {t:Nat} {v:ah} (h:lk T t=some v):RV P w a.tmps (.tmp t) v:=by
 have:=H.ev (x:=.tmp t) h
 simp only [Act.eval] at this
 simp [RV,Lb,this]
theorem vX {t:TypeId} {sz bytes:Nat} {zero:List ah} (ht:Ty P t sz bytes zero true) (H:St N D w0 F G0 G L T a w) {s b o:Nat} {cs:List ah} (h:lk T s=some (.pointer (some ⟨b,o,none⟩))) (hl:cs.length=sz) (hc:∀ j v,cs[j]?=some v->w.cell? ⟨b,o+j,none⟩=some v) :
  RV P w a.tmps (.cell s t) (.agg cs.toArray):=by
 have:=H.ev (x:=.tmp s) h
 simp only [Act.eval] at this
 have h1:=run_loadCells (P:=P) b w cs o 0 #[] (fun j v hj=>by simpa using hc j v hj)
 simp only [Array.empty_append,hl] at h1
 simp [RV,Lb,this,asAddr,loadVar,dM,ht.SI,ht.CP,loadCells,h1]
theorem CQ {t:TypeId} {sz bytes:Nat} {zero:List ah} (ht:Ty P t sz bytes zero false) (H:St N D w0 F G0 G L T a w) {s b o:Nat} {v:ah} (h:lk T s=some (.pointer (some ⟨b,o,none⟩))) (hc:w.cell? ⟨b,o,none⟩=some v) :
  RV P w a.tmps (.cell s t) v:=by
 have:=H.ev (x:=.tmp s) h
 simp only [Act.eval] at this
 simp only [RV,Lb,this,asAddr,loadVar,dM,ht.SI,kW,rW,yC,if_false,Zr hc]
inductive EG (P:Program) (w:World) (tmps:Array ah):List ResultVar->List ah->Prop
 | nil:EG P w tmps [] []
 | cons {rv rs v vs}:RV P w tmps rv v->EG P w tmps rs vs->EG P w tmps (rv :: rs) (v :: vs)
def Y9:List ah->ah
 | [v]=>v
 | vs=>.tuple vs.toArray
theorem aAD {fn:Func} {rs:List ResultVar} {vs:List ah} {tmps:Array ah} (hr:fn.results=rs.toArray) (h:EG P w tmps rs vs):(results fn tmps).run P w=.ok (Y9 vs) w:=by
 have hm:∀ {rs:List ResultVar} {vs:List ah},EG P w tmps rs vs->(rs.mapM (Lb tmps)).run P w=.ok vs w:=by
  intro rs vs h
  induction h with
  | nil=>simp
  | cons h1 _ ih =>
   unfold RV at h1
   simp only [List.mapM_cons,dM,h1,kW,ih,rW]
 have hm':=hm h
 have hres:results fn tmps=(do let vs <- fn.results.mapM (Lb tmps);pure (if h:vs.size=1 then vs[0] else .tuple vs)):=rfl
 rw [hres,hr,Array.mapM_eq_mapM_toList]
 simp only [map_eq_pure_bind,dM,hm',kW,rW]
 match vs with
 | []=>rfl
 | [v]=>rfl
 | v :: u :: vs=>simp [Y9]
theorem leave {fn:Func} {rs:List ResultVar} {vs:List ah} {R:Ending->World->Prop} (v:ah) (H:St N [] w0 F G0 G L T a w) (hr:fn.results=rs.toArray) (h:EG P w a.tmps rs vs) (hv:Y9 vs=v) (hR:R (.returned v) w) :
  bodyPostM (FW none) 0 P fn R .ret a w∧bodyPostM (FW none) 0 P fn R .normal a w:=by
 subst hv
 have h1:LeavesInM (FW none) 0 P fn a.tmps R a.defers .returning w:=by
  rw [H.tu]
  exact ⟨_,aAD hr h,hR⟩
 exact ⟨h1,h1⟩
theorem leave0 {fn:Func} {R:Ending->World->Prop} (H:St N [] w0 F G0 G L T a w) (hr:fn.results=#[]) (hR:R (.returned (.tuple #[])) w) :
  bodyPostM (FW none) 0 P fn R .ret a w∧bodyPostM (FW none) 0 P fn R .normal a w:=leave (rs:=[]) _ H hr .nil O hR
theorem leave1 {fn:Func} {rs:List ResultVar} {v:ah} {R:Ending->World->Prop} (H:St N [] w0 F G0 G L T a w) (hr:fn.results=rs.toArray) (h:EG P w a.tmps rs [v]) (hR:R (.returned v) w) :
  bodyPostM (FW none) 0 P fn R .ret a w∧bodyPostM (FW none) 0 P fn R .normal a w:=leave _ H hr h O hR
theorem jQ {fn:Func} {rs:List ResultVar} {v u:ah} {vs:List ah} {R:Ending->World->Prop} (H:St N [] w0 F G0 G L T a w) (hr:fn.results=rs.toArray) (h:EG P w a.tmps rs (v :: u :: vs)) (hR:R (.returned (.tuple (v :: u :: vs).toArray)) w) :
  bodyPostM (FW none) 0 P fn R .ret a w∧bodyPostM (FW none) 0 P fn R .normal a w:=leave _ H hr h O hR
theorem Hp.ret {R:ah->GH->Prop} {v:ah} (h:Hp w0 (fun k=>k < w0.heap.size) G0 G L w) (hR:R v G):bG w0 G0 R (.returned v) w :=
 ⟨v,G,rfl,⟨h.os,h.tape,h.output,h.size,h.fr⟩,⟨h.gm,fun k o hk=>(h.gx k o hk).imp id (fun hn=>Nat.le_of_not_lt hn),h.ro⟩,hR⟩
end steps
end
section
abbrev OL:=List (Nat × Obj)
structure fM (G:GH) (L:OL) (w:World):Prop where
 ro:Hold G w
 own:∀ p∈L,w.heap[p.1]?=some p.2
 sep:∀ p∈L,G p.1=none
 nd:L.Pairwise fun p q=>p.1≠q.1
structure Change (w w':World) (G G':GH) (L L':OL):Prop where
 os:w'.os=w.os
 tape:w'.tape=w.tape
 output:w'.output=w.output
 size:w.heap.size<=w'.heap.size
 fr:∀ k,k < w.heap.size->(∀ p∈L,p.1≠k)->w'.heap[k]?=w.heap[k]?
 gm:∀ k o,G k=some o->G' k=some o
 gx:∀ k o,G' k=some o->G k=some o∨w.heap.size<=k∨∃ p∈L,p.1=k
 owns:fM G' L' w'
 lx:∀ p∈L',w.heap.size<=p.1∨∃ q∈L,q.1=p.1
def Fr (w:World) (L0:OL):Nat->Prop:=fun k=>k < w.heap.size∧∀ p∈L0,p.1≠k
section
variable {N:Nat} {D:List Deferred} {w0 w w':World} {F:Nat->Prop} {G0 G G':GH} {L L' Li L0:OL} {T:List (Nat × ah)} {a:Act}
theorem Hp.owns (h:Hp w0 F G0 G (Li++L) w):fM G L w :=
 ⟨h.ro,fun p hp=>h.own p (List.mem_append_right _ hp),fun p hp=>h.uN p (List.mem_append_right _ hp),(List.pairwise_append.1 h.nd).2.1⟩
theorem Hp.change (h:Hp w0 F G0 G (Li++L) w) (hc:Change w w' G G' L L'):Hp w0 F G0 G' (Li++L') w':=by
 have hnd:=List.pairwise_append.1 h.nd
 have Xi:∀ k,F k->k < w.heap.size:=fun k hk=>Nat.lt_of_lt_of_le (h.wK k hk) h.size
 have J7:∀ p∈Li,p.1 < w.heap.size∧∀ q∈L,q.1≠p.1:=fun p hp=>⟨lt_of_heap (h.own p (List.mem_append_left _ hp)),fun q hq e=>hnd.2.2 p hp q hq e.symm⟩
 refine ⟨hc.os.trans h.os,hc.tape.trans h.tape,hc.output.trans h.output,Nat.le_trans h.size hc.size,h.wK,fun k hk=>?_,hc.owns.ro,fun k o hk=>hc.gm k o (h.gm k o hk),fun k o hk=>?_,fun p hp=>?_,fun p hp=>?_,fun p hp=>?_,?_⟩
 ·exact (hc.fr k (Xi k hk) fun p hp e=>h.uM p (List.mem_append_right _ hp) (e ▸ hk)).trans (h.fr k hk)
 ·rcases hc.gx k o hk with hk|hk|⟨p,hp,rfl⟩
  ·exact h.gx k o hk
  ·exact .inr fun hf=>absurd (Xi k hf) V
  ·exact .inr (h.uM p (List.mem_append_right _ hp))
 ·rcases iP.1 hp with hp|hp
  ·exact (hc.fr _ (J7 p hp).1 (J7 p hp).2).trans (h.own p (List.mem_append_left _ hp))
  ·exact hc.owns.own p hp
 ·rcases iP.1 hp with hp|hp
  ·cases hg:G' p.1 with
   | none=>rfl
   | some o =>
    rcases hc.gx _ o hg with hk|hk|⟨q,hq,e⟩
    ·rw [h.uN p (List.mem_append_left _ hp)] at hk;cases hk
    ·exact absurd (J7 p hp).1 V
    ·exact absurd e ((J7 p hp).2 q hq)
  ·exact hc.owns.sep p hp
 ·rcases iP.1 hp with hp|hp
  ·exact h.uM p (List.mem_append_left _ hp)
  ·rcases hc.lx p hp with hk|⟨q,hq,e⟩
   ·exact fun hf=>absurd (Xi _ hf) V
   ·exact e ▸ h.uM q (List.mem_append_right _ hq)
 ·refine List.pairwise_append.2 ⟨hnd.1,hc.owns.nd,fun p hp q hq e=>?_⟩
  rcases hc.lx q hq with hk|⟨q',hq',e'⟩
  ·have:=(J7 p hp).1;omega
  ·exact (J7 p hp).2 q' hq' (e'.trans e.symm)
theorem Hp.ald (h:Hp w0 (Fr w0 L0) G0 G L w):Change w0 w G0 G L0 L:=by
 have hn:∀ k,¬ Fr w0 L0 k->w0.heap.size<=k∨∃ p∈L0,p.1=k:=by
  intro k hk
  by_cases hlt:k < w0.heap.size
  ·right
   apply Classical.byContradiction
   intro hno
   exact hk ⟨hlt,fun p hp e=>hno ⟨p,hp,e⟩⟩
  ·exact .inl V
 exact ⟨h.os,h.tape,h.output,h.size,fun k h1 h2=>h.fr k ⟨h1,h2⟩,h.gm,fun k o hk=>(h.gx k o hk).imp id (hn k),⟨h.ro,h.own,h.uN,h.nd⟩,fun p hp=>hn _ (h.uM p hp)⟩
theorem fM.hp (h:fM G L w):Hp w (Fr w L) G G L w :=
 ⟨rfl,rfl,rfl,fD _,fun _ hk=>hk.1,fun _ _=>rfl,h.ro,fun _ _ h=>h,fun _ _ h=>.inl h,h.own,h.sep,fun p hp hf=>hf.2 p hp O,h.nd⟩
theorem Change.trans {w2:World} {G2:GH} {L2:OL} (h1:Change w w' G G' L L') (h2:Change w' w2 G' G2 L' L2) (hG:Hold G w) (hL:∀ p∈L,p.1 < w.heap.size):Change w w2 G G2 L L2:=by
 refine ⟨h2.os.trans h1.os,h2.tape.trans h1.tape,h2.output.trans h1.output,Nat.le_trans h1.size h2.size,fun k hk hn=>?_,fun k o hk=>h2.gm k o (h1.gm k o hk),fun k o hk=>?_,h2.owns,fun p hp=>?_⟩
 ·refine (h2.fr k (Nat.lt_of_lt_of_le hk h1.size) fun p hp e=>?_).trans (h1.fr k hk hn)
  rcases h1.lx p hp with hk'|⟨q,hq,e'⟩
  ·omega
  ·exact hn q hq (e'.trans e)
 ·rcases h2.gx k o hk with hk|hk|⟨p,hp,rfl⟩
  ·exact h1.gx k o hk
  ·exact .inr (.inl (Nat.le_trans h1.size hk))
  ·rcases h1.lx p hp with hk'|⟨q,hq,e'⟩
   ·exact .inr (.inl hk')
   ·exact .inr (.inr ⟨q,hq,e'⟩)
 ·rcases h2.lx p hp with hk|⟨q,hq,e⟩
  ·exact .inl (Nat.le_trans h1.size hk)
  ·rcases h1.lx q hq with hk'|⟨q',hq',e'⟩
   ·exact .inl (e ▸ hk')
   ·exact .inr ⟨q',hq',e'.trans e⟩
theorem Hp.perm (h:Hp w0 F G0 G L w) (hp:L.Perm L'):Hp w0 F G0 G L' w :=
 ⟨h.os,h.tape,h.output,h.size,h.wK,h.fr,h.ro,h.gm,h.gx,fun p hq=>h.own p (hp.mem_iff.2 hq),fun p hq=>h.uN p (hp.mem_iff.2 hq),fun p hq=>h.uM p (hp.mem_iff.2 hq),(hp.pairwise_iff (fun {x y} (h:x.1≠y.1) e=>h e.symm)).1 h.nd⟩
theorem St.perm (h:St N D w0 F G0 G L T a w) (hp:L.Perm L'):St N D w0 F G0 G L' T a w:=⟨h.nH,h.get,h.tu,h.hp.perm hp⟩
def fB (w:World) (G:GH) (L:OL) (R:ah->GH->OL->Prop):Ending->World->Prop:=fun e w'=>∃ v G' L',e=.returned v∧Change w w' G G' L L'∧R v G' L'
theorem Hp.gI {R:ah->GH->OL->Prop} {v:ah} (h:Hp w0 (Fr w0 L0) G0 G L w) (hR:R v G L):fB w0 G0 L0 R (.returned v) w:=⟨v,G,L,O,h.ald,hR⟩
end
section steps
variable {N:Nat} {D:List Deferred} {w0:World} {F:Nat->Prop} {G0 G:GH} {L Li L0:OL} {T:List (Nat × ah)}
variable {r:Option Nat} {P:Program} {ops:Array Oper} {Q:Exit->Act->World->Prop} {rest:List Oper} {a:Act} {w:World}
variable {d:Nat} {ty:TypeId} {pos:String} {aL:Array Edge} {g:Option (Nat × Bool)}
theorem kG {f:FuncId} {caps args:List ah} {R:Ending->World->Prop} (en:∀ args w,(callFunc f args).run P w=.ok (.enter f args) w) (h:Calls P f (args++caps).toArray w R):tY P (.func (.func f) #[] caps.toArray) args w R:=by
 refine ⟨?_⟩
 have e:(do let d <- Deferred.ofValue (.func (.func f) #[] caps.toArray) args.toArray;invoke d.target d.args:Sem Next).run P w=.ok (.enter f (args++caps).toArray) w:=by
  simp [Deferred.ofValue,dM,invoke,en]
 rw [e]
 exact h
theorem Ai {x:Operand} {fv:ah} {xs:List Operand} {vs:List ah} {ts:Array TypeId} {R:ah->GH->OL->Prop} (H:St N D w0 F G0 G (Li++L) T a w) (hw:Region.wanted ⟨some d,.call { callee:=.value x,args:=xs.toArray,argTypes:=ts },ty,pos,aL,g⟩ (yielded ops a.tmps)=true)
  (hf:ev T x=some fv) (hx:evs T xs=some vs) (hc:tY P fv vs w (fB w G L R)) (hd:Nat.blt d N=true)
  (k:∀ v G' L' a' w',R v G' L'->(∀ k o,G k=some o->G' k=some o)->St N D w0 F G0 G' (Li++L') ((d,v) :: T) a' w'->WL r P ops Q rest a' w'):WL r P ops Q (⟨some d,.call { callee:=.value x,args:=xs.toArray,argTypes:=ts },ty,pos,aL,g⟩ :: rest) a w:=by
 refine aae (nx:=_) (R:=fB w G L R) hw O O ?_ ?_
 ·have h1:=H.evs hx
  have e:(execOp a.eval ⟨some d,.call { callee:=.value x,args:=xs.toArray,argTypes:=ts },ty,pos,aL,g⟩)=(do let d <- Deferred.ofValue fv vs.toArray;invoke d.target d.args:Sem Next):=by
   simp only [execOp,resolve,H.ev hf,List.map_toArray,h1]
  rw [e]
  exact hc.go
 ·rintro e w' ⟨v,G',L',rfl,hb,hR⟩
  exact ⟨v,O,k v G' L' _ w' hR hb.gm (H.put hd v (H.hp.change hb))⟩
theorem gD {f:FuncId} {xs:List Operand} {vs:List ah} {ts:Array TypeId} {R:ah->GH->OL->Prop} (en:∀ args w,(callFunc f args).run P w=.ok (.enter f args) w) (H:St N D w0 F G0 G (Li++L) T a w) (hw:Region.wanted ⟨some d,.call { callee:=.value (.func f),args:=xs.toArray,argTypes:=ts },ty,pos,aL,g⟩ (yielded ops a.tmps)=true)
  (hx:evs T xs=some vs) (hc:Calls P f vs.toArray w (fB w G L R)) (hd:Nat.blt d N=true)
  (k:∀ v G' L' a' w',R v G' L'->(∀ k o,G k=some o->G' k=some o)->St N D w0 F G0 G' (Li++L') ((d,v) :: T) a' w'->WL r P ops Q rest a' w'):WL r P ops Q (⟨some d,.call { callee:=.value (.func f),args:=xs.toArray,argTypes:=ts },ty,pos,aL,g⟩ :: rest) a w:=by
 refine Ai (fv:=.func (.func f) #[] #[]) H hw O hx ?_ hd k
 have h:=kG (caps:=[]) (args:=vs) en (by simpa using hc)
 exact h
abbrev AP:=List ah->GH->Prop
def yg (xs:List AP) (k:Nat) (args:List ah) (g:GH):Prop:=∃ p,xs[k]?=some p∧p args g
def LQ (P:Program) (fv:ah) (Gi:GH) (xs:List AP) (J:Nat->GH->OL->Prop) (Jx:GH->OL->Prop):Prop :=
 ∀ k args G L w,yg xs k args G->(∀ b o,Gi b=some o->G b=some o)->J k G L->fM G L w ->
  tY P fv args w (fB w G L fun v G' L'=>∃ b,v=.bool b∧(b=true->J (k+1) G' L')∧(b=false->Jx G' L'))
def EF (J:Nat->GH->OL->Prop):Prop:=∀ k (G G':GH) L,(∀ b o,G b=some o->G' b=some o)->J k G L->J k G' L
def Ji (J:GH->OL->Prop):Prop:=∀ (G G':GH) L,(∀ b o,G b=some o->G' b=some o)->J G L->J G' L
def Iter (P:Program) (Gi:GH) (gv:ah) (xs:List AP):Prop :=
 ∀ (J:Nat->GH->OL->Prop) (Jx:GH->OL->Prop) (fv:ah) (G:GH) (L:OL) (w:World),fv.cells=#[fv]->(∀ b o,Gi b=some o->G b=some o)->EF J->Ji Jx->J 0 G L->fM G L w->LQ P fv G xs J Jx ->
  tY P gv [fv] w (fB w G L fun _ G' L'=>J xs.length G' L'∨Jx G' L')
theorem Iter.mono {Gi ED:GH} {gv:ah} {xs:List AP} (h:Iter P Gi gv xs) (hm:∀ b o,Gi b=some o->ED b=some o):Iter P ED gv xs :=
 fun J Jx fv G L w h0 h1=>h J Jx fv G L w h0 fun b o hb=>h1 b o (hm b o hb)
def zM:List Nat->List ah->List (Nat × ah)->List (Nat × ah)
 | p :: ps,v :: vs,T=>zM ps vs ((p,v) :: T)
 | _,_,T=>T
theorem akX:∀ (ps:List Nat) (vs:List ah) (T:List (Nat × ah)) (tm:Array ah),tm.size=N->(∀ t v,lk T t=some v->tm[t]?=some v)->ps.all (Nat.blt · N)=true ->
  ((ps.zip vs).foldl (fun t (x:Nat × ah)=>t.setIfInBounds x.1 x.2) tm).size=N∧∀ t v,lk (zM ps vs T) t=some v->((ps.zip vs).foldl (fun t (x:Nat × ah)=>t.setIfInBounds x.1 x.2) tm)[t]?=some v
 | [],_,T,tm,h1,h2,_=>⟨h1,by simpa [zM] using h2⟩
 | p :: ps,[],T,tm,h1,h2,_=>⟨h1,by simpa [zM] using h2⟩
 | p :: ps,v :: vs,T,tm,h1,h2,h3=>by
  simp only [List.all_cons,mG] at h3
  have hp:p < tm.size:=by rw [h1];exact Eq.mp Nat.blt_eq h3.1
  simp only [List.zip_cons_cons,List.foldl_cons,zM]
  refine akX ps vs _ _ (by simpa using h1) (fun t u ht=>?_) h3.2
  rw [Array.getElem?_setIfInBounds]
  by_cases e:p=t
  ·subst e;rw [lI] at ht;simp [hp];simpa using ht
  ·rw [gy e] at ht;simp [e];exact h2 t u ht
structure Rec where
 fn:FuncId
 tmps:Array ah
 params:Array Tmp
 assign:Code
 body:Code
 defers:Nat
def Rec.at (q:Rec) (s:LoopState) (p:Option Code):Obj:=.loop { state:=s,pending:=p,fn:=q.fn,tmps:=q.tmps,params:=q.params,assign:=q.assign,body:=q.body,defers:=q.defers }
def CbR (w1:World) (G:GH) (L:OL) (Jn:GH->OL->Prop) (Jx:GH->OL->Prop):Ending->World->Prop:=fB w1 G L fun v G' L'=>∃ b,v=.bool b∧(b=true->Jn G' L')∧(b=false->Jx G' L')
theorem FR {b:Nat} {o:Obj} (o':Obj) (h:w.heap[b]?=some o):xk b o' w (w.putObj b o') :=
 ⟨rfl,rfl,rfl,World.putObj_size,World.putObj_heap_same (lt_of_heap h),fun _ hk=>World.putObj_heap_other hk⟩
theorem adH {l:Nat} {q:Rec} {c:Code} {R:Ending->World->Prop} (H:St N D w0 F G0 G ((l,q.at .ready none) :: L) T a w)
  (k:∀ w',St N D w0 F G0 G ((l,q.at .busy none) :: L) T a w'->WP (some l) P c (roundPost P l R) a w') :
  ∃ w₂,(Instr.beginRound l).run P w=.ok () w₂∧c.wpIn (FW (some l)) 0 P (roundPost P l R) a w₂:=by
 have hl:=H.hp.own _ (eT)
 refine ⟨_,run_beginRound hl O,k _ (H.move ?_)⟩
 exact H.hp.upd (i:=0) O (FR _ hl)
theorem KY {l:Nat} {q:Rec} {w1:World} {G1:GH} {L1:OL} {Jn Jx:GH->OL->Prop} (jump:Option Code) (H:St N D w1 (Fr w1 L1) G1 G ((l,q.at .busy none) :: L) T a w)
  (h:match jump with|none=>Jn G ((l,q.at .ready none) :: L)|some c=>Jx G ((l,q.at .done (some c)) :: L)) :
  ∃ v w',(Instr.endRound l jump).run P w=.ok v w'∧CbR w1 G1 L1 Jn Jx (.returned v) w':=by
 have hl:=H.hp.own _ (eT)
 refine ⟨_,_,run_endRound jump hl,?_⟩
 cases jump with
 | none=>exact Hp.gI (H.hp.upd (i:=0) O (FR _ hl)) ⟨true,O,fun _=>h,fun e=>by cases e⟩
 | some c=>exact Hp.gI (H.hp.upd (i:=0) O (FR _ hl)) ⟨false,O,fun e=>(by cases e),fun _=>h⟩
def Jr (l:Nat) (q:Rec) (bk:OL) (J:GH->OL->Prop):GH->OL->Prop:=fun G L=>∃ Lu,L=(l,q.at .ready none) :: (bk++Lu)∧J G Lu
def Pg (l:Nat) (q:Rec) (bk:OL) (Jx:Code->GH->OL->Prop):GH->OL->Prop:=fun G L=>∃ c Lu,L=(l,q.at .done (some c)) :: (bk++Lu)∧Jx c G Lu
def Uq (P:Program) (N:Nat) (ps:List Nat) (assign body:Code) (T:List (Nat × ah)) (G:GH) (J:Nat->GH->OL->Prop) (Jx:Code->GH->OL->Prop) (xs:List AP):Prop :=
 ∀ (l:Nat) (q:Rec) (bk:OL) (k:Nat) (args:List ah) (G1:GH) (L1:OL) (w1:World) (a1:Act),yg xs k args G1->(∀ b o,G b=some o->G1 b=some o)->J k G1 L1 ->
  St N [] w1 (Fr w1 ((l,q.at .ready none) :: (bk++L1))) G1 G1 ((l,q.at .ready none) :: (bk++L1)) (zM ps args T) a1 w1 ->
  WP (some l) P assign (Exit.then (fun a2 w2=>∃ w3,(Instr.beginRound l).run P w2=.ok () w3∧body.wpIn (FW (some l)) 0 P (roundPost P l (CbR w1 G1 ((l,q.at .ready none) :: (bk++L1)) (Jr l q bk (J (k+1))) (Pg l q bk Jx))) a2 w3) (fun _ _ _=>False)) a1 w1
theorem adK {fn:FuncId} {tm:Array ah} {ps:List Nat} {assign body:Code} {df l:Nat} {bk:OL} {J:Nat->GH->OL->Prop} {Jx:Code->GH->OL->Prop} {xs:List AP} (h1:tm.size=N) (h2:∀ t v,lk T t=some v->tm[t]?=some v)
  (hps:ps.all (Nat.blt · N)=true) (hlen:∀ k args g,yg xs k args g->args.length=ps.length) (hr:Uq P N ps assign body T G J Jx xs) :
  LQ P (.func (.yield l) #[] #[]) G xs (fun k=>Jr l ⟨fn,tm,ps.toArray,assign,body,df⟩ bk (J k)) (Pg l ⟨fn,tm,ps.toArray,assign,body,df⟩ bk Jx):=by
 intro k args G1 L1 w1 hk hm hJ ho
 obtain ⟨Lu,rfl,hJ⟩:=hJ
 have hl:=ho.own _ (eT)
 have hargs:args.toArray.size=ps.toArray.size:=by simpa using hlen k args _ hk
 have hy:=run_yield (P:=P) (args:=args.toArray) hl hargs
 have hz:(ps.toArray.zip args.toArray).foldl (fun tmps (x:Nat × ah)=>tmps.setIfInBounds x.1 x.2) tm=(ps.zip args).foldl (fun t (x:Nat × ah)=>t.setIfInBounds x.1 x.2) tm:=by
  simp [List.zip_toArray]
 obtain ⟨z1,z2⟩:=akX ps args T tm h1 h2 hps
 refine ⟨?_⟩
 have e:(do let d <- Deferred.ofValue (.func (.yield l) #[] #[]) args.toArray;invoke d.target d.args:Sem Next).run P w1=.ok (.round l fn ((ps.zip args).foldl (fun t (x:Nat × ah)=>t.setIfInBounds x.1 x.2) tm) assign body) w1:=by
  simp only [Deferred.ofValue,pure_bind,invoke,Array.empty_append]
  rw [<- hz]
  exact hy
 rw [e]
 refine roundIn_of_wpIn (F:=FW none) trivial ?_
 exact hr l _ bk k args G1 Lu w1 { tmps:=_,defers:=[] } hk hm hJ ⟨z1,z2,O,ho.hp⟩
theorem aod {Ba:Operand} {ps:List Nat} {assign body:Code} {gf:FuncId} {caps:List ah} {xs:List AP} {Gi:GH}
  (H:St N D w0 F G0 G L T a w) (hg:ev T Ba=some (.func (.func gf) #[] caps.toArray)) (en:∀ args w,(callFunc gf args).run P w=.ok (.enter gf args) w) (hit:Iter P Gi (.func (.func gf) #[] caps.toArray) xs) (hGi:∀ b o,Gi b=some o->G b=some o)
  (hps:ps.all (Nat.blt · N)=true) (hlen:∀ k args g,yg xs k args g->args.length=ps.length)
  (J:Nat->GH->OL->Prop) (Jx:Code->GH->OL->Prop) (vG:EF J) (hJx:∀ c,Ji (Jx c)) (h0:J 0 G L) (X8:Uq P N ps assign body T G J Jx xs)
  (hdone:∀ Dk G1 L1 a1 w1,(∀ b o,G b=some o->G1 b=some o)->J xs.length G1 L1->St N ({ target:=.collected Dk,args:=#[] } :: D) w0 F G0 G1 ((Dk,.deferred (some [])) :: L1) T a1 w1->Q .normal a1 w1)
  (hstop:∀ Dk c G1 L1 a1 w1,(∀ b o,G b=some o->G1 b=some o)->Jx c G1 L1->St N ({ target:=.collected Dk,args:=#[] } :: D) w0 F G0 G1 ((Dk,.deferred (some [])) :: L1) T a1 w1->WP none P c Q a1 w1) :
  WP none P (.rangeFunc Ba ps.toArray assign body) Q a w:=by
 refine wpIn_rangeFunc ?_
 intro fn _
 have hev:=H.ev hg
 let q:Rec:=⟨fn,a.tmps,ps.toArray,assign,body,w.heap.size⟩
 obtain ⟨W1,hW1⟩:∃ W1,W1=(w.alloc (.deferred (some []))).alloc (q.at .ready none):=⟨_,O⟩
 have H1:Hp w0 F G0 G ((w.heap.size+1,q.at .ready none) :: (w.heap.size,.deferred (some [])) :: L) W1:=by
  have:=(H.hp.alloc (.deferred (some []))).alloc (q.at .ready none)
  rw [World.size_alloc] at this
  rw [hW1];exact this
 refine ⟨w.heap.size+1,[{ target:=.collected w.heap.size,args:=#[] }],W1,{ target:=.fn (.func gf) caps.toArray,args:=#[.func (.yield (w.heap.size+1)) #[] #[]] },W1,gf,
  #[.func (.yield (w.heap.size+1)) #[] #[]]++caps.toArray,W1,by rw [hW1];exact run_enterLoop_outer fn a.tmps ps.toArray assign body,?_,fun _ _=>trivial,?_,O1 none,?_⟩
 ·simp only [resolve,rangeCall,hev]
  simp [Deferred.ofValue,Act.eval]
 ·simp [invoke,en]
 ·have hcv:=hit (fun k=>Jr (w.heap.size+1) q [(w.heap.size,.deferred (some []))] (J k)) (Pg (w.heap.size+1) q [(w.heap.size,.deferred (some []))] Jx) (.func (.yield (w.heap.size+1)) #[] #[]) G
   ((w.heap.size+1,q.at .ready none) :: (w.heap.size,.deferred (some [])) :: L) W1 rfl hGi (fun k G G' L hm ⟨Lu,e,h⟩=>⟨Lu,e,vG k G G' Lu hm h⟩) (fun G G' L hm ⟨c,Lu,e,h⟩=>⟨c,Lu,e,hJx c G G' Lu hm h⟩) ⟨L,O,h0⟩ (Hp.owns (Li:=[]) H1) (adK H.nH H.get hps hlen X8)
  replace hcv:=hcv.go
  have e:(do let d <- Deferred.ofValue (.func (.func gf) #[] caps.toArray) [Value.func (.yield (w.heap.size+1)) #[] #[]].toArray;invoke d.target d.args:Sem Next).run P W1=.ok (.enter gf (#[.func (.yield (w.heap.size+1)) #[] #[]]++caps.toArray)) W1:=by
   simp [Deferred.ofValue,invoke,en]
  rw [e] at hcv
  refine (VO hcv).mono ?_
  rintro e w2 ⟨v,G2,L2,rfl,hch,hJ⟩
  have H2:=Hp.change (Li:=[]) H1 hch
  rcases hJ with ⟨Lu,rfl,hJ⟩|⟨c,Lu,rfl,hJ⟩
  ·have hl:=H2.own _ (eT)
   have H3:=(H2.upd (i:=0) O (FR (q.at .exhausted none) hl)).drop (Dq _ _)
   exact ⟨none,_,run_endLoop hl (by simp),hdone _ G2 Lu _ _ hch.gm hJ ⟨H.nH,H.get,by simp [H.tu],H3⟩⟩
  ·have hl:=H2.own _ (eT)
   have H3:=(H2.upd (i:=0) O (FR (q.at .exhausted (some c)) hl)).drop (Dq _ _)
   exact ⟨some c,_,run_endLoop hl (by simp),hstop _ c G2 Lu _ _ hch.gm hJ ⟨H.nH,H.get,by simp [H.tu],H3⟩⟩
theorem KM {fn:Func} {R:Ending->World->Prop} {b:Nat} (H:St N ({ target:=.collected b,args:=#[] } :: D) w0 F G0 G L T a w) (i:Nat) (hi:L[i]?=some (b,.deferred (some [])))
  (k:∀ a' w',St N D w0 F G0 G (L.eraseIdx i) T a' w'->bodyPostM (FW none) 0 P fn R .ret a' w'):bodyPostM (FW none) 0 P fn R .ret a w∧bodyPostM (FW none) 0 P fn R .normal a w:=by
 have hb:=H.hp.own _ (lQ hi)
 have H2:=(H.hp.upd hi (FR (.deferred none) hb)).drop (L':=L.eraseIdx i) (by
  have h1:(L.set i (b,.deferred none)).eraseIdx i=L.eraseIdx i:=by
   apply List.ext_getElem?
   intro j
   simp only [List.getElem?_eraseIdx,List.getElem?_set]
   split <;> split <;> first|rfl|omega
  rw [<- h1];exact List.eraseIdx_sublist _ _)
 have hk:=k { a with defers:=D } _ ⟨H.nH,H.get,O,H2⟩
 have h1:LeavesInM (FW none) 0 P fn a.tmps R a.defers .returning w:=by
  rw [H.tu]
  exact ⟨by simp,.inl ⟨b,_,O,run_takeDeferred hb,hk⟩⟩
 exact ⟨h1,h1⟩
theorem St.giveUp {b:Nat} {o:Obj} (h:St N D w0 F G0 G L T a w) (i:Nat) (hi:L[i]?=some (b,o)):St N D w0 F G0 (G.add b o) (L.eraseIdx i) T a w:=⟨h.nH,h.get,h.tu,h.hp.giveUp i hi⟩
theorem St.agu {b:Nat} {o:Obj} (h:St N D w0 F G0 G L T a w) (i:Nat) (hi:L[i]?=some (b,o)):G b=none:=h.hp.uN _ (lQ hi)
theorem iB {f:FuncId} {fn:Func} {c:Code} {vs:List ah} {R:Ending->World->Prop} (hf:P.funcs[f]?=some fn) (hb:fn.body=some c) (hN:fn.ntmps=N) (hle:Nat.ble vs.length N=true)
  (hT:Gx 0 vs=T) (ho:fM G L w) (h:∀ a,St N [] w (Fr w L) G G L T a w->WP none P c (bodyPostM (FW none) 0 P fn R) a w):Calls P f vs.toArray w R :=
 enter hf hb hN hle hT ho.ro (fun _ hk=>hk.1) ho.own ho.sep (fun p hp hf=>hf.2 p hp O) ho.nd h
end steps
end
inductive Dat where
 | lf (v:ah)
 | sl (sz:Nat) (rows:List (List Dat))
mutual
def av (G:GH):Dat->ah->Prop
 | .lf u,v=>v=u∧Value.oneCell' u=true
 | .sl sz rows,v=>∃ A c,v=.slice A rows.length c∧rows.length<=c∧c<=maxLen∧(rows≠[]->∃ b o,A=some ⟨b,o,none⟩∧nE G sz b o rows)
def nE (G:GH) (sz b:Nat):Nat->List (List Dat)->Prop
 | _,[]=>True
 | o,r :: rs=>(∃ cs,cs.length=sz∧(∀ j v,cs[j]?=some v->aI G b (o+j)=some v)∧aX G r cs)∧nE G sz b (o+sz) rs
def aX (G:GH):List Dat->List ah->Prop
 | [],cs=>cs=[]
 | d :: ds,cs=>∃ v vs,cs=v :: vs∧av G d v∧aX G ds vs
end
theorem aK {G G':GH} (hm:∀ k o,G k=some o->G' k=some o) {b o:Nat} {v:ah} (h:aI G b o=some v):aI G' b o=some v:=by
 unfold aI at h |-
 cases hg:G b with
 | none=>rw [hg] at h;cases h
 | some ob=>rw [hg] at h;rw [hm b ob hg];exact h
mutual
theorem av.mono {G G':GH} (hm:∀ k o,G k=some o->G' k=some o):∀ {d:Dat} {v:ah},av G d v->av G' d v
 | .lf u,v,h=>by simpa [av] using h
 | .sl sz rows,v,h=>by
  simp only [av] at h |-
  obtain ⟨A,c,h1,h2,h3,h4⟩:=h
  exact ⟨A,c,h1,h2,h3,fun hn=>let ⟨b,o,e,hr⟩:=h4 hn;⟨b,o,e,nE.mono hm hr⟩⟩
theorem nE.mono {G G':GH} (hm:∀ k o,G k=some o->G' k=some o) {sz b:Nat}:∀ {rows:List (List Dat)} {o:Nat},nE G sz b o rows->nE G' sz b o rows
 | [],o,_=>by simp [nE]
 | r :: rs,o,h=>by
  simp only [nE] at h |-
  obtain ⟨⟨cs,h1,h2,h3⟩,h4⟩:=h
  exact ⟨⟨cs,h1,fun j v hj=>aK hm (h2 j v hj),aX.mono hm h3⟩,nE.mono hm h4⟩
theorem aX.mono {G G':GH} (hm:∀ k o,G k=some o->G' k=some o):∀ {ds:List Dat} {cs:List ah},aX G ds cs->aX G' ds cs
 | [],cs,h=>by simpa [aX] using h
 | d :: ds,cs,h=>by
  simp only [aX] at h |-
  obtain ⟨v,vs,h1,h2,h3⟩:=h
  exact ⟨v,vs,h1,av.mono hm h2,aX.mono hm h3⟩
end
theorem nE.get {G:GH} {sz b:Nat}:∀ {rows:List (List Dat)} {o k:Nat} {r:List Dat},nE G sz b o rows->rows[k]?=some r->∃ cs,cs.length=sz∧(∀ j v,cs[j]?=some v->aI G b (o+k*sz+j)=some v)∧aX G r cs
 | [],_,_,_,_,h=>by simp at h
 | r :: rs,o,0,q,h,hk=>by
  simp only [AO,ou] at hk
  subst hk
  simp only [nE] at h
  simpa using h.1
 | r :: rs,o,k+1,q,h,hk=>by
  simp only [List.getElem?_cons_succ] at hk
  simp only [nE] at h
  obtain ⟨cs,h1,h2,h3⟩:=nE.get h.2 hk
  exact ⟨cs,h1,fun j v hj=>by rw [<- h2 j v hj];congr 1;rw [Nat.succ_mul];omega,h3⟩
theorem av.slice {G:GH} {sz:Nat} {rows:List (List Dat)} {v:ah} (h:av G (.sl sz rows) v):∃ A c,v=.slice A rows.length c∧rows.length<=c∧c<=maxLen ∧
  ∀ k r,rows[k]?=some r->∃ b o cs,A=some ⟨b,o,none⟩∧cs.length=sz∧(∀ j u,cs[j]?=some u->aI G b (o+k*sz+j)=some u)∧aX G r cs:=by
 simp only [av] at h
 obtain ⟨A,c,h1,h2,h3,h4⟩:=h
 refine ⟨A,c,h1,h2,h3,fun k r hk=>?_⟩
 obtain ⟨b,o,e,hr⟩:=h4 (by rintro rfl;simp at hk)
 obtain ⟨cs,g1,g2,g3⟩:=hr.get hk
 exact ⟨b,o,cs,e,g1,g2,g3⟩
theorem nE.mk {G:GH} {sz b:Nat}:∀ {rows:List (List Dat)} {o:Nat},(∀ k r,rows[k]?=some r->∃ cs,cs.length=sz∧(∀ j u,cs[j]?=some u->aI G b (o+k*sz+j)=some u)∧aX G r cs)->nE G sz b o rows
 | [],o,_=>by simp [nE]
 | r :: rs,o,h=>by
  simp only [nE]
  refine ⟨by simpa using h 0 r O,nE.mk fun k q hk=>?_⟩
  obtain ⟨cs,h1,h2,h3⟩:=h (k+1) q (by simpa using hk)
  exact ⟨cs,h1,fun j v hj=>by rw [<- h2 j v hj];congr 1;rw [Nat.succ_mul];omega,h3⟩
abbrev vi (n:Int):ah:=.int .i64 n
structure jf where
 key:Int
 value:Int
structure ku where
 rev:Int
 move:Int
structure jK where
 rev:Int
 key:Int
 before:Int
 had:Bool
structure zJ where
 ins:Int
 move:Int
 dJ:List ku
 layers:List jK
structure fH where
 props:List jf
 marks:zJ
mutual
inductive ak where
 | mk (kind code id:Int) (text:ByteArray) (head:fH) (flow:List ak) (rows:List aM)
inductive aM where
 | mk (head:fH) (cells:List aN)
inductive aN where
 | mk (id:Int) (head:fH) (flow:List ak)
end
namespace ak
def kind:ak->Int|.mk k _ _ _ _ _ _=>k
def code:ak->Int|.mk _ c _ _ _ _ _=>c
def id:ak->Int|.mk _ _ i _ _ _ _=>i
def text:ak->ByteArray|.mk _ _ _ t _ _ _=>t
def head:ak->fH|.mk _ _ _ _ h _ _=>h
def flow:ak->List ak|.mk _ _ _ _ _ f _=>f
def rows:ak->List aM|.mk _ _ _ _ _ _ r=>r
end ak
namespace aM
def head:aM->fH|.mk h _=>h
def cells:aM->List aN|.mk _ c=>c
end aM
namespace aN
def id:aN->Int|.mk i _ _=>i
def head:aN->fH|.mk _ h _=>h
def flow:aN->List ak|.mk _ _ f=>f
end aN
abbrev li (n:Int):Dat:=.lf (.int .i64 n)
def jf.dat (p:jf):List Dat:=[li p.key,li p.value]
def ku.dat (p:ku):List Dat:=[li p.rev,li p.move]
def jK.dat (p:jK):List Dat:=[li p.rev,li p.key,li p.before,.lf (.bool p.had)]
def zJ.dat (m:zJ):List Dat:=[li m.ins,li m.move,.sl 2 (m.dJ.map ku.dat),.sl 4 (m.layers.map jK.dat)]
def fH.dat (h:fH):List Dat:=.sl 2 (h.props.map jf.dat) :: h.marks.dat
mutual
def ak.dat:ak->List Dat
 | .mk k c i t h f r=>li k :: li c :: li i :: .lf (.string t) :: (h.dat++[.sl 11 (JH f),.sl 6 (MU r)])
def aM.dat:aM->List Dat
 | .mk h cs=>h.dat++[.sl 7 (MS cs)]
def aN.dat:aN->List Dat
 | .mk i h f=>li i :: (h.dat++[.sl 11 (JH f)])
def JH:List ak->List (List Dat)
 | []=>[]
 | x :: r=>x.dat :: JH r
def MU:List aM->List (List Dat)
 | []=>[]
 | x :: r=>x.dat :: MU r
def MS:List aN->List (List Dat)
 | []=>[]
 | x :: r=>x.dat :: MS r
end
theorem VZ:∀ l:List ak,JH l=l.map ak.dat
 | []=>by simp [JH]
 | x :: r=>by simp [JH,VZ r]
theorem aek:∀ l:List aM,MU l=l.map aM.dat
 | []=>by simp [MU]
 | x :: r=>by simp [MU,aek r]
theorem aej:∀ l:List aN,MS l=l.map aN.dat
 | []=>by simp [MS]
 | x :: r=>by simp [MS,aej r]
theorem ak.rz (x:ak):x.dat=li x.kind :: li x.code :: li x.id :: .lf (.string x.text) :: (x.head.dat++[.sl 11 (x.flow.map ak.dat),.sl 6 (x.rows.map aM.dat)]):=by
 cases x;simp [ak.dat,ak.kind,ak.code,ak.id,ak.text,ak.head,ak.flow,ak.rows,VZ,aek]
theorem aM.rz (x:aM):x.dat=x.head.dat++[.sl 7 (x.cells.map aN.dat)]:=by
 cases x;simp [aM.dat,aM.head,aM.cells,aej]
theorem aN.rz (x:aN):x.dat=li x.id :: (x.head.dat++[.sl 11 (x.flow.map ak.dat)]):=by
 cases x;simp [aN.dat,aN.id,aN.head,aN.flow,VZ]
structure jI (G:GH) (x:fH) (p d l:ah):Prop where
 props:av G (.sl 2 (x.props.map jf.dat)) p
 dJ:av G (.sl 2 (x.marks.dJ.map ku.dat)) d
 layers:av G (.sl 4 (x.marks.layers.map jK.dat)) l
theorem jI.mono {G G':GH} (hm:∀ k o,G k=some o->G' k=some o) {x:fH} {p d l:ah} (h:jI G x p d l):jI G' x p d l:=⟨h.props.mono hm,h.dJ.mono hm,h.layers.mono hm⟩
theorem av.form {G:GH} {sz:Nat} {rows:List (List Dat)} {v:ah} (h:av G (.sl sz rows) v):∃ A n c,v=.slice A n c:=by
 obtain ⟨A,c,h,_⟩:=h.slice
 exact ⟨A,_,c,h⟩
theorem aX.item {G:GH} {x:ak} {cs:List ah} (h:aX G x.dat cs):∃ pA pn pc dA dn dc lA ln lc fA fn fc rA rn rc,cs=[vi x.kind,vi x.code,vi x.id,.string x.text,.slice pA pn pc,vi x.head.marks.ins,vi x.head.marks.move,.slice dA dn dc,.slice lA ln lc,.slice fA fn fc,.slice rA rn rc] ∧
  jI G x.head (.slice pA pn pc) (.slice dA dn dc) (.slice lA ln lc)∧av G (.sl 11 (x.flow.map ak.dat)) (.slice fA fn fc)∧av G (.sl 6 (x.rows.map aM.dat)) (.slice rA rn rc):=by
 rw [ak.rz] at h
 simp only [fH.dat,zJ.dat,iT,gJ,aX] at h
 obtain ⟨v1,_,rfl,h1,v2,_,rfl,h2,v3,_,rfl,h3,v4,_,rfl,h4,p,_,rfl,hp,v5,_,rfl,h5,v6,_,rfl,h6,d,_,rfl,hd,l,_,rfl,hl,f,_,rfl,hf,r,_,rfl,hr,rfl⟩:=h
 obtain ⟨pA,pn,pc,rfl⟩:=hp.form
 obtain ⟨dA,dn,dc,rfl⟩:=hd.form
 obtain ⟨lA,ln,lc,rfl⟩:=hl.form
 obtain ⟨fA,fn,fc,rfl⟩:=hf.form
 obtain ⟨rA,rn,rc,rfl⟩:=hr.form
 simp only [av] at h1 h2 h3 h4 h5 h6
 obtain ⟨rfl,-⟩:=h1;obtain ⟨rfl,-⟩:=h2;obtain ⟨rfl,-⟩:=h3;obtain ⟨rfl,-⟩:=h4;obtain ⟨rfl,-⟩:=h5;obtain ⟨rfl,-⟩:=h6
 exact ⟨pA,pn,pc,dA,dn,dc,lA,ln,lc,fA,fn,fc,rA,rn,rc,O,⟨hp,hd,hl⟩,hf,hr⟩
theorem aX.row {G:GH} {x:aM} {cs:List ah} (h:aX G x.dat cs):∃ pA pn pc dA dn dc lA ln lc cA cn cc,cs=[.slice pA pn pc,vi x.head.marks.ins,vi x.head.marks.move,.slice dA dn dc,.slice lA ln lc,.slice cA cn cc]∧jI G x.head (.slice pA pn pc) (.slice dA dn dc) (.slice lA ln lc)∧av G (.sl 7 (x.cells.map aN.dat)) (.slice cA cn cc):=by
 rw [aM.rz] at h
 simp only [fH.dat,zJ.dat,iT,gJ,aX] at h
 obtain ⟨p,_,rfl,hp,v5,_,rfl,h5,v6,_,rfl,h6,d,_,rfl,hd,l,_,rfl,hl,f,_,rfl,hf,rfl⟩:=h
 obtain ⟨pA,pn,pc,rfl⟩:=hp.form
 obtain ⟨dA,dn,dc,rfl⟩:=hd.form
 obtain ⟨lA,ln,lc,rfl⟩:=hl.form
 obtain ⟨fA,fn,fc,rfl⟩:=hf.form
 simp only [av] at h5 h6
 obtain ⟨rfl,-⟩:=h5;obtain ⟨rfl,-⟩:=h6
 exact ⟨pA,pn,pc,dA,dn,dc,lA,ln,lc,fA,fn,fc,O,⟨hp,hd,hl⟩,hf⟩
theorem aX.cell {G:GH} {x:aN} {cs:List ah} (h:aX G x.dat cs):∃ pA pn pc dA dn dc lA ln lc fA fn fc,cs=[vi x.id,.slice pA pn pc,vi x.head.marks.ins,vi x.head.marks.move,.slice dA dn dc,.slice lA ln lc,.slice fA fn fc]∧jI G x.head (.slice pA pn pc) (.slice dA dn dc) (.slice lA ln lc)∧av G (.sl 11 (x.flow.map ak.dat)) (.slice fA fn fc):=by
 rw [aN.rz] at h
 simp only [fH.dat,zJ.dat,iT,gJ,aX] at h
 obtain ⟨v1,_,rfl,h1,p,_,rfl,hp,v5,_,rfl,h5,v6,_,rfl,h6,d,_,rfl,hd,l,_,rfl,hl,f,_,rfl,hf,rfl⟩:=h
 obtain ⟨pA,pn,pc,rfl⟩:=hp.form
 obtain ⟨dA,dn,dc,rfl⟩:=hd.form
 obtain ⟨lA,ln,lc,rfl⟩:=hl.form
 obtain ⟨fA,fn,fc,rfl⟩:=hf.form
 simp only [av] at h1 h5 h6
 obtain ⟨rfl,-⟩:=h1;obtain ⟨rfl,-⟩:=h5;obtain ⟨rfl,-⟩:=h6
 exact ⟨pA,pn,pc,dA,dn,dc,lA,ln,lc,fA,fn,fc,O,⟨hp,hd,hl⟩,hf⟩
theorem av.one {G:GH}:∀ {d:Dat} {v:ah},av G d v->Value.oneCell' v=true
 | .lf u,v,h=>by simp only [av] at h;rw [h.1];exact h.2
 | .sl sz rows,v,h=>by obtain ⟨A,n,c,rfl⟩:=h.form;rfl
theorem aX.one {G:GH}:∀ {ds:List Dat} {cs:List ah},aX G ds cs->cs.all Value.oneCell'=true
 | [],cs,h=>by simp only [aX] at h;subst h;rfl
 | d :: ds,cs,h=>by
  simp only [aX] at h
  obtain ⟨v,vs,rfl,h1,h2⟩:=h
  simp only [List.all_cons,h1.one,h2.one,Bool.and_self]
theorem aX.length {G:GH}:∀ {ds:List Dat} {cs:List ah},aX G ds cs->cs.length=ds.length
 | [],cs,h=>by simp only [aX] at h;subst h;rfl
 | d :: ds,cs,h=>by
  simp only [aX] at h
  obtain ⟨v,vs,rfl,h1,h2⟩:=h
  simp [h2.length]
theorem aX.mkItem {G:GH} {x:ak} {p d l f r:ah} (hh:jI G x.head p d l) (hf:av G (.sl 11 (x.flow.map ak.dat)) f) (hr:av G (.sl 6 (x.rows.map aM.dat)) r) :
  aX G x.dat [vi x.kind,vi x.code,vi x.id,.string x.text,p,vi x.head.marks.ins,vi x.head.marks.move,d,l,f,r]:=by
 rw [ak.rz]
 simp only [fH.dat,zJ.dat,iT,gJ,aX]
 exact ⟨_,_,O,by simp [av,Value.oneCell'],_,_,O,by simp [av,Value.oneCell'],_,_,O,by simp [av,Value.oneCell'],_,_,O,by simp [av,Value.oneCell'],_,_,O,hh.props,_,_,O,by simp [av,Value.oneCell'],_,_,O,by simp [av,Value.oneCell'],_,_,O,hh.dJ,_,_,O,hh.layers,_,_,O,hf,_,_,O,hr,O⟩
theorem aX.RZ {G:GH} {x:aM} {p d l c:ah} (hh:jI G x.head p d l) (hc:av G (.sl 7 (x.cells.map aN.dat)) c) :
  aX G x.dat [p,vi x.head.marks.ins,vi x.head.marks.move,d,l,c]:=by
 rw [aM.rz]
 simp only [fH.dat,zJ.dat,iT,gJ,aX]
 exact ⟨_,_,O,hh.props,_,_,O,by simp [av,Value.oneCell'],_,_,O,by simp [av,Value.oneCell'],_,_,O,hh.dJ,_,_,O,hh.layers,_,_,O,hc,O⟩
theorem aX.RY {G:GH} {x:aN} {p d l f:ah} (hh:jI G x.head p d l) (hf:av G (.sl 11 (x.flow.map ak.dat)) f) :
  aX G x.dat [vi x.id,p,vi x.head.marks.ins,vi x.head.marks.move,d,l,f]:=by
 rw [aN.rz]
 simp only [fH.dat,zJ.dat,iT,gJ,aX]
 exact ⟨_,_,O,by simp [av,Value.oneCell'],_,_,O,hh.props,_,_,O,by simp [av,Value.oneCell'],_,_,O,by simp [av,Value.oneCell'],_,_,O,hh.dJ,_,_,O,hh.layers,_,_,O,hf,O⟩
mutual
def om:Dat->Nat
 | .lf v=>(match v with|.string s=>s.size|_=>0)+1
 | .sl _ rows=>1+eZ rows
def eZ:List (List Dat)->Nat
 | []=>0
 | r :: rs=>1+bY r+eZ rs
def bY:List Dat->Nat
 | []=>0
 | d :: ds=>om d+bY ds
end
theorem LA (a b:List (List Dat)):eZ (a++b)=eZ a+eZ b:=by
 induction a with
 | nil=>simp [eZ]
 | cons x a ih=>simp only [iT,eZ,ih];omega
theorem ZP (a b:List Dat):bY (a++b)=bY a+bY b:=by
 induction a with
 | nil=>simp [bY]
 | cons x a ih=>simp only [iT,bY,ih];omega
theorem tT:∀ rows:List (List Dat),rows.length<=eZ rows
 | []=>fD _
 | r :: rs=>by have:=tT rs;simp only [lD,eZ];omega
theorem Te:∀ {rows:List (List Dat)} {k:Nat} {r:List Dat},rows[k]?=some r->bY r < eZ rows
 | [],_,_,h=>by simp at h
 | q :: rs,0,r,h=>by simp only [AO,ou] at h;subst h;simp only [eZ];omega
 | q :: rs,k+1,r,h=>by have:=Te (rows:=rs) (k:=k) (r:=r) (by simpa using h);simp only [eZ];omega
abbrev aP (l:List ak):Nat:=eZ (l.map ak.dat)
abbrev gq (l:List aM):Nat:=eZ (l.map aM.dat)
abbrev iA (l:List aN):Nat:=eZ (l.map aN.dat)
abbrev oN (h:fH):Nat:=bY h.dat
theorem OT (h:fH):oN h=eZ (h.props.map jf.dat)+eZ (h.marks.dJ.map ku.dat)+eZ (h.marks.layers.map jK.dat)+5:=by
 simp only [oN,fH.dat,zJ.dat,bY,om];omega
theorem pG (x:ak):bY x.dat=x.text.size+oN x.head+aP x.flow+gq x.rows+6:=by
 rw [ak.rz];simp only [bY,om,ZP,oN,aP,gq,iA];omega
theorem Av (x:aM):bY x.dat=oN x.head+iA x.cells+1:=by
 rw [aM.rz];simp only [bY,om,ZP,oN,aP,gq,iA];omega
theorem Ar (x:aN):bY x.dat=oN x.head+aP x.flow+2:=by
 rw [aN.rz];simp only [bY,om,ZP,oN,aP,gq,iA];omega
theorem IW {l:List ak} {k:Nat} (h:k < l.length):l[k].text.size+oN l[k].head+aP l[k].flow+gq l[k].rows+6 < aP l:=by
 rw [<- pG];exact Te (k:=k) (by simp [h])
theorem IX {l:List aM} {k:Nat} (h:k < l.length):oN l[k].head+iA l[k].cells+1 < gq l:=by
 rw [<- Av];exact Te (k:=k) (by simp [h])
theorem IV {l:List aN} {k:Nat} (h:k < l.length):oN l[k].head+aP l[k].flow+2 < iA l:=by
 rw [<- Ar];exact Te (k:=k) (by simp [h])
theorem Au (l:List ak):l.length<=aP l:=by have:=tT (l.map ak.dat);simpa using this
theorem F4 (l:List aM):l.length<=gq l:=by have:=tT (l.map aM.dat);simpa using this
theorem FZ (l:List aN):l.length<=iA l:=by have:=tT (l.map aN.dat);simpa using this
theorem Tf {r:List Dat}:∀ {rows:List (List Dat)},r∈rows->bY r < eZ rows
 | [],h=>by cases h
 | q :: rs,h=>by
  rcases iD.1 h with rfl|h
  ·simp only [eZ];omega
  ·have:=Tf h;simp only [eZ];omega
theorem LM {x:ak} {l:List ak} (h:x∈l):bY x.dat < aP l:=Tf (List.mem_map_of_mem h)
theorem amc {x:aM} {l:List aM} (h:x∈l):bY x.dat < gq l:=Tf (List.mem_map_of_mem h)
theorem alX {x:aN} {l:List aN} (h:x∈l):bY x.dat < iA l:=Tf (List.mem_map_of_mem h)
section
def yJ (l:List Oper) (i:Nat):List Nat:=match l[i]? with|some o=>(o.after.toList.filter (Region.binds .any)).map (·.on)|none=>[]
def dZ (l:List Oper) (i:Nat):Option Nat:=(l[i]?).bind (·.dst)
def yL (l:List Oper) (bS:List (List Nat)):Bool :=
 (List.range l.length).all fun i=>(yJ l i).all (fun j=>Nat.blt j i) && (bS.getD i []).all fun j=>(yJ l i).contains j || (yJ l i).any fun k=>Nat.blt k i && (bS.getD k []).contains j
def dO (S:Nat->Bool) (i:Nat):Nat->Bool:=fun j=>if j=i then true else S j
section
variable {r:Option Nat} {P:Program} {Q:Exit->Act->World->Prop} {l:List Oper} {bS:List (List Nat)} {a:Act} {w:World}
theorem adV (hk:yL l bS=true) {S:Nat->Bool} (hd:∀ i,S i=true->∀ j∈yJ l i,S j=true):∀ i,i < l.length->(∀ j∈yJ l i,S j=true)->∀ j∈bS.getD i [],S j=true:=by
 intro i
 induction i using Nat.strongRecOn with
 | _ i ih =>
  intro hi hdi j hj
  have h1:=lS.1 hk i (qD.2 hi)
  simp only [mG,lS] at h1
  have h2:=h1.2 j hj
  simp only [Bool.or_eq_true,xq,List.any_eq_true,mG] at h2
  rcases h2 with h2|⟨k,hk1,hk2,hk3⟩
  ·exact hdi j h2
  ·have hlt:k < i:=Eq.mp Nat.blt_eq hk2
   exact ih k hlt V (hd k (hdi k hk1)) j hk3
theorem aCO {ops:Array Oper} {i:Nat} {o:Oper} {K:Act->World->Prop} (ho:ops[i]?=some o) (h:WL r P ops (fun e a' w'=>e=.normal∧K a' w') [o] a w):wpOpIn (FW r) 0 P ops Q i K a w:=by
 unfold wpOpIn
 simp only [ho]
 have h':wpListIn (FW r) 0 P ops (fun e a' w'=>e=.normal∧K a' w') [o] a w:=h
 unfold wpListIn at h'
 by_cases hw:Region.wanted o (yielded ops a.tmps)=true
 ·rw [aH hw] at h' |-
  refine ⟨fun _ _=>trivial,?_⟩
  have h2:=h'.2
  generalize (o.semAt (FW r).round a.eval).run P w=res at h2 |-
  cases res with
  | ok x w1 =>
   cases x with
   | value v=>exact h2.2
   | skip=>exact h2.2
   | defer d=>exact h2.2
   | enter f args=>exact ⟨h2.1,h2.2.mono fun e w2 he=>by
     cases e with
     | returned v=>exact he.2
     | panicked ch=>exact absurd he.1 (by simp)
     | outgrown=>obtain ⟨_,_,h3,_⟩:=he;exact absurd h3 (by simp)⟩
   | row Zz args=>exact ⟨h2.1,h2.2.mono fun v w2 he=>he.2⟩
   | round l f t UH b=>exact ⟨h2.1,h2.2.mono fun e w2 he=>by
     cases e with
     | returned v=>exact he.2
     | panicked ch=>exact absurd he.1 (by simp)
     | outgrown=>obtain ⟨_,_,h3,_⟩:=he;exact absurd h3 (by simp)⟩
   | _=>exact h2.elim
  | halt x w1 =>
   cases x with
   | panic v=>exact absurd h2.1 (by simp)
   | _=>exact h2.elim
 ·rw [ay hw] at h' |-
  exact ⟨fun _ _=>trivial,h'.2.2⟩
theorem count_set {L:List Bool}:∀ {i:Nat},L[i]?=some false->(L.set i true).count false+1=L.count false:=by
 induction L with
 | nil=>intro i h;simp at h
 | cons b L ih =>
  intro i h
  cases i with
  | zero=>simp at h;subst h;simp
  | succ i =>
   simp only [List.getElem?_cons_succ] at h
   have:=ih h
   simp only [List.set_cons_succ,List.count_cons]
   omega
theorem VL {id:Nat} (hm:P.follows .mixedOrders=true) (bS:List (List Nat)) (hk:yL l bS=true) (X:(Nat->Bool)->Act->World->Prop) (h0:X (fun _=>false) a w.drew)
  (hstep:∀ i o S a w,l[i]?=some o->X S a w->S i=false->(∀ j∈bS.getD i [],S j=true)->(∀ j,j < l.length->i∈bS.getD j []->S j=false)->WL r P l.toArray (fun e a' w'=>e=.normal∧X (dO S i) a' w') [o] a w)
  (hend:∀ S a w,(∀ i,i < l.length->S i=true)->X S a w->Q .normal a w):WP r P (.region id l.toArray true) Q a w:=by
 have key:∀ (fuel:Nat) (listed:Array Bool) (S:Nat->Bool) (a:Act) (w:World),listed.size=l.length->(∀ i,i < l.length->listed[i]?=some (S i))->listed.toList.count false<=fuel->(∀ i,i < l.length->S i=true->∀ j∈yJ l i,S j=true)->(∀ i,l.length<=i->S i=false)->X S a w ->
   wpAnyIn (FW r) 0 P .any l.toArray Q fuel listed a w:=by
  intro fuel
  induction fuel with
  | zero =>
   intro listed S a w hsz hS hc hdn hbig hX
   have hall:∀ i,i < l.length->S i=true:=by
    intro i hi
    cases aV:S i with
    | true=>rfl
    | false =>
     have h1:=hS i hi
     rw [aV] at h1
     have:false∈listed.toList:=lQ (by simpa using h1)
     have:=List.count_pos_iff.2 this
     omega
   refine ⟨?_,hend S a w hall hX⟩
   apply List.eq_nil_iff_forall_not_mem.2
   intro i hi
   obtain ⟨h1,o,ho,-⟩:=mem_ready.1 hi
   have hil:i < l.length:=by simpa using (Array.getElem?_eq_some_iff.1 ho).1
   have h2:=hS i hil
   rw [hall i hil] at h2
   rw [Array.getD_eq_getD_getElem?,h2] at h1
   cases h1
  | succ fuel ih =>
   intro listed S a w hsz hS hc hdn hbig hX
   have hget:∀ i d,i < l.length->listed.getD i d=S i:=fun i d hi=>by rw [Array.getD_eq_getD_getElem?,hS i hi];rfl
   refine ⟨fun hnil=>?_,fun i hi=>?_⟩
   ·by_cases hall:∀ i,i < l.length->S i=true
    ·exact hend S a w hall hX
    ·exfalso
     have hex:∃ i,i < l.length∧S i=false:=by
      apply Classical.byContradiction
      intro hno
      apply hall
      intro i hi
      cases aV:S i with
      | true=>rfl
      | false=>exact absurd ⟨i,hi,aV⟩ hno
     obtain ⟨i,hi,aV,hmin⟩:∃ i,i < l.length∧S i=false∧∀ j,j < i->S j=true:=by
      obtain ⟨i0,hi0,hs0⟩:=hex
      clear hall
      induction i0 using Nat.strongRecOn with
      | _ i0 ihh =>
       by_cases hlt:∃ j,j < i0∧S j=false
       ·obtain ⟨j,hj,hsj⟩:=hlt
        exact ihh j hj V hsj
       ·refine ⟨i0,hi0,hs0,fun j hj=>?_⟩
        cases hSj:S j with
        | true=>rfl
        | false=>exact absurd ⟨j,hj,hSj⟩ hlt
     have hr:i∈Region.ready .any l.toArray listed:=by
      rw [mem_ready]
      refine ⟨by rw [hget i true hi,aV],l[i],by simp [hi],fun e he hb=>?_⟩
      have hk1:=lS.1 hk i (qD.2 hi)
      simp only [mG,lS] at hk1
      have hin:e.on∈yJ l i:=by
       simp only [yJ,fF hi,List.mem_map,List.mem_filter]
       exact ⟨e,⟨by simpa using he,hb⟩,O⟩
      have hlt:e.on < i:=Eq.mp Nat.blt_eq (hk1.1 _ hin)
      rw [hget _ _ V]
      exact hmin _ hlt
     rw [hnil] at hr
     cases hr
   ·obtain ⟨h1,o,ho,avj⟩:=mem_ready.1 hi
    have hil:i < l.length:=by simpa using (Array.getElem?_eq_some_iff.1 ho).1
    have ho':l[i]?=some o:=by simpa using ho
    have aV:S i=false:=by rw [<- hget i true hil];exact h1
    have hdi:∀ j∈yJ l i,S j=true:=by
     intro j hj
     simp only [yJ,ho',List.mem_map,List.mem_filter] at hj
     obtain ⟨e,⟨he,hb⟩,rfl⟩:=hj
     have h2:=avj e (by simpa using he) hb
     by_cases hjl:e.on < l.length
     ·rwa [hget _ _ hjl] at h2
     ·have hk1:=lS.1 hk i (qD.2 hil)
      simp only [mG,lS] at hk1
      have hin:e.on∈yJ l i:=by
       simp only [yJ,ho',List.mem_map,List.mem_filter]
       exact ⟨e,⟨he,hb⟩,O⟩
      have hlt:e.on < i:=Eq.mp Nat.blt_eq (hk1.1 _ hin)
      omega
    have agO:∀ i,S i=true->∀ j∈yJ l i,S j=true:=by
     intro k hk' j hj
     by_cases hkl:k < l.length
     ·exact hdn k hkl hk' j hj
     ·rw [hbig k V] at hk';cases hk'
    refine aCO ho ?_
    have hs:=hstep i o S a w ho' hX aV (adV hk agO i hil hdi) (fun j hjl hj=>by
     cases hSj:S j with
     | false=>rfl
     | true=>have:=adV hk agO j hjl (hdn j hjl hSj) i hj;rw [this] at aV;cases aV)
    have hmono:∀ e a' w',(e=Exit.normal∧X (dO S i) a' w')->(e=Exit.normal∧wpAnyIn (FW r) 0 P .any l.toArray Q fuel (listed.setIfInBounds i true) a' w'):=by
     rintro e a' w' ⟨he,hX'⟩
     refine ⟨he,ih _ (dO S i) a' w' (by simpa using hsz) (fun j hj=>?_) ?_ (fun j hj hSj q hq=>?_) (fun j hj=>?_) hX'⟩
     ·rw [Array.getElem?_setIfInBounds]
      unfold dO
      by_cases e:i=j
      ·subst e;simp [hsz,hil]
      ·rw [ay e,ay (Ne.symm e)];exact hS j hj
     ·have h3:listed.toList[i]?=some false:=by have:=hS i hil;rw [aV] at this;simpa using this
      have:=count_set h3
      simp only [Array.toList_setIfInBounds]
      omega
     ·unfold dO at hSj |-
      split
      ·rfl
      ·split at hSj
       ·rename_i e;subst e;exact hdi q hq
       ·exact hdn j hj hSj q hq
     ·unfold dO
      rw [ay V]
      exact hbig j hj
    have hs':wpListIn (FW r) 0 P l.toArray (fun e a' w'=>e=.normal∧X (dO S i) a' w') [o] a w:=hs
    show wpListIn (FW r) 0 P l.toArray _ [o] a w
    unfold wpListIn at hs' |-
    split
    ·rename_i hw
     rw [aH hw] at hs'
     refine ⟨fun _ _=>trivial,?_⟩
     have h2:=hs'.2
     generalize (o.semAt (FW r).round a.eval).run P w=res at h2 |-
     cases res with
     | ok x w1 =>
      cases x with
      | value v=>exact hmono _ _ _ h2
      | skip=>exact hmono _ _ _ h2
      | defer d=>exact hmono _ _ _ h2
      | enter f args=>exact ⟨h2.1,h2.2.mono fun e w2 he=>by
        cases e with
        | returned v=>exact hmono _ _ _ he
        | panicked ch=>exact absurd he.1 (by simp)
        | outgrown=>obtain ⟨_,_,h3,_⟩:=he;exact absurd h3 (by simp)⟩
      | row Zz args=>exact ⟨h2.1,h2.2.mono fun v w2 he=>hmono _ _ _ he⟩
      | round l f t UH b=>exact ⟨h2.1,h2.2.mono fun e w2 he=>by
        cases e with
        | returned v=>exact hmono _ _ _ he
        | panicked ch=>exact absurd he.1 (by simp)
        | outgrown=>obtain ⟨_,_,h3,_⟩:=he;exact absurd h3 (by simp)⟩
      | _=>exact h2.elim
     | halt x w1 =>
      cases x with
      | panic v=>exact absurd h2.1 (by simp)
      | _=>exact h2.elim
    ·rename_i hw
     rw [ay hw] at hs'
     exact ⟨fun _ _=>trivial,hmono _ _ _ hs'.2⟩
 refine wpIn_region_any hm (key _ _ (fun _=>false) a w.drew (by simp) (fun i hi=>by simp [hi]) ?_ (fun _ _ h=>by cases h) (fun _ _=>rfl) h0)
 simp
end
def full (N:Nat) (a:Act):List (Nat × ah):=(List.range N).map fun t=>(t,a.tmps.getD t undef)
theorem Iq (T U:List (Nat × ah)) (t:Nat):lk (T++U) t=match lk T t with|some v=>some v|none=>lk U t:=by
 induction T with
 | nil=>rfl
 | cons p T ih =>
  obtain ⟨s,v⟩:=p
  by_cases e:s=t
  ·subst e;rw [iT,lI,lI]
  ·rw [iT,gy e,gy e,ih]
theorem aiI (f:Nat->ah):∀ (L:List Nat) (t:Nat),t∈L->lk (L.map fun t=>(t,f t)) t=some (f t)
 | [],_,h=>by cases h
 | s :: L,t,h=>by
  simp only [eP]
  by_cases e:s=t
  ·subst e;rw [lI]
  ·rw [gy e]
   exact aiI f L t ((iD.1 h).resolve_left (Ne.symm e))
theorem RS {N t:Nat} (a:Act) (h:t < N):lk (full N a) t=some (a.tmps.getD t undef):=aiI (fun t=>a.tmps.getD t undef) _ t (qD.2 h)
section
variable {N:Nat} {D:List Deferred} {w0:World} {F:Nat->Prop} {G0 G G1 G2:GH} {L L1 L2:OL} {T Xs:List (Nat × ah)}
variable {r:Option Nat} {P:Program} {Q:Exit->Act->World->Prop} {l:List Oper} {a a':Act} {w w':World}
theorem St.full (H:St N D w0 F G0 G L T a w):St N D w0 F G0 G L (T++full N a) a w:=by
 refine ⟨H.nH,fun t v ht=>?_,H.tu,H.hp⟩
 rw [Iq] at ht
 cases hT:lk T t with
 | some u=>rw [hT] at ht;simp only [ou] at ht;subst ht;exact H.get t u hT
 | none =>
  rw [hT] at ht
  by_cases hlt:t < N
  ·rw [RS a hlt] at ht
   simp only [ou] at ht
   have h2:t < a.tmps.size:=by rw [H.nH];exact hlt
   rw [<- ht,Array.getD_eq_getD_getElem?,Array.getElem?_eq_getElem h2]
   rfl
  ·exfalso
   have:∀ (L:List Nat),t∉L->lk (L.map fun t=>(t,a.tmps.getD t undef)) t=none:=by
    intro L
    induction L with
    | nil=>intro _;rfl
    | cons s L ih=>intro h;simp only [eP];rw [gy (fun e=>h (by simp [e])),ih (fun h'=>h (by simp [h']))]
   rw [show lk (Proofs.YtggpjlchglgodaaGreat.full N a) t=none from this _ (by simp;omega)] at ht
   cases ht
theorem St.fV (H:St N D w0 F G0 G L T a w) {t:Nat} {v:ah} (h:a.tmps[t]?=some v):St N D w0 F G0 G L ((t,v) :: T) a w :=
 ⟨H.nH,fun s u hs=>by
  by_cases e:t=s
  ·subst e;rw [lI] at hs;simp only [ou] at hs;subst hs;exact h
  ·rw [gy e] at hs;exact H.get s u hs,H.tu,H.hp⟩
def DX (N:Nat) (D:List Deferred) (w0:World) (F:Nat->Prop) (G0 G:GH) (L:OL) (T:List (Nat × ah)) (l:List Oper) (pr:Nat->ah->GH->Prop) (S:Nat->Bool) (a:Act) (w:World):Prop :=
 ∃ G1,(∀ k o,G k=some o->G1 k=some o)∧St N D w0 F G0 G1 L T a w∧∀ i d,S i=true->dZ l i=some d->∃ v,a.tmps[d]?=some v∧pr i v G1
def oz (l:List Oper) (T:List (Nat × ah)) (i:Nat):Bool :=
 match dZ l i with|none=>true|some d=>(lk T d).isNone && (List.range l.length).all fun j=>bif Nat.beq i j then true else !(dZ l j == some d)
def V5 (l:List Oper) (T:List (Nat × ah)):Bool :=
 (List.range l.length).all (oz l T)
theorem Qq {l:List Oper} {T:List (Nat × ah)} (h:V5 l T=true) {i:Nat} (hi:i < l.length):oz l T i=true:=lS.1 h i (qD.2 hi)
theorem pQ {pr:Nat->ah->GH->Prop} {S:Nat->Bool} {i d:Nat} {v:ah} (hok:oz l T i=true) (jr:∀ i v (G G':GH),(∀ k o,G k=some o->G' k=some o)->pr i v G->pr i v G') (hi:dZ l i=some d) (hdl:Nat.blt i l.length=true)
  (HT:St N D w0 F G0 G1 L T a w) (Hb:St N D w0 F G0 G1 L (Xs++full N a) a w) (hG:∀ k o,G k=some o->G1 k=some o) (hv:∀ i d,S i=true->dZ l i=some d->∃ v,a.tmps[d]?=some v∧pr i v G1)
  (hG2:∀ k o,G1 k=some o->G2 k=some o) (hp:pr i v G2) (H:St N D w0 F G0 G2 L ((d,v) :: (Xs++full N a)) a' w'):DX N D w0 F G0 G L T l pr (dO S i) a' w':=by
 have hil:i < l.length:=Eq.mp Nat.blt_eq hdl
 have hok1:=hok
 rw [oz,hi] at hok1
 simp only [mG,Option.isNone_iff_eq_none,lS,qD] at hok1
 have hsame:∀ t,t≠d->a'.tmps[t]?=a.tmps[t]?:=by
  intro t ht
  by_cases hlt:t < N
  ·have h1:∃ u,lk (Xs++full N a) t=some u:=by
    rw [Iq]
    cases lk Xs t with
    | some u=>exact ⟨u,O⟩
    | none=>exact ⟨_,RS a hlt⟩
   obtain ⟨u,hu⟩:=h1
   rw [Hb.get t u hu,H.get t u (by rw [gy (Ne.symm ht)];exact hu)]
  ·rw [Array.getElem?_eq_none (by rw [H.nH];omega),Array.getElem?_eq_none (by rw [Hb.nH];omega)]
 refine ⟨G2,fun k o hk=>hG2 k o (hG k o hk),⟨H.nH,fun t u ht=>?_,H.tu,H.hp⟩,fun j e hj he=>?_⟩
 ·rw [hsame t (fun e=>by rw [e,hok1.1] at ht;cases ht)]
  exact HT.get t u ht
 ·by_cases hji:j=i
  ·subst hji
   rw [hi] at he
   simp only [ou] at he
   subst he
   exact ⟨v,H.get d v (lI _ _ _),hp⟩
  ·have hSj:S j=true:=by unfold dO at hj;rwa [ay hji] at hj
   obtain ⟨u,hu1,hu2⟩:=hv j e hSj he
   have hjl:j < l.length:=by
    unfold dZ at he
    by_cases hl:j < l.length
    ·exact hl
    ·rw [List.getElem?_eq_none V] at he;cases he
   have hne:e≠d:=by
    intro e'
    subst e'
    have h2:=hok1.2 j hjl
    have hb:Nat.beq i j=false:=by
     cases h:Nat.beq i j with
     | false=>rfl
     | true=>exact absurd (AJ h).symm hji
    rw [hb,he] at h2
    simp at h2
   exact ⟨u,by rw [hsame e hne];exact hu1,jr j u _ _ hG2 hu2⟩
def zB (l:List Oper) (bS:List (List Nat)) (B:List Nat):Bool :=
 (List.range B.length).all (fun p=>match B[p]? with|none=>false|some b=>Nat.blt b l.length && (List.range l.length).all fun i=>B.contains i && !(B.take p).contains i || (bS.getD b []).contains i) &&
 (List.range l.length).all fun i=>B.contains i || (bS.getD i []).all fun j=>!B.contains j
def qK (l:List Oper):List Nat->List Oper
 | []=>[]
 | b :: B=>match l[b]? with|some o=>o :: qK l B|none=>qK l B
theorem pF {ops:Array Oper} {Q':Exit->Act->World->Prop} (hq:∀ e a w,Q e a w->Q' e a w):∀ {L:List Oper} {a:Act} {w:World},WL r P ops Q L a w->WL r P ops Q' L a w
 | [],a,w,h=>hq _ _ _ h
 | o :: L,a,w,h=>by
  have h':wpListIn (FW r) 0 P ops Q (o :: L) a w:=h
  show wpListIn (FW r) 0 P ops Q' (o :: L) a w
  unfold wpListIn at h' |-
  split
  ·rename_i hw
   rw [aH hw] at h'
   refine ⟨h'.1,?_⟩
   have h2:=h'.2
   generalize (o.semAt (FW r).round a.eval).run P w=res at h2 |-
   cases res with
   | ok x w1 =>
    cases x with
    | value v=>exact pF hq h2
    | skip=>exact pF hq h2
    | defer d=>exact pF hq h2
    | enter f args=>exact ⟨h2.1,h2.2.mono fun e w2 he=>by
      cases e with
      | returned v=>exact pF hq he
      | panicked ch=>exact hq _ _ _ he
      | outgrown=>obtain ⟨x,y,h3⟩:=he;exact ⟨x,y,hq _ _ _ h3⟩⟩
    | row Zz args=>exact ⟨h2.1,h2.2.mono fun v w2 he=>pF hq he⟩
    | round l f t UH b=>exact ⟨h2.1,h2.2.mono fun e w2 he=>by
      cases e with
      | returned v=>exact pF hq he
      | panicked ch=>exact hq _ _ _ he
      | outgrown=>obtain ⟨x,y,h3⟩:=he;exact ⟨x,y,hq _ _ _ h3⟩⟩
    | _=>exact h2.elim
   | halt x w1 =>
    cases x with
    | panic v=>exact hq _ _ _ h2
    | _=>exact h2.elim
  ·rename_i hw
   rw [ay hw] at h'
   exact ⟨h'.1,pF hq h'.2⟩
theorem alU {ops:Array Oper} {o:Oper} {L:List Oper} {K:Act->World->Prop} (hK:∀ a w,WL r P ops (fun e a w=>e=.normal∧Q .normal a w) L a w->K a w) (h:WL r P ops (fun e a w=>e=.normal∧Q .normal a w) (o :: L) a w):WL r P ops (fun e a' w'=>e=.normal∧K a' w') [o] a w:=by
 have h':wpListIn (FW r) 0 P ops (fun e a w=>e=.normal∧Q .normal a w) (o :: L) a w:=h
 show wpListIn (FW r) 0 P ops _ [o] a w
 unfold wpListIn at h' |-
 split
 ·rename_i hw
  rw [aH hw] at h'
  refine ⟨h'.1,?_⟩
  have h2:=h'.2
  generalize (o.semAt (FW r).round a.eval).run P w=res at h2 |-
  cases res with
  | ok x w1 =>
   cases x with
   | value v=>exact ⟨O,hK _ _ h2⟩
   | skip=>exact ⟨O,hK _ _ h2⟩
   | defer d=>exact ⟨O,hK _ _ h2⟩
   | enter f args=>exact ⟨h2.1,h2.2.mono fun e w2 he=>by
     cases e with
     | returned v=>exact ⟨O,hK _ _ he⟩
     | panicked ch=>exact absurd he.1 (by simp)
     | outgrown=>obtain ⟨_,_,h3,_⟩:=he;exact absurd h3 (by simp)⟩
   | row Zz args=>exact ⟨h2.1,h2.2.mono fun v w2 he=>⟨O,hK _ _ he⟩⟩
   | round l f t UH b=>exact ⟨h2.1,h2.2.mono fun e w2 he=>by
     cases e with
     | returned v=>exact ⟨O,hK _ _ he⟩
     | panicked ch=>exact absurd he.1 (by simp)
     | outgrown=>obtain ⟨_,_,h3,_⟩:=he;exact absurd h3 (by simp)⟩
   | _=>exact h2.elim
  | halt x w1 =>
   cases x with
   | panic v=>exact absurd h2.1 (by simp)
   | _=>exact h2.elim
 ·rename_i hw
  rw [ay hw] at h'
  exact ⟨h'.1,O,hK _ _ h'.2⟩
theorem anY {id:Nat} (hm:P.follows .mixedOrders=true) (bS:List (List Nat)) (B:List Nat) (hk:yL l bS=true) (hB:zB l bS B=true) (pr:Nat->ah->GH->Prop) (jr:∀ i v (G G':GH),(∀ k o,G k=some o->G' k=some o)->pr i v G->pr i v G')
  (H:St N D w0 F G0 G L T a w)
  (hstep:∀ i o S a w G1,l[i]?=some o->B.contains i=false->S i=false->(∀ j∈bS.getD i [],S j=true)->(∀ k o,G k=some o->G1 k=some o)->St N D w0 F G0 G1 L T a w->(∀ i d,S i=true->dZ l i=some d->∃ v,a.tmps[d]?=some v∧pr i v G1) ->
   WL r P l.toArray (fun e a' w'=>e=.normal∧DX N D w0 F G0 G L T l pr (dO S i) a' w') [o] a w)
  (hend:∀ a w G1,(∀ k o,G k=some o->G1 k=some o)->St N D w0 F G0 G1 L T a w->(∀ i d,B.contains i=false->dZ l i=some d->∃ v,a.tmps[d]?=some v∧pr i v G1)->WL r P l.toArray (fun e a w=>e=.normal∧Q .normal a w) (qK l B) a w):WP r P (.region id l.toArray true) Q a w:=by
 have hB1:∀ p b,B[p]?=some b->b < l.length∧∀ i,i < l.length->(B.contains i=false∨(B.take p).contains i=true)->i∈bS.getD b []:=by
  intro p b hp
  simp only [zB,mG] at hB
  have h1:=lS.1 hB.1 p (qD.2 (ji.1 hp).1)
  rw [hp] at h1
  simp only [mG,lS,qD] at h1
  refine ⟨Eq.mp Nat.blt_eq h1.1,fun i hi hor=>?_⟩
  have h2:=h1.2 i hi
  rcases hor with h3|h3
  ·have h4:i∉B:=by simpa using h3
   simpa [h4] using h2
  ·have h4:i∈B.take p:=by simpa using h3
   simpa [h4] using h2
 have hB2:∀ i,i < l.length->B.contains i=false->∀ j∈bS.getD i [],B.contains j=false:=by
  intro i hi hb j hj
  simp only [zB,mG] at hB
  have h1:=lS.1 hB.2 i (qD.2 hi)
  rw [hb] at h1
  simp only [Bool.false_or,lS] at h1
  simpa using h1 j hj
 refine VL hm bS hk (fun S a w=>((∀ i,B.contains i=true->S i=false)∧DX N D w0 F G0 G L T l pr S a w) ∨
   ∃ p,(∀ i,i < l.length->B.contains i=false->S i=true)∧(∀ i,(B.take p).contains i=true->S i=true)∧(∀ q b,B[q]?=some b->p<=q->S b=false)∧WL r P l.toArray (fun e a w=>e=.normal∧Q .normal a w) (qK l (B.drop p)) a w)
  (.inl ⟨fun _ _=>rfl,G,fun _ _ h=>h,H.move H.hp.drew,fun _ _ h=>by cases h⟩) ?_ ?_
 ·intro i o S a w ho hX aV kM hdesc
  have hil:i < l.length:=(ji.1 ho).1
  by_cases hbi:B.contains i=true
  ·-- an operation of the tail: all that stands ahead of it is done
   obtain ⟨p0,hp0⟩:=List.getElem?_of_mem (by simpa using hbi:i∈B)
   have hall:∀ j,j < l.length->B.contains j=false->S j=true:=fun j hj hb=>kM j ((hB1 p0 i hp0).2 j hj (.inl hb))
   have X5:∃ p,(∀ i,(B.take p).contains i=true->S i=true)∧(∀ q b,B[q]?=some b->p<=q->S b=false)∧WL r P l.toArray (fun e a w=>e=.normal∧Q .normal a w) (qK l (B.drop p)) a w:=by
    rcases hX with ⟨h1,G1,hG,HS,hv⟩|⟨p,_,h2,h3,h4⟩
    ·refine ⟨0,by simp,fun q b hq _=>h1 b (by simpa using lQ hq),?_⟩
     refine hend a w G1 hG HS fun j e hb he=>?_
     have hjl:j < l.length:=by
      unfold dZ at he
      by_cases hl:j < l.length
      ·exact hl
      ·rw [List.getElem?_eq_none V] at he;cases he
     exact hv j e (hall j hjl hb) he
    ·exact ⟨p,h2,h3,h4⟩
   obtain ⟨p,h2,h3,h4⟩:=X5
   -- i is the next one
   have hpp:p<=p0:=by
    rcases Nat.lt_or_ge p0 p with hlt|hge
    ·have:(B.take p).contains i=true:=by
      simp only [xq]
      exact lQ (i:=p0) (by rw [sV,aH hlt];exact hp0)
     rw [h2 i this] at aV;cases aV
    ·exact hge
   have Ia:p < B.length:=by have:=(ji.1 hp0).1;omega
   have hbp:B[p]?=some B[p]:=fF Ia
   have heq:B[p]=i:=by
    rcases Nat.lt_or_ge p p0 with hlt|hge
    ·exfalso
     have hin:B[p]∈bS.getD i []:=(hB1 p0 i hp0).2 _ (hB1 p _ hbp).1 (.inr (by
      simp only [xq]
      exact lQ (i:=p) (by rw [sV,aH hlt];exact hbp)))
     have:=kM _ hin
     rw [h3 p _ hbp (fD _)] at this;cases this
    ·have:p=p0:=by omega
     subst this
     rw [hbp] at hp0;simpa using hp0
   have hdrop:B.drop p=i :: B.drop (p+1):=by rw [mW Ia,heq]
   have hops:qK l (B.drop p)=o :: qK l (B.drop (p+1)):=by rw [hdrop];simp [qK,ho]
   rw [hops] at h4
   refine alU (fun a' w' h5=>.inr ⟨p+1,fun j hj hb=>?_,fun j hj=>?_,fun q b hq hpq=>?_,h5⟩) h4
   ·unfold dO;split
    ·rfl
    ·exact hall j hj hb
   ·unfold dO;split
    ·rfl
    ·rename_i hne
     refine h2 j ?_
     simp only [xq] at hj |-
     rw [jk Ia,iP] at hj
     rcases hj with hj|hj
     ·exact hj
     ·simp only [qX] at hj;exact absurd (hj.trans heq) hne
   ·unfold dO
    rw [ay ?_]
    ·exact h3 q b hq V
    ·rintro rfl
     -- i would stand twice in B: it would come ahead of itself
     have h6:=(hB1 q b hq).2 b (hB1 q b hq).1 (.inr (by
      simp only [xq]
      exact lQ (i:=p) (by rw [sV,aH V];rw [hbp,heq])))
     rw [kM _ h6] at aV;cases aV
  ·have Bq:B.contains i=false:=by cases h:B.contains i with|false=>rfl|true=>exact absurd h hbi
   rcases hX with ⟨h1,G1,hG,HS,hv⟩|⟨p,h0,_,_,_⟩
   ·refine pF (fun e a' w' ⟨he,hD⟩=>⟨he,.inl ⟨fun j hj=>?_,hD⟩⟩) (hstep i o S a w G1 ho Bq aV kM hG HS hv)
    unfold dO
    rw [ay (by rintro rfl;rw [Bq] at hj;cases hj)]
    exact h1 j hj
   ·rw [h0 i hil Bq] at aV;cases aV
 ·intro S a w hall hX
  rcases hX with ⟨h1,G1,hG,HS,hv⟩|⟨p,_,_,h3,h4⟩
  ·have hnil:B=[]:=by
    cases B with
    | nil=>rfl
    | cons b B=>have h5:=h1 b (by simp);rw [hall b (hB1 0 b O).1] at h5;cases h5
   subst hnil
   have h6:=hend a w G1 hG HS fun j e _ he=>by
    have hjl:j < l.length:=by
     unfold dZ at he
     by_cases hl:j < l.length
     ·exact hl
     ·rw [List.getElem?_eq_none V] at he;cases he
    exact hv j e (hall j hjl) he
   exact h6.2
  ·have hnil:B.drop p=[]:=by
    cases hd:B.drop p with
    | nil=>rfl
    | cons b B' =>
     have hb:B[p]?=some b:=by
      have:=dh (fun x:List Nat=>x[0]?) hd
      simpa using this
     have h5:=h3 p b hb (fD _)
     rw [hall b (hB1 p b hb).1] at h5;cases h5
   rw [hnil] at h4
   exact h4.2
def allI (φ:Nat->Oper->Prop):Nat->List Oper->Prop
 | _,[]=>True
 | i,o :: r=>φ i o∧allI φ (i+1) r
theorem dG {φ:Nat->Oper->Prop} {i:Nat}:allI φ i []:=trivial
theorem bK {φ:Nat->Oper->Prop} {i:Nat} {o:Oper} {r:List Oper} (h:φ i o) (t:allI φ (i+1) r):allI φ i (o :: r):=⟨h,t⟩
theorem zL {φ:Nat->Oper->Prop}:∀ {l:List Oper} {s:Nat},allI φ s l->∀ i o,l[i]?=some o->φ (s+i) o
 | [],s,_,i,o,h=>by simp at h
 | x :: l,s,h,0,o,ho=>by simp at ho;subst ho;exact h.1
 | x :: l,s,h,i+1,o,ho=>by
  have:=zL h.2 i o (by simpa using ho)
  rwa [show s+1+i=s+(i+1) by omega] at this
theorem xC {id:Nat} (hm:P.follows .mixedOrders=true) (bS:List (List Nat)) (B:List Nat) (hk:yL l bS=true) (hB:zB l bS B=true) (pr:Nat->ah->GH->Prop) (jr:∀ i v (G G':GH),(∀ k o,G k=some o->G' k=some o)->pr i v G->pr i v G')
  (H:St N D w0 F G0 G L T a w)
  (hstep:allI (fun i o=>∀ S a w G1,B.contains i=false->S i=false->(∀ j∈bS.getD i [],S j=true)->(∀ k o,G k=some o->G1 k=some o)->St N D w0 F G0 G1 L T a w->(∀ i d,S i=true->dZ l i=some d->∃ v,a.tmps[d]?=some v∧pr i v G1) ->
   WL r P l.toArray (fun e a' w'=>e=.normal∧DX N D w0 F G0 G L T l pr (dO S i) a' w') [o] a w) 0 l)
  (hend:∀ a w G1,(∀ k o,G k=some o->G1 k=some o)->St N D w0 F G0 G1 L T a w->(∀ i d,B.contains i=false->dZ l i=some d->∃ v,a.tmps[d]?=some v∧pr i v G1)->WL r P l.toArray (fun e a w=>e=.normal∧Q .normal a w) (qK l B) a w):WP r P (.region id l.toArray true) Q a w :=
 anY hm bS B hk hB pr jr H (fun i o S a w G1 ho hb hs hc hg HS hv=>by
  have:=zL hstep i o ho
  rw [fO] at this
  exact this S a w G1 hb hs hc hg HS hv) hend
theorem aBE {pr:Nat->ah->GH->Prop} {i d j t:Nat} {op:Op} {ty:TypeId} {pos:String} {aL:Array Edge} {want b:Bool} {bS:List (List Nat)} {B:List Nat} (hok:oz l T i=true) (jr:∀ i v (G G':GH),(∀ k o,G k=some o->G' k=some o)->pr i v G->pr i v G')
  (hi:dZ l i=some d) (hdl:Nat.blt i l.length=true) (hjd:dZ l j=some t) (hjc:(bS.getD i []).contains j=true) (hd:Nat.blt d N=true) (hb:∀ v G,pr j v G->v=.bool b) (hbw:b=!want) (hu:∀ G,pr i undef G) :
  ∀ S a w G1,B.contains i=false->S i=false->(∀ j∈bS.getD i [],S j=true)->(∀ k o,G k=some o->G1 k=some o)->St N D w0 F G0 G1 L T a w->(∀ i d,S i=true->dZ l i=some d->∃ v,a.tmps[d]?=some v∧pr i v G1) ->
   WL r P l.toArray (fun e a' w'=>e=.normal∧DX N D w0 F G0 G L T l pr (dO S i) a' w') [⟨some d,op,ty,pos,aL,some (j,want)⟩] a w:=by
 intro S a w G1 _ _ hc hG HT hv
 obtain ⟨u,hu1,hu2⟩:=hv j t (hc j (xq.1 hjc)) hjd
 obtain rfl:=hb _ _ hu2
 have H:=(HT.fV hu1).full
 refine akw H (by unfold dZ at hjd;simpa using hjd) (show lk ((t,Value.bool b) :: (T++full N a)) t=_ by simp [lk]) hbw hd ?_
 intro a' H'
 refine aF ⟨O,?_⟩
 exact pQ (Xs:=(t,.bool b) :: T) hok jr hi hdl HT H hG hv (fun _ _ h=>h) (hu G1) H'
def UD (pr:Nat->ah->GH->Prop):List (Nat × Nat × ah)->Prop
 | []=>True
 | (j,_,u) :: r=>(∀ v G,pr j v G->v=u)∧UD pr r
def C9 (us:List (Nat × Nat × ah)) (T:List (Nat × ah)):List (Nat × ah):=us.foldl (fun T x=>(x.2.1,x.2.2) :: T) T
theorem aaK {pr:Nat->ah->GH->Prop} {S:Nat->Bool} {ds:List Nat}:∀ {us:List (Nat × Nat × ah)} {T:List (Nat × ah)},us.all (fun x=>ds.contains x.1 && (dZ l x.1 == some x.2.1))=true->UD pr us->(∀ j∈ds,S j=true)->(∀ i d,S i=true->dZ l i=some d->∃ v,a.tmps[d]?=some v∧pr i v G1)->St N D w0 F G0 G1 L T a w->St N D w0 F G0 G1 L (C9 us T) a w
 | [],_,_,_,_,_,H=>H
 | (j,t,u) :: r,T,h,hu,hc,hv,H=>by
  simp only [List.all_cons,mG,beq_iff_eq] at h
  obtain ⟨v,hv1,hv2⟩:=hv j t (hc j (xq.1 h.1.1)) h.1.2
  obtain rfl:=hu.1 v _ hv2
  exact aaK (us:=r) h.2 hu.2 hc hv (H.fV hv1)
theorem dB {pr:Nat->ah->GH->Prop} {i d:Nat} {o:Oper} {bS:List (List Nat)} {B:List Nat} (us:List (Nat × Nat × ah)) (Ie:us.all (fun x=>(bS.getD i []).contains x.1 && (dZ l x.1 == some x.2.1))=true) (hu:UD pr us) (hok:oz l T i=true) (jr:∀ i v (G G':GH),(∀ k o,G k=some o->G' k=some o)->pr i v G->pr i v G')
  (hi:dZ l i=some d) (hdl:Nat.blt i l.length=true)
  (k:∀ S a w G1,(∀ k o,G k=some o->G1 k=some o)->St N D w0 F G0 G1 L T a w->St N D w0 F G0 G1 L (C9 us T++full N a) a w ->
   (∀ {a' w' G2 v},St N D w0 F G0 G2 L ((d,v) :: (C9 us T++full N a)) a' w'->(∀ k o,G1 k=some o->G2 k=some o)->pr i v G2->WL r P l.toArray (fun e a' w'=>e=.normal∧DX N D w0 F G0 G L T l pr (dO S i) a' w') [] a' w')->WL r P l.toArray (fun e a' w'=>e=.normal∧DX N D w0 F G0 G L T l pr (dO S i) a' w') [o] a w) :
  ∀ S a w G1,B.contains i=false->S i=false->(∀ j∈bS.getD i [],S j=true)->(∀ k o,G k=some o->G1 k=some o)->St N D w0 F G0 G1 L T a w->(∀ i d,S i=true->dZ l i=some d->∃ v,a.tmps[d]?=some v∧pr i v G1) ->
   WL r P l.toArray (fun e a' w'=>e=.normal∧DX N D w0 F G0 G L T l pr (dO S i) a' w') [o] a w:=by
 intro S a w G1 _ _ hc hG HT hv
 have H:=aaK Ie hu hc hv HT
 exact k S a w G1 hG HT H.full fun H' hG2 hp=>aF ⟨O,pQ (Xs:=C9 us T) hok jr hi hdl HT H.full hG hv hG2 hp H'⟩
end
end
section
section
variable {N:Nat} {D:List Deferred} {w0:World} {F:Nat->Prop} {G0 G:GH} {L:List (Nat × Obj)} {T:List (Nat × ah)}
variable {r:Option Nat} {P:Program} {ops:Array Oper} {Q:Exit->Act->World->Prop} {rest:List Oper} {w:World}
variable {d:Nat} {ty:TypeId} {pos:String} {aL:Array Edge}
theorem kH {a:Act} {l:List Oper} (H:St N D w0 F G0 G L T a w) (k:∀ a,St N D w0 F G0 G L T a w->WL r P ops Q l a w):WL r P ops Q l a w:=k a H
theorem Rm {x:Operand} {v:ah} (h:(ev T x,Nat.blt d N)=(some v,true)) (k:∀ a',St N D w0 F G0 G L ((d,v) :: T) a' w->WL r P ops Q rest a' w) :
  ∀ a,St N D w0 F G0 G L T a w->WL r P ops Q (⟨some d,.move x,ty,pos,aL,none⟩ :: rest) a w:=fun _ H=>by
 simp only [iE] at h
 exact FI H wn h.1 h.2 k
theorem Ra {x:Operand} {v:ah} (h:(ev T x,Nat.blt d N)=(some v,true)) (k:∀ a',St N D w0 F G0 G L ((d,v) :: T) a' w->WL r P ops Q rest a' w) :
  ∀ a,St N D w0 F G0 G L T a w->WL r P ops Q (⟨some d,.assign x,ty,pos,aL,none⟩ :: rest) a w:=fun _ H=>by
 simp only [iE] at h
 exact aAP H wn h.1 h.2 k
theorem Rc {op:BinOp} {x y:Operand} {t yt:TypeId} {kd:IntKind} {p q:Int} {b:Bool} (h:(ev T x,ev T y,MP op p q,Nat.blt d N)=(some (.int kd p),some (.int kd q),some b,true)) (k:∀ a',St N D w0 F G0 G L ((d,.bool b) :: T) a' w->WL r P ops Q rest a' w) :
  ∀ a,St N D w0 F G0 G L T a w->WL r P ops Q (⟨some d,.binOp op t x y yt,ty,pos,aL,none⟩ :: rest) a w:=fun _ H=>by
 simp only [iE] at h
 exact IE H wn h.1 h.2.1 h.2.2.1 h.2.2.2 k
theorem Rf {s:TypeId} {x:Operand} {n b o off:Nat} (hs:dz P s n off) (h:(ev T x,Nat.blt d N)=(some (.pointer (some ⟨b,o,none⟩)),true)) (k:∀ a',St N D w0 F G0 G L ((d,.pointer (some ⟨b,o+off,none⟩)) :: T) a' w->WL r P ops Q rest a' w) :
  ∀ a,St N D w0 F G0 G L T a w->WL r P ops Q (⟨some d,.fieldAddr s x n,ty,pos,aL,none⟩ :: rest) a w:=fun _ H=>by
 simp only [iE] at h
 exact CX hs H wn h.1 h.2 k
theorem Rn {x:Operand} {t:TypeId} {b:Bool} (h:(ev T x,Nat.blt d N)=(some (.bool b),true)) (k:∀ a',St N D w0 F G0 G L ((d,.bool (!b)) :: T) a' w->WL r P ops Q rest a' w) :
  ∀ a,St N D w0 F G0 G L T a w->WL r P ops Q (⟨some d,.unOp .not t x,ty,pos,aL,none⟩ :: rest) a w:=fun _ H=>by
 simp only [iE] at h
 exact ZE H wn h.1 h.2 k
theorem Rk {x:Operand} {p:Addr} (h:(ev T x,Nat.blt d N)=(some (.pointer (some p)),true)) (k:∀ a',St N D w0 F G0 G L ((d,.pointer (some p)) :: T) a' w->WL r P ops Q rest a' w) :
  ∀ a,St N D w0 F G0 G L T a w->WL r P ops Q (⟨some d,.nilCheck x,ty,pos,aL,none⟩ :: rest) a w:=fun _ H=>by
 simp only [iE] at h
 exact zx H wn h.1 h.2 k
theorem Rl {x:Operand} {t e:TypeId} {A:Option Addr} {n c:Nat} (hs:P.underlying t=some (.slice e)) (h:(ev T x,Nat.blt d N)=(some (.slice A n c),true)) (k:∀ a',St N D w0 F G0 G L ((d,.int .i64 n) :: T) a' w->WL r P ops Q rest a' w) :
  ∀ a,St N D w0 F G0 G L T a w->WL r P ops Q (⟨some d,.call { callee:=.builtin .len,args:=#[x],argTypes:=#[t] },ty,pos,aL,none⟩ :: rest) a w:=fun _ H=>by
 simp only [iE] at h
 exact ZC hs H wn h.1 h.2 k
theorem Ro {t:TypeId} {sz bytes:Nat} {zero:List ah} (ht:Ty P t sz bytes zero false) (i:Nat) {x:Operand} {b o:Nat} {v:ah} {c:Array ah} {e:TypeId} {fz:Nat × Nat} (h:(ev T x,L[i]?,Nat.blt d N,c[o]?)=(some (.pointer (some ⟨b,o,none⟩)),some (b,.cells c e fz),true,some v))
  (k:∀ a',St N D w0 F G0 G L ((d,v) :: T) a' w->WL r P ops Q rest a' w) :
  ∀ a,St N D w0 F G0 G L T a w->WL r P ops Q (⟨some d,.load t x,ty,pos,aL,none⟩ :: rest) a w:=fun _ H=>by
 simp only [iE] at h
 exact tQ ht H wn h.1 (H.hp.tO i h.2.1 h.2.2.2) h.2.2.1 k
theorem aU {d':Nat} {ty':TypeId} {pos':String} {amP:Array Edge} {s:TypeId} {x:Operand} {n b o off:Nat} (hs:dz P s n off) {t:TypeId} {sz bytes:Nat} {zero:List ah} (ht:Ty P t sz bytes zero false) (i:Nat) {v:ah} {c:Array ah} {e:TypeId} {fz:Nat × Nat}
  (h:(ev T x,Nat.blt d N)=(some (.pointer (some ⟨b,o,none⟩)),true)) (h':(L[i]?,Nat.blt d' N,c[o+off]?)=(some (b,.cells c e fz),true,some v))
  (k:∀ a',St N D w0 F G0 G L ((d',v) :: (d,.pointer (some ⟨b,o+off,none⟩)) :: T) a' w->WL r P ops Q rest a' w) :
  ∀ a,St N D w0 F G0 G L T a w->WL r P ops Q (⟨some d,.fieldAddr s x n,ty,pos,aL,none⟩ :: ⟨some d',.load t (.tmp d),ty',pos',amP,none⟩ :: rest) a w :=
 Rf hs h (Ro ht i (by simp only [iE] at h' |-;exact ⟨lI ..,h'.1,h'.2.1,h'.2.2⟩) k)
theorem lv {a:Act} {fn:Func} {t:Nat} {v:ah} {R:Ending->World->Prop} (H:St N [] w0 F G0 G L T a w) (hr:fn.results=#[.tmp t]) (h:lk T t=some v) (hR:R (.returned v) w):bodyPostM (FW none) 0 P fn R .ret a w :=
 (leave1 H (rs:=[.tmp t]) hr (.cons (fE H h) .nil) hR).1
theorem St.rt {a:Act} {R:ah->GH->Prop} {v:ah} (H:St N D w0 (fun k=>k < w0.heap.size) G0 G L T a w) (hR:R v G):bG w0 G0 R (.returned v) w:=H.hp.ret hR
theorem St.ro {a:Act} (H:St N D w0 F G0 G L T a w):∀ k o,G k=some o->w.heap[k]?=some o:=H.hp.ro
theorem iJ {H:GH}:∀ k o,H k=some o->H k=some o:=fun _ _ h=>h
end
theorem eN {N:Nat} {w:World} {G:GH} {P:Program} (T:List (Nat × ah)) {f:FuncId} {fn:Func} {c:Code} {vs:List ah} {R:Ending->World->Prop} (hf:P.funcs[f]?=some fn) (hb:fn.body=some c) (hN:fn.ntmps=N) (hle:Nat.ble vs.length N=true)
  (hT:Gx 0 vs=T) (hG:Hold G w) (h:∀ a,St N [] w (fun k=>k < w.heap.size) G G [] T a w->WP none P c (bodyPostM (FW none) 0 P fn R) a w):Calls P f vs.toArray w R :=
 enter hf hb hN hle hT hG (fun _ h=>h) (fun _ h=>by cases h) (fun _ h=>by cases h) (fun _ h=>by cases h) List.Pairwise.nil h
def pvW:List ah->Nat->ah->Prop
 | [],_,_=>True
 | x :: _,0,v=>v=x
 | _ :: l,i+1,v=>pvW l i v
def Zh (vs:List ah) (i:Nat) (v:ah) (_:GH):Prop:=pvW vs i v
section
variable {N:Nat} {D:List Deferred} {w0:World} {F:Nat->Prop} {G0 G:GH} {L:OL} {T:List (Nat × ah)}
variable {P:Program} {l:List Oper} {r:Option Nat}
abbrev Mf (N:Nat) (D:List Deferred) (w0:World) (F:Nat->Prop) (G0 G:GH) (L:OL) (T:List (Nat × ah)) (r:Option Nat) (P:Program) (l:List Oper) (pr:Nat->ah->GH->Prop) (i d:Nat) (o:Oper) (us:List (Nat × Nat × ah)):Prop :=
 ∀ S a w G1,(∀ k o,G k=some o->G1 k=some o)->St N D w0 F G0 G1 L T a w->St N D w0 F G0 G1 L (C9 us T++full N a) a w ->
   (∀ {a' w' G2 v},St N D w0 F G0 G2 L ((d,v) :: (C9 us T++full N a)) a' w'->(∀ k o,G1 k=some o->G2 k=some o)->pr i v G2->WL r P l.toArray (fun e a' w'=>e=.normal∧DX N D w0 F G0 G L T l pr (dO S i) a' w') [] a' w')->WL r P l.toArray (fun e a' w'=>e=.normal∧DX N D w0 F G0 G L T l pr (dO S i) a' w') [o] a w
abbrev wZ (N:Nat) (D:List Deferred) (w0:World) (F:Nat->Prop) (G0 G:GH) (L:OL) (T:List (Nat × ah)) (r:Option Nat) (P:Program) (l:List Oper) (bS:List (List Nat)) (B:List Nat) (pr:Nat->ah->GH->Prop) (i:Nat) (o:Oper):Prop :=
 ∀ S a w G1,B.contains i=false->S i=false->(∀ j∈bS.getD i [],S j=true)->(∀ k o,G k=some o->G1 k=some o)->St N D w0 F G0 G1 L T a w->(∀ i d,S i=true->dZ l i=some d->∃ v,a.tmps[d]?=some v∧pr i v G1) ->
   WL r P l.toArray (fun e a' w'=>e=.normal∧DX N D w0 F G0 G L T l pr (dO S i) a' w') [o] a w
variable {pr:Nat->ah->GH->Prop} {i d:Nat} {o:Oper} {bS:List (List Nat)} {B:List Nat}
theorem Un (h:(dZ l i,Nat.blt i l.length)=(some d,true)) (k:Mf N D w0 F G0 G L T r P l pr i d o [])
  (hok:oz l T i=true:=by kernel_rfl) (jr:∀ i v (G G':GH),(∀ k o,G k=some o->G' k=some o)->pr i v G->pr i v G':=by exact fun _ _ _ _ _ h=>h):wZ N D w0 F G0 G L T r P l bS B pr i o:=by
 simp only [iE] at h
 exact dB [] O trivial hok jr h.1 h.2 k
theorem gX (j t:Nat) {x:ah} (h:(dZ l i,Nat.blt i l.length,[(j,t,x)].all (fun x=>(bS.getD i []).contains x.1 && (dZ l x.1 == some x.2.1)))=(some d,true,true)) (hu:pr j=fun v _=>v=x) (k:Mf N D w0 F G0 G L T r P l pr i d o [(j,t,x)])
  (hok:oz l T i=true:=by kernel_rfl) (jr:∀ i v (G G':GH),(∀ k o,G k=some o->G' k=some o)->pr i v G->pr i v G':=by exact fun _ _ _ _ _ h=>h):wZ N D w0 F G0 G L T r P l bS B pr i o:=by
 simp only [iE] at h
 exact dB _ h.2.2 ⟨fun v G h=>by rw [hu] at h;exact h,aB⟩ hok jr h.1 h.2.1 k
theorem eU (j t j' t':Nat) {x x':ah} (h:(dZ l i,Nat.blt i l.length,[(j,t,x),(j',t',x')].all (fun x=>(bS.getD i []).contains x.1 && (dZ l x.1 == some x.2.1)))=(some d,true,true)) (hu:(pr j,pr j')=(fun v _=>v=x,fun v _=>v=x')) (k:Mf N D w0 F G0 G L T r P l pr i d o [(j,t,x),(j',t',x')])
  (hok:oz l T i=true:=by kernel_rfl) (jr:∀ i v (G G':GH),(∀ k o,G k=some o->G' k=some o)->pr i v G->pr i v G':=by exact fun _ _ _ _ _ h=>h):wZ N D w0 F G0 G L T r P l bS B pr i o:=by
 simp only [iE] at h hu
 exact dB _ h.2.2 ⟨fun v G h=>by rw [hu.1] at h;exact h,fun v G h=>by rw [hu.2] at h;exact h,aB⟩ hok jr h.1 h.2.1 k
theorem uh (j t j' t' j2 t2:Nat) {x x' x2:ah} (h:(dZ l i,Nat.blt i l.length,[(j,t,x),(j',t',x'),(j2,t2,x2)].all (fun x=>(bS.getD i []).contains x.1 && (dZ l x.1 == some x.2.1)))=(some d,true,true)) (hu:(pr j,pr j',pr j2)=(fun v _=>v=x,fun v _=>v=x',fun v _=>v=x2)) (k:Mf N D w0 F G0 G L T r P l pr i d o [(j,t,x),(j',t',x'),(j2,t2,x2)])
  (hok:oz l T i=true:=by kernel_rfl) (jr:∀ i v (G G':GH),(∀ k o,G k=some o->G' k=some o)->pr i v G->pr i v G':=by exact fun _ _ _ _ _ h=>h):wZ N D w0 F G0 G L T r P l bS B pr i o:=by
 simp only [iE] at h hu
 exact dB _ h.2.2 ⟨fun v G h=>by rw [hu.1] at h;exact h,fun v G h=>by rw [hu.2.1] at h;exact h,fun v G h=>by rw [hu.2.2] at h;exact h,aB⟩ hok jr h.1 h.2.1 k
theorem aO (j:Nat) {t:Nat} {op:Op} {ty:TypeId} {pos:String} {aL:Array Edge} {want b b':Bool} (he:b'=b) (h:(dZ l i,Nat.blt i l.length,dZ l j,(bS.getD i []).contains j,Nat.blt d N,b,b)=(some d,true,some t,true,true,!want,b)) (hv:pr j=fun v _=>v=.bool b')
  (hok:oz l T i=true:=by kernel_rfl) (jr:∀ i v (G G':GH),(∀ k o,G k=some o->G' k=some o)->pr i v G->pr i v G':=by exact fun _ _ _ _ _ h=>h) (hu:∀ G,pr i undef G:=by exact fun _=>rfl):wZ N D w0 F G0 G L T r P l bS B pr i ⟨some d,op,ty,pos,aL,some (j,want)⟩:=by
 simp only [iE] at h
 exact aBE (b:=b) hok jr h.1 h.2.1 h.2.2.1 h.2.2.2.1 h.2.2.2.2.1 (fun v G g=>by rw [hv] at g;rw [<- he];exact g) h.2.2.2.2.2.1 hu
theorem bQ {X:(Nat->Bool)->Act->World->GH->Prop} {b:Bool} (h:b=true):∀ S a w G1,b=false->X S a w G1:=fun _ _ _ _ hB=>by rw [h] at hB;cases hB
theorem aC {φ:Nat->Oper->Prop} {i:Nat} {o1 o2 o3 o4:Oper} {r:List Oper} (h1:φ i o1) (h2:φ (i+1) o2) (h3:φ (i+1+1) o3) (h4:φ (i+1+1+1) o4) (t:allI φ (i+1+1+1+1) r):allI φ i (o1 :: o2 :: o3 :: o4 :: r):=⟨h1,h2,h3,h4,t⟩
end
section
variable {N:Nat} {D:List Deferred} {w0:World} {F:Nat->Prop} {G0 G:GH} {L:List (Nat × Obj)} {T:List (Nat × ah)}
variable {r:Option Nat} {P:Program} {ops:Array Oper} {Q:Exit->Act->World->Prop} {rest:List Oper} {w:World}
variable {d:Nat} {ty:TypeId} {pos:String} {aL:Array Edge} {j t:Nat} {want b:Bool}
theorem YM {x:Operand} {v:ah} (hb:b=want) (h:((ops[j]?).bind (·.dst),lk T t,ev T x,Nat.blt d N)=(some t,some (.bool b),some v,true)) (k:∀ a',St N D w0 F G0 G L ((d,v) :: T) a' w->WL r P ops Q rest a' w) :
  ∀ a,St N D w0 F G0 G L T a w->WL r P ops Q (⟨some d,.move x,ty,pos,aL,some (j,want)⟩ :: rest) a w:=fun _ H=>by
 simp only [iE] at h
 exact FI H (wg H h.1 h.2.1 hb) h.2.2.1 h.2.2.2 k
theorem YN {x:Operand} {y:TypeId} {v:Bool} (hb:b=want) (h:((ops[j]?).bind (·.dst),lk T t,ev T x,Nat.blt d N)=(some t,some (.bool b),some (.bool v),true)) (k:∀ a',St N D w0 F G0 G L ((d,.bool (!v)) :: T) a' w->WL r P ops Q rest a' w) :
  ∀ a,St N D w0 F G0 G L T a w->WL r P ops Q (⟨some d,.unOp .not y x,ty,pos,aL,some (j,want)⟩ :: rest) a w:=fun _ H=>by
 simp only [iE] at h
 exact ZE H (wg H h.1 h.2.1 hb) h.2.2.1 h.2.2.2 k
theorem YC {op:BinOp} {x y:Operand} {u yt:TypeId} {kd:IntKind} {p q:Int} {c:Bool} (hb:b=want) (h:((ops[j]?).bind (·.dst),lk T t,ev T x,ev T y,MP op p q,Nat.blt d N)=(some t,some (.bool b),some (.int kd p),some (.int kd q),some c,true)) (k:∀ a',St N D w0 F G0 G L ((d,.bool c) :: T) a' w->WL r P ops Q rest a' w) :
  ∀ a,St N D w0 F G0 G L T a w->WL r P ops Q (⟨some d,.binOp op u x y yt,ty,pos,aL,some (j,want)⟩ :: rest) a w:=fun _ H=>by
 simp only [iE] at h
 exact IE H (wg H h.1 h.2.1 hb) h.2.2.1 h.2.2.2.1 h.2.2.2.2.1 h.2.2.2.2.2 k
theorem YF {s:TypeId} {x:Operand} {n e o off:Nat} (hs:dz P s n off) (hb:b=want) (h:((ops[j]?).bind (·.dst),lk T t,ev T x,Nat.blt d N)=(some t,some (.bool b),some (.pointer (some ⟨e,o,none⟩)),true)) (k:∀ a',St N D w0 F G0 G L ((d,.pointer (some ⟨e,o+off,none⟩)) :: T) a' w->WL r P ops Q rest a' w) :
  ∀ a,St N D w0 F G0 G L T a w->WL r P ops Q (⟨some d,.fieldAddr s x n,ty,pos,aL,some (j,want)⟩ :: rest) a w:=fun _ H=>by
 simp only [iE] at h
 exact CX hs H (wg H h.1 h.2.1 hb) h.2.2.1 h.2.2.2 k
theorem YO {u:TypeId} {sz bytes:Nat} {zero:List ah} (ht:Ty P u sz bytes zero false) (i:Nat) {x:Operand} {e o:Nat} {v:ah} {c:Array ah} {y:TypeId} {fz:Nat × Nat} (hb:b=want) (h:((ops[j]?).bind (·.dst),lk T t,ev T x,L[i]?,Nat.blt d N,c[o]?)=(some t,some (.bool b),some (.pointer (some ⟨e,o,none⟩)),some (e,.cells c y fz),true,some v))
  (k:∀ a',St N D w0 F G0 G L ((d,v) :: T) a' w->WL r P ops Q rest a' w) :
  ∀ a,St N D w0 F G0 G L T a w->WL r P ops Q (⟨some d,.load u x,ty,pos,aL,some (j,want)⟩ :: rest) a w:=fun _ H=>by
 simp only [iE] at h
 exact tQ ht H (wg H h.1 h.2.1 hb) h.2.2.1 (H.hp.tO i h.2.2.2.1 h.2.2.2.2.2) h.2.2.2.2.1 k
theorem YR {u:TypeId} {sz bytes:Nat} {zero:List ah} (ht:Ty P u sz bytes zero false) {x:Operand} {e o:Nat} {v:ah} (hb:b=want) (h:((ops[j]?).bind (·.dst),lk T t,ev T x,Nat.blt d N)=(some t,some (.bool b),some (.pointer (some ⟨e,o,none⟩)),true)) (hv:aI G e o=some v)
  (k:∀ a',St N D w0 F G0 G L ((d,v) :: T) a' w->WL r P ops Q rest a' w) :
  ∀ a,St N D w0 F G0 G L T a w->WL r P ops Q (⟨some d,.load u x,ty,pos,aL,some (j,want)⟩ :: rest) a w:=fun _ H=>by
 simp only [iE] at h
 exact tQ ht H (wg H h.1 h.2.1 hb) h.2.2.1 (H.hp.aI hv) h.2.2.2 k
theorem Rg {u:TypeId} {sz bytes:Nat} {zero:List ah} (ht:Ty P u sz bytes zero false) {x:Operand} {e o:Nat} {v:ah} (h:(ev T x,Nat.blt d N)=(some (.pointer (some ⟨e,o,none⟩)),true)) (hv:aI G e o=some v)
  (k:∀ a',St N D w0 F G0 G L ((d,v) :: T) a' w->WL r P ops Q rest a' w) :
  ∀ a,St N D w0 F G0 G L T a w->WL r P ops Q (⟨some d,.load u x,ty,pos,aL,none⟩ :: rest) a w:=fun _ H=>by
 simp only [iE] at h
 exact tQ ht H wn h.1 (H.hp.aI hv) h.2 k
theorem YL {x:Operand} {u e:TypeId} {A:Option Addr} {n c:Nat} (hs:P.underlying u=some (.slice e)) (hb:b=want) (h:((ops[j]?).bind (·.dst),lk T t,ev T x,Nat.blt d N)=(some t,some (.bool b),some (.slice A n c),true)) (k:∀ a',St N D w0 F G0 G L ((d,.int .i64 n) :: T) a' w->WL r P ops Q rest a' w) :
  ∀ a,St N D w0 F G0 G L T a w->WL r P ops Q (⟨some d,.call { callee:=.builtin .len,args:=#[x],argTypes:=#[u] },ty,pos,aL,some (j,want)⟩ :: rest) a w:=fun _ H=>by
 simp only [iE] at h
 exact ZC hs H (wg H h.1 h.2.1 hb) h.2.2.1 h.2.2.2 k
theorem Ks {op:Op} (hb:b=!want) (h:((ops[j]?).bind (·.dst),lk T t,Nat.blt d N)=(some t,some (.bool b),true)) (k:∀ a',St N D w0 F G0 G L ((d,undef) :: T) a' w->WL r P ops Q rest a' w) :
  ∀ a,St N D w0 F G0 G L T a w->WL r P ops Q (⟨some d,op,ty,pos,aL,some (j,want)⟩ :: rest) a w:=fun _ H=>by
 simp only [iE] at h
 exact akw H h.1 h.2.1 hb h.2.2 k
theorem aR {d2:Nat} {o1 o2:Op} {ZX:TypeId} {pos2:String} {UC:Array Edge} (hb:b=!want) (h:((ops[j]?).bind (·.dst),lk T t,lk ((d,undef) :: T) t,Nat.blt d N,Nat.blt d2 N)=(some t,some (.bool b),some (.bool b),true,true)) (k:∀ a',St N D w0 F G0 G L ((d2,undef) :: (d,undef) :: T) a' w->WL r P ops Q rest a' w) :
  ∀ a,St N D w0 F G0 G L T a w->WL r P ops Q (⟨some d,o1,ty,pos,aL,some (j,want)⟩ :: ⟨some d2,o2,ZX,pos2,UC,some (j,want)⟩ :: rest) a w:=by
 simp only [iE] at h
 exact Ks hb (by rw [h.1,h.2.1,h.2.2.2.1]) (Ks hb (by rw [h.1,h.2.2.1,h.2.2.2.2]) k)
theorem bg {d2 d3:Nat} {o1 o2 o3:Op} {ZX ty3:TypeId} {pos2 azy:String} {UC amQ:Array Edge} (hb:b=!want) (h:((ops[j]?).bind (·.dst),lk T t,lk ((d,undef) :: T) t,lk ((d2,undef) :: (d,undef) :: T) t,Nat.blt d N,Nat.blt d2 N,Nat.blt d3 N)=(some t,some (.bool b),some (.bool b),some (.bool b),true,true,true)) (k:∀ a',St N D w0 F G0 G L ((d3,undef) :: (d2,undef) :: (d,undef) :: T) a' w->WL r P ops Q rest a' w) :
  ∀ a,St N D w0 F G0 G L T a w->WL r P ops Q (⟨some d,o1,ty,pos,aL,some (j,want)⟩ :: ⟨some d2,o2,ZX,pos2,UC,some (j,want)⟩ :: ⟨some d3,o3,ty3,azy,amQ,some (j,want)⟩ :: rest) a w:=by
 simp only [iE] at h
 exact Ks hb (by rw [h.1,h.2.1,h.2.2.2.2.1]) (aR hb (by rw [h.1,h.2.2.1,h.2.2.2.1,h.2.2.2.2.2.1,h.2.2.2.2.2.2]) k)
theorem Ku {op:Op} (h:((ops[j]?).bind (·.dst),lk T t,Nat.blt d N)=(some t,some undef,true)) (k:∀ a',St N D w0 F G0 G L ((d,undef) :: T) a' w->WL r P ops Q rest a' w) :
  ∀ a,St N D w0 F G0 G L T a w->WL r P ops Q (⟨some d,op,ty,pos,aL,some (j,want)⟩ :: rest) a w:=fun _ H=>by
 simp only [iE] at h
 exact aA5 H h.1 h.2.1 h.2.2 k
theorem Pt {c x y:Operand} {v:ah} (hb:b=true) (h:(ev T c,ev T x,Nat.blt d N)=(some (.bool b),some v,true)) (k:∀ a',St N D w0 F G0 G L ((d,v) :: T) a' w->WL r P ops Q rest a' w) :
  ∀ a,St N D w0 F G0 G L T a w->WL r P ops Q (⟨some d,.pick c x y,ty,pos,aL,none⟩ :: rest) a w:=fun _ H=>by
 simp only [iE] at h
 exact Le H wn h.1 hb h.2.1 h.2.2 k
theorem Pf {c x y:Operand} {v:ah} (hb:b=false) (h:(ev T c,ev T y,Nat.blt d N)=(some (.bool b),some v,true)) (k:∀ a',St N D w0 F G0 G L ((d,v) :: T) a' w->WL r P ops Q rest a' w) :
  ∀ a,St N D w0 F G0 G L T a w->WL r P ops Q (⟨some d,.pick c x y,ty,pos,aL,none⟩ :: rest) a w:=fun _ H=>by
 simp only [iE] at h
 exact Ov H wn h.1 hb h.2.1 h.2.2 k
theorem PT {c x y:Operand} {v:ah} {b':Bool} (hb:b=want) (hb':b'=true) (h:((ops[j]?).bind (·.dst),lk T t,ev T c,ev T x,Nat.blt d N)=(some t,some (.bool b),some (.bool b'),some v,true)) (k:∀ a',St N D w0 F G0 G L ((d,v) :: T) a' w->WL r P ops Q rest a' w) :
  ∀ a,St N D w0 F G0 G L T a w->WL r P ops Q (⟨some d,.pick c x y,ty,pos,aL,some (j,want)⟩ :: rest) a w:=fun _ H=>by
 simp only [iE] at h
 exact Le H (wg H h.1 h.2.1 hb) h.2.2.1 hb' h.2.2.2.1 h.2.2.2.2 k
theorem PF {c x y:Operand} {v:ah} {b':Bool} (hb:b=want) (hb':b'=false) (h:((ops[j]?).bind (·.dst),lk T t,ev T c,ev T y,Nat.blt d N)=(some t,some (.bool b),some (.bool b'),some v,true)) (k:∀ a',St N D w0 F G0 G L ((d,v) :: T) a' w->WL r P ops Q rest a' w) :
  ∀ a,St N D w0 F G0 G L T a w->WL r P ops Q (⟨some d,.pick c x y,ty,pos,aL,some (j,want)⟩ :: rest) a w:=fun _ H=>by
 simp only [iE] at h
 exact Ov H (wg H h.1 h.2.1 hb) h.2.2.1 hb' h.2.2.2.1 h.2.2.2.2 k
theorem Ri {s e:TypeId} {sz bytes:Nat} {zero:List ah} {agg:Bool} (hs:P.underlying s=some (.slice e)) (ht:Ty P e sz bytes zero agg) {x y:Operand} {q o n c:Nat} {kd:IntKind} {z:Int} {i:Nat}
  (h:(ev T x,ev T y,Nat.blt d N)=(some (.slice (some ⟨q,o,none⟩) n c),some (.int kd z),true)) (hz:z=(i:Int)) (k:∀ a',St N D w0 F G0 G L ((d,.pointer (some ⟨q,o+i*sz,none⟩)) :: T) a' w->WL r P ops Q rest a' w) (hn:i < n:=by first|assumption|omega) :
  ∀ a,St N D w0 F G0 G L T a w->WL r P ops Q (⟨some d,.indexAddr s x y,ty,pos,aL,none⟩ :: rest) a w:=fun _ H=>by
 simp only [iE] at h
 exact Ld hs ht i H wn h.1 h.2.1 hz hn h.2.2 k
theorem YI {s e:TypeId} {sz bytes:Nat} {zero:List ah} {agg:Bool} (hs:P.underlying s=some (.slice e)) (ht:Ty P e sz bytes zero agg) {x y:Operand} {q o n c:Nat} {kd:IntKind} {z:Int} {i:Nat} (hb:b=want)
  (h:((ops[j]?).bind (·.dst),lk T t,ev T x,ev T y,Nat.blt d N)=(some t,some (.bool b),some (.slice (some ⟨q,o,none⟩) n c),some (.int kd z),true)) (hz:z=(i:Int)) (k:∀ a',St N D w0 F G0 G L ((d,.pointer (some ⟨q,o+i*sz,none⟩)) :: T) a' w->WL r P ops Q rest a' w) (hn:i < n:=by first|assumption|omega) :
  ∀ a,St N D w0 F G0 G L T a w->WL r P ops Q (⟨some d,.indexAddr s x y,ty,pos,aL,some (j,want)⟩ :: rest) a w:=fun _ H=>by
 simp only [iE] at h
 exact Ld hs ht i H (wg H h.1 h.2.1 hb) h.2.2.1 h.2.2.2.1 hz hn h.2.2.2.2 k
theorem Rd {x y:Operand} {u yt:TypeId} {p q z:Int} (h:(ev T x,ev T y,p+q,Nat.blt d N)=(some (.int .i64 p),some (.int .i64 q),z,true)) (k:∀ a',St N D w0 F G0 G L ((d,.int .i64 z) :: T) a' w->WL r P ops Q rest a' w) (h1:-9223372036854775808<=z:=by omega) (h2:z < 9223372036854775808:=by omega) :
  ∀ a,St N D w0 F G0 G L T a w->WL r P ops Q (⟨some d,.binOp .add u x y yt,ty,pos,aL,none⟩ :: rest) a w:=fun _ H=>by
 simp only [iE] at h
 exact IC z H wn h.1 h.2.1 h.2.2.1 h1 h2 h.2.2.2 k
theorem Rs {x y:Operand} {u yt:TypeId} {p q z:Int} (h:(ev T x,ev T y,p - q,Nat.blt d N)=(some (.int .i64 p),some (.int .i64 q),z,true)) (k:∀ a',St N D w0 F G0 G L ((d,.int .i64 z) :: T) a' w->WL r P ops Q rest a' w) (h1:-9223372036854775808<=z:=by omega) (h2:z < 9223372036854775808:=by omega) :
  ∀ a,St N D w0 F G0 G L T a w->WL r P ops Q (⟨some d,.binOp .sub u x y yt,ty,pos,aL,none⟩ :: rest) a w:=fun _ H=>by
 simp only [iE] at h
 exact BN z H wn h.1 h.2.1 h.2.2.1 h1 h2 h.2.2.2 k
theorem Rv {x:Operand} {u:TypeId} {s:ByteArray} (hs:P.underlying u=some .string) (h:(ev T x,Nat.blt d N)=(some (.string s),true)) (k:∀ a',St N D w0 F G0 G L ((d,.int .i64 s.size) :: T) a' w->WL r P ops Q rest a' w) :
  ∀ a,St N D w0 F G0 G L T a w->WL r P ops Q (⟨some d,.call { callee:=.builtin .len,args:=#[x],argTypes:=#[u] },ty,pos,aL,none⟩ :: rest) a w:=fun _ H=>by
 simp only [iE] at h
 exact FE hs H wn h.1 h.2 k
theorem Kz {X:Act->World->Prop} (hK:∀ a w,X a w->WL r P ops Q [] a w) (k:∀ a,St N D w0 F G0 G L T a w->X a w):∀ a,St N D w0 F G0 G L T a w->WL r P ops Q [] a w:=fun a H=>hK a w (k a H)
theorem Kn {X:Act->World->Prop} (hK:∀ a w,X a w->Q .normal a w) (k:∀ a,St N D w0 F G0 G L T a w->X a w):∀ a,St N D w0 F G0 G L T a w->WL r P ops Q [] a w:=fun a H=>aF (hK a w (k a H))
theorem au {X:Act->World->Prop} {x:Operand} {v:ah} (hK:∀ a w,X a w->WL r P ops Q [] a w) (h:(ev T x,Nat.blt d N)=(some v,true)) (k:∀ a',St N D w0 F G0 G L ((d,v) :: T) a' w->X a' w):∀ a,St N D w0 F G0 G L T a w->WL r P ops Q [⟨some d,.assign x,ty,pos,aL,none⟩] a w:=Ra h (Kz hK k)
theorem aZ {X:Act->World->Prop} {x:Operand} {v:ah} (hK:∀ a w,X a w->Q .normal a w) (h:(ev T x,Nat.blt d N)=(some v,true)) (k:∀ a',St N D w0 F G0 G L ((d,v) :: T) a' w->X a' w):∀ a,St N D w0 F G0 G L T a w->WL r P ops Q [⟨some d,.assign x,ty,pos,aL,none⟩] a w:=Ra h (Kn hK k)
theorem Kc {X:Act->World->Prop} (hK:∀ a w,X a w->Q .normal a w) (k:∀ a,St N D w0 F G0 G L T a w->X a w):∀ a,St N D w0 F G0 G L T a w->WP r P .skip Q a w:=fun a H=>gT (hK a w (k a H))
theorem SR {id:Nat} {l:List Oper} {y:Code} (h:∀ K:Act->World->Prop,(∀ a w,WP r P y Q a w->WL r P l.toArray (Exit.then K Q) [] a w)->∀ a,St N D w0 F G0 G L T a w->WL r P l.toArray (Exit.then K Q) l a w):∀ a,St N D w0 F G0 G L T a w->WP r P (.seq (.region id l.toArray false) y) Q a w:=fun a H=>dH fun K hK=>h K hK a H
theorem SQ {x y:Code} (h:∀ K:Act->World->Prop,(∀ a w,WP r P y Q a w->K a w)->∀ a,St N D w0 F G0 G L T a w->WP r P x (Exit.then K Q) a w):∀ a,St N D w0 F G0 G L T a w->WP r P (.seq x y) Q a w:=fun a H=>bP fun K hK=>h K hK a H
theorem SC {id:Nat} {l:List Oper} (h:∀ a,St N D w0 F G0 G L T a w->WL r P l.toArray Q l a w):∀ a,St N D w0 F G0 G L T a w->WP r P (.region id l.toArray false) Q a w:=fun a H=>mX (h a H)
theorem SB {id:Nat} {c:Code} (h:∀ a,St N D w0 F G0 G L T a w->WP r P c (Exit.inBlock id Q) a w):∀ a,St N D w0 F G0 G L T a w->WP r P (.block id c) Q a w:=fun a H=>AU (h a H)
theorem kP {a:Act} {c:Code} (H:St N D w0 F G0 G L T a w) (k:∀ a,St N D w0 F G0 G L T a w->WP r P c Q a w):WP r P c Q a w:=k a H
theorem lr {a:Act} {fn:Func} {v:ah} {R:Ending->World->Prop} (H:St N [] w0 F G0 G L T a w) (hr:fn.results=#[.tmp t]) (hQ:(lk T t,Q .ret a w)=(some v,bodyPostM (FW none) 0 P fn R .ret a w)) (hR:R (.returned v) w):WP none P .ret Q a w:=by
 simp only [iE] at hQ
 exact gu (by rw [hQ.2];exact lv H hr hQ.1 hR)
theorem dT {p:Prop} [Decidable p] (h:decide p=true):p:=pK h
theorem dF {p:Prop} [Decidable p] (h:decide p=false):¬p:=of_decide_eq_false h
end
section
variable {N:Nat} {D:List Deferred} {w0:World} {F:Nat->Prop} {G0 G:GH} {L:OL} {T:List (Nat × ah)}
variable {P:Program} {l:List Oper} {r:Option Nat} {pr:Nat->ah->GH->Prop} {i d:Nat} {o:Oper} {bS:List (List Nat)} {B:List Nat} {v:ah}
abbrev Ce (N:Nat) (D:List Deferred) (w0:World) (F:Nat->Prop) (G0 G:GH) (L:OL) (T:List (Nat × ah)) (r:Option Nat) (P:Program) (l:List Oper) (d:Nat) (v:ah) (o:Oper) (us:List (Nat × Nat × ah)):Prop :=
 ∀ {Q:Exit->Act->World->Prop} {a:Act} {w:World} {G1:GH} (_:∀ k o,G k=some o->G1 k=some o),(∀ a',St N D w0 F G0 G1 L ((d,v) :: (C9 us T++full N a)) a' w->WL r P l.toArray Q [] a' w)->∀ a',St N D w0 F G0 G1 L (C9 us T++full N a) a' w->WL r P l.toArray Q [o] a' w
abbrev Pq (N:Nat) (D:List Deferred) (w0:World) (F:Nat->Prop) (G0 G:GH) (L:OL) (T:List (Nat × ah)) (r:Option Nat) (P:Program) (l:List Oper) (d:Nat) (v:ah) (o:Oper) (us:List (Nat × Nat × ah)):Prop :=
 ∀ {Q:Exit->Act->World->Prop} {a:Act} {w:World} {G1:GH},(∀ a',St N D w0 F G0 G1 L ((d,v) :: (C9 us T++full N a)) a' w->WL r P l.toArray Q [] a' w)->∀ a',St N D w0 F G0 G1 L (C9 us T++full N a) a' w->WL r P l.toArray Q [o] a' w
theorem Ce.k {us:List (Nat × Nat × ah)} (hv:pr i=fun u _=>u=v) (k:Ce N D w0 F G0 G L T r P l d v o us):Mf N D w0 F G0 G L T r P l pr i d o us :=
 fun _ a w G1 hG _ H fin=>k hG (fun _ H=>fin H (fun _ _ h=>h) (by rw [hv])) a H
theorem X0 (h:(dZ l i,Nat.blt i l.length,pr i)=(some d,true,fun u _=>u=v)) (k:Ce N D w0 F G0 G L T r P l d v o [])
  (hok:oz l T i=true:=by kernel_rfl) (jr:∀ i v (G G':GH),(∀ k o,G k=some o->G' k=some o)->pr i v G->pr i v G':=by exact fun _ _ _ _ _ h=>h):wZ N D w0 F G0 G L T r P l bS B pr i o:=by
 simp only [iE] at h
 exact Un (by rw [h.1,h.2.1]) (Ce.k h.2.2 k) hok jr
theorem X1 (j t:Nat) {x:ah} (h:(dZ l i,Nat.blt i l.length,pr j,pr i,[(j,t,x)].all (fun x=>(bS.getD i []).contains x.1 && (dZ l x.1 == some x.2.1)))=(some d,true,fun v _=>v=x,fun u _=>u=v,true)) (k:Ce N D w0 F G0 G L T r P l d v o [(j,t,x)])
  (hok:oz l T i=true:=by kernel_rfl) (jr:∀ i v (G G':GH),(∀ k o,G k=some o->G' k=some o)->pr i v G->pr i v G':=by exact fun _ _ _ _ _ h=>h):wZ N D w0 F G0 G L T r P l bS B pr i o:=by
 simp only [iE] at h
 exact gX j t (by rw [h.1,h.2.1,h.2.2.2.2]) h.2.2.1 (Ce.k h.2.2.2.1 k) hok jr
theorem X2 (j t j' t':Nat) {x x':ah} (h:(dZ l i,Nat.blt i l.length,pr j,pr j',pr i,[(j,t,x),(j',t',x')].all (fun x=>(bS.getD i []).contains x.1 && (dZ l x.1 == some x.2.1)))=(some d,true,fun v _=>v=x,fun v _=>v=x',fun u _=>u=v,true)) (k:Ce N D w0 F G0 G L T r P l d v o [(j,t,x),(j',t',x')])
  (hok:oz l T i=true:=by kernel_rfl) (jr:∀ i v (G G':GH),(∀ k o,G k=some o->G' k=some o)->pr i v G->pr i v G':=by exact fun _ _ _ _ _ h=>h):wZ N D w0 F G0 G L T r P l bS B pr i o:=by
 simp only [iE] at h
 exact eU j t j' t' (by rw [h.1,h.2.1,h.2.2.2.2.2]) (by rw [h.2.2.1,h.2.2.2.1]) (Ce.k h.2.2.2.2.1 k) hok jr
theorem X3 (j t j' t' j2 t2:Nat) {x x' x2:ah} (h:(dZ l i,Nat.blt i l.length,pr j,pr j',pr j2,pr i,[(j,t,x),(j',t',x'),(j2,t2,x2)].all (fun x=>(bS.getD i []).contains x.1 && (dZ l x.1 == some x.2.1)))=(some d,true,fun v _=>v=x,fun v _=>v=x',fun v _=>v=x2,fun u _=>u=v,true)) (k:Ce N D w0 F G0 G L T r P l d v o [(j,t,x),(j',t',x'),(j2,t2,x2)])
  (hok:oz l T i=true:=by kernel_rfl) (jr:∀ i v (G G':GH),(∀ k o,G k=some o->G' k=some o)->pr i v G->pr i v G':=by exact fun _ _ _ _ _ h=>h):wZ N D w0 F G0 G L T r P l bS B pr i o:=by
 simp only [iE] at h
 exact uh j t j' t' j2 t2 (by rw [h.1,h.2.1,h.2.2.2.2.2.2]) (by rw [h.2.2.1,h.2.2.2.1,h.2.2.2.2.1]) (Ce.k h.2.2.2.2.2.1 k) hok jr
theorem Z0 (h:(dZ l i,Nat.blt i l.length,pr i)=(some d,true,fun u _=>u=v)) (k:Pq N D w0 F G0 G L T r P l d v o [])
  (hok:oz l T i=true:=by kernel_rfl) (jr:∀ i v (G G':GH),(∀ k o,G k=some o->G' k=some o)->pr i v G->pr i v G':=by exact fun _ _ _ _ _ h=>h):wZ N D w0 F G0 G L T r P l bS B pr i o:=X0 h (fun _=>k) hok jr
theorem Z1 (j t:Nat) {x:ah} (h:(dZ l i,Nat.blt i l.length,pr j,pr i,[(j,t,x)].all (fun x=>(bS.getD i []).contains x.1 && (dZ l x.1 == some x.2.1)))=(some d,true,fun v _=>v=x,fun u _=>u=v,true)) (k:Pq N D w0 F G0 G L T r P l d v o [(j,t,x)])
  (hok:oz l T i=true:=by kernel_rfl) (jr:∀ i v (G G':GH),(∀ k o,G k=some o->G' k=some o)->pr i v G->pr i v G':=by exact fun _ _ _ _ _ h=>h):wZ N D w0 F G0 G L T r P l bS B pr i o:=X1 j t h (fun _=>k) hok jr
theorem Z2 (j t j' t':Nat) {x x':ah} (h:(dZ l i,Nat.blt i l.length,pr j,pr j',pr i,[(j,t,x),(j',t',x')].all (fun x=>(bS.getD i []).contains x.1 && (dZ l x.1 == some x.2.1)))=(some d,true,fun v _=>v=x,fun v _=>v=x',fun u _=>u=v,true)) (k:Pq N D w0 F G0 G L T r P l d v o [(j,t,x),(j',t',x')])
  (hok:oz l T i=true:=by kernel_rfl) (jr:∀ i v (G G':GH),(∀ k o,G k=some o->G' k=some o)->pr i v G->pr i v G':=by exact fun _ _ _ _ _ h=>h):wZ N D w0 F G0 G L T r P l bS B pr i o:=X2 j t j' t' h (fun _=>k) hok jr
theorem Z3 (j t j' t' j2 t2:Nat) {x x' x2:ah} (h:(dZ l i,Nat.blt i l.length,pr j,pr j',pr j2,pr i,[(j,t,x),(j',t',x'),(j2,t2,x2)].all (fun x=>(bS.getD i []).contains x.1 && (dZ l x.1 == some x.2.1)))=(some d,true,fun v _=>v=x,fun v _=>v=x',fun v _=>v=x2,fun u _=>u=v,true)) (k:Pq N D w0 F G0 G L T r P l d v o [(j,t,x),(j',t',x'),(j2,t2,x2)])
  (hok:oz l T i=true:=by kernel_rfl) (jr:∀ i v (G G':GH),(∀ k o,G k=some o->G' k=some o)->pr i v G->pr i v G':=by exact fun _ _ _ _ _ h=>h):wZ N D w0 F G0 G L T r P l bS B pr i o:=X3 j t j' t' j2 t2 h (fun _=>k) hok jr
theorem St.aQ {a:Act} {w:World} {p:ah->Prop} (H:St N D w0 F G0 G L T a w) (h:∃ u,a.tmps[d]?=some u∧p u) (he:p=fun u=>u=v):St N D w0 F G0 G L ((d,v) :: T) a w:=by
 subst he
 obtain ⟨u,h1,h2⟩:=h
 exact H.fV (h2 ▸ h1)
theorem dI {a:Act} {w:World} {Q:Exit->Act->World->Prop} {id:Nat} (hm:P.follows .mixedOrders=true) (bS:List (List Nat)) (B:List Nat) (hk:(yL l bS && zB l bS B)=true) (vs:List ah) (H:St N D w0 F G0 G L T a w)
  (hstep:allI (fun i o=>wZ N D w0 F G0 G L T r P l bS B (Zh vs) i o) 0 l)
  (hend:∀ a w G1,(∀ k o,G k=some o->G1 k=some o)->St N D w0 F G0 G1 L T a w->(∀ i d,B.contains i=false->dZ l i=some d->∃ v,a.tmps[d]?=some v∧Zh vs i v G1)->WL r P l.toArray (fun e a w=>e=.normal∧Q .normal a w) (qK l B) a w):WP r P (.region id l.toArray true) Q a w:=by
 rw [mG] at hk
 exact xC hm bS B hk.1 hk.2 (Zh vs) (fun _ _ _ _ _ h=>h) H hstep hend
variable {w:World} {ops:Array Oper} {Q:Exit->Act->World->Prop} {b:Bool} {t:Nat} {x:Operand} {c1 c2:Code}
theorem Cd (h:ev T x=some (.bool b)) (k1:b=true->∀ a,St N D w0 F G0 G L T a w->WP r P c1 Q a w) (k2:b=false->∀ a,St N D w0 F G0 G L T a w->WP r P c2 Q a w):∀ a,St N D w0 F G0 G L T a w->WP r P (.cond x c1 c2) Q a w:=fun a H=>jX H h (fun h=>k1 h a H) (fun h=>k2 h a H)
theorem Ct (h:ev T x=some (.bool b)) (hb:b=true) (k:∀ a,St N D w0 F G0 G L T a w->WP r P c1 Q a w):∀ a,St N D w0 F G0 G L T a w->WP r P (.cond x c1 c2) Q a w:=fun a H=>AV H h hb (k a H)
theorem Cf (h:ev T x=some (.bool b)) (hb:b=false) (k:∀ a,St N D w0 F G0 G L T a w->WP r P c2 Q a w):∀ a,St N D w0 F G0 G L T a w->WP r P (.cond x c1 c2) Q a w:=fun a H=>oQ H h hb (k a H)
theorem Sp {X:Act->Prop} (t:Nat) (h:lk T t=some (.bool b)) (k1:b=true->∀ a,St N D w0 F G0 G L T a w->X a) (k2:b=false->∀ a,St N D w0 F G0 G L T a w->X a):∀ a,St N D w0 F G0 G L T a w->X a:=fun a H=>SY H t h (fun h=>k1 h a H) (fun h=>k2 h a H)
theorem LR {fn:Func} {R:Ending->World->Prop} (hr:fn.results=#[.tmp t]) (hQ:(lk T t,Q .ret)=(some v,fun a w=>bodyPostM (FW none) 0 P fn R .ret a w)) (hR:∀ {a},St N [] w0 F G0 G L T a w->R (.returned v) w):∀ a,St N [] w0 F G0 G L T a w->WP none P .ret Q a w:=fun a H=>by
 simp only [iE] at hQ
 exact lr H hr (by rw [hQ.1,hQ.2]) (hR H)
end
def ra:Nat->Nat->List Nat
 | _,0=>[]
 | a,n+1=>a :: ra (a+1) n
theorem lca {α:Type} (a:α) (l m:List α):a :: l++m=a :: (l++m):=rfl
theorem bD {α:Type} (l:List α):[]++l=l:=rfl
theorem aG {p:Prop} [Decidable p] (h:p):decide p=true:=lT h
theorem aS {p:Prop} [Decidable p] (h:¬p):decide p=false:=oP h
abbrev wu (pr:Nat->ah->GH->Prop):Prop:=∀ i v (G G':GH),(∀ k o,G k=some o->G' k=some o)->pr i v G->pr i v G'
abbrev Mo1 {α:Type} (pr:α->Nat->ah->GH->Prop):Prop:=∀ x i v (G G':GH),(∀ k o,G k=some o->G' k=some o)->pr x i v G->pr x i v G'
abbrev Mo2 {α β:Type} (pr:α->β->Nat->ah->GH->Prop):Prop:=∀ x y i v (G G':GH),(∀ k o,G k=some o->G' k=some o)->pr x y i v G->pr x y i v G'
theorem dS {N:Nat} {D:List Deferred} {w0 w:World} {F:Nat->Prop} {G0:GH} {a:Act} {ι:Type} {Tc:List (Nat × ah)} {Lc:List (Nat × Obj)} {Tv:ι->List (Nat × ah)} {Lv:ι->List (Nat × Obj)} {Gv:ι->GH} {Pr:ι->Prop} {m:ι->Nat} {i:ι} (i':ι)
  (H:St N D w0 F G0 (Gv i') (Lc++Lv i') (Tv i'++Tc) a w) (hP:Pr i') (hm:m i' < m i:=by first|omega|(dsimp only;omega)) :
  ∃ i',(St N D w0 F G0 (Gv i') (Lc++Lv i') (Tv i'++Tc) a w∧Pr i')∧m i' < m i:=⟨i',⟨H,hP⟩,hm⟩
theorem ZI (x:ah):∀ (vs c:List ah) (o:Nat),setRow (x :: c) (o+1) vs=x :: setRow c o vs
 | [],_,_=>rfl
 | v :: vs,c,o=>by simp only [setRow,List.set_cons_succ];exact ZI x vs _ _
class Jf (c:List ah) (o:Nat) (vs:List ah) (c':outParam (List ah)):Prop where
 h:setRow c o vs=c'
class TY (a:Nat) (b:outParam Nat):Prop where
 h:a=b
instance {a:Nat}:TY a a:=⟨O⟩
instance {c:List ah} {o:Nat}:Jf c o [] c:=⟨O⟩
instance {x:ah} {c c' vs:List ah} {o o':Nat} [e:TY o (o'+1)] [q:Jf c o' vs c']:Jf (x :: c) o vs (x :: c'):=⟨by rw [e.h,ZI,q.h]⟩
instance {x v:ah} {c c' vs:List ah} {o:Nat} [e:TY o 0] [q:Jf c 0 vs c']:Jf (x :: c) o (v :: vs) (v :: c'):=⟨by rw [e.h];simp only [setRow,List.set_cons_zero];rw [ZI,q.h]⟩
class xg (L:List (Nat × Obj)) (i:Nat) (x:Nat × Obj) (L':outParam (List (Nat × Obj))):Prop where
 h:L.set i x=L'
instance {y x:Nat × Obj} {L:List (Nat × Obj)}:xg (y :: L) 0 x (x :: L):=⟨O⟩
instance {y x:Nat × Obj} {L L':List (Nat × Obj)} {i:Nat} [q:xg L i x L']:xg (y :: L) (i+1) x (y :: L'):=⟨by rw [List.set_cons_succ,q.h]⟩
instance {y x:Nat × Obj} {A B:List (Nat × Obj)}:xg ((y :: A).append B) 0 x (x :: A.append B):=⟨O⟩
instance {y x:Nat × Obj} {A B L':List (Nat × Obj)} {i:Nat} [q:xg (A.append B) i x L']:xg ((y :: A).append B) (i+1) x (y :: L'):=⟨by rw [<- q.h];rfl⟩
instance {x:Nat × Obj} {B L':List (Nat × Obj)} {i:Nat} [q:xg B i x L']:xg (List.append [] B) i x L':=⟨q.h⟩
instance {y x:Nat × Obj} {A B:List (Nat × Obj)}:xg ((y :: A)++B) 0 x (x :: (A++B)):=⟨O⟩
instance {y x:Nat × Obj} {A B L':List (Nat × Obj)} {i:Nat} [q:xg (A++B) i x L']:xg ((y :: A)++B) (i+1) x (y :: L'):=⟨by rw [<- q.h];rfl⟩
instance {x:Nat × Obj} {B L':List (Nat × Obj)} {i:Nat} [q:xg B i x L']:xg ([]++B) i x L':=⟨q.h⟩
theorem cu {c:Prop} {h:Decidable c} (hc:¬c:=by omega) {α:Sort _} {t e:α}:(if c then t else e)=e:=ay hc
theorem jZ {c:Prop} {h:Decidable c} (hc:c:=by omega) {α:Sort _} {t e:α}:(if c then t else e)=t:=aH hc
theorem aY {P:Program} {f:FuncId} {fn:Func} {c:Code} (hf:P.funcs[f]?=some fn) (hb:fn.body=some c) (hn:(fn.name == "runtime.NumGoroutine")=false:=by kernel_rfl):∀ (args:Array ah) (w:World),(callFunc f args).run P w=.ok (.enter f args) w:=enters hf hb hn
section
variable {N:Nat} {D:List Deferred} {w0:World} {F:Nat->Prop} {G0 G:GH} {L:List (Nat × Obj)} {T:List (Nat × ah)} {r:Option Nat} {P:Program} {ops:Array Oper} {Q:Exit->Act->World->Prop} {rest:List Oper} {a:Act} {w:World} {ty:TypeId} {pos:String} {aL:Array Edge} {g:Option (Nat × Bool)}
theorem bM {t:TypeId} {sz bytes:Nat} {zero:List ah} {agg:Bool} (ht:Ty P t sz bytes zero agg) {x y:Operand} (i:Nat) {b o:Nat} {c:List ah} {e:TypeId} {v:ah} {vs:List ah} {c':List ah} {L':List (Nat × Obj)} (H:St N D w0 F G0 G L T a w) (hw:Region.wanted ⟨none,.store t x y,ty,pos,aL,g⟩ (yielded ops a.tmps)=true)
  (h:(ev T x,L[i]?,ev T y,v.cells,Nat.beq vs.length sz,vs.all oneCell',Nat.ble (o+vs.length) c.length)=(some (.pointer (some ⟨b,o,none⟩)),some (b,.cells c.toArray e (0,0)),some v,vs.toArray,true,true,true))
  [q1:Jf c o vs c'] [q2:xg L i (b,.cells c'.toArray e (0,0)) L']
  (k:∀ w',St N D w0 F G0 G L' T a w'->WL r P ops Q rest a w'):WL r P ops Q (⟨none,.store t x y,ty,pos,aL,g⟩ :: rest) a w:=by
 simp only [iE] at h
 obtain ⟨hx,hi,hy,hvs,hl,h1,hle⟩:=h
 refine zy ht i _ H hw hx hi hy hvs hl h1 hle q1.h (fun w' H=>k w' ?_)
 rw [q2.h] at H;exact H
end
section
variable {N:Nat} {D:List Deferred} {w0:World} {F:Nat->Prop} {G0 G G1:GH} {L:OL} {T Xs:List (Nat × ah)} {l:List Oper} {a a':Act} {w w':World}
theorem JJ {pr:Nat->ah->GH->Prop} {S:Nat->Bool} {i d:Nat} {v:ah} (HT:St N D w0 F G0 G1 L T a w) (Hb:St N D w0 F G0 G1 L (Xs++full N a) a w) (hG:∀ k o,G k=some o->G1 k=some o) (hv:∀ i d,S i=true->dZ l i=some d->∃ v,a.tmps[d]?=some v∧pr i v G1)
  (jr:∀ i v (G G':GH),(∀ k o,G k=some o->G' k=some o)->pr i v G->pr i v G') (H:St N D w0 F G0 G1 L ((d,v) :: (Xs++full N a)) a' w') (hp:pr i v G1)
  (hok:oz l T i=true:=by kernel_rfl) (hi:dZ l i=some d:=by exact rfl) (hdl:Nat.blt i l.length=true:=by exact rfl):DX N D w0 F G0 G L T l pr (dO S i) a' w' :=
 pQ hok jr hi hdl HT Hb hG hv (fun _ _ h=>h) hp H
end
end
section
def bV (e sz:Nat) (v:ah) (n:Nat) (xs:List ah) (Lo:OL):Prop :=
 xs.length=n*sz∧((v=.slice none 0 0∧n=0∧Lo=[])∨∃ b cap cur,v=.slice (some ⟨b,0,none⟩) n cap∧Lo=[(b,.cells cur e (0,0))]∧n<=cap∧cap<=maxLen∧cur.size=cap*sz∧cur.toList.take (n*sz)=xs)
theorem bV.nil {e sz:Nat}:bV e sz (.slice none 0 0) 0 [] []:=⟨by simp,.inl ⟨O,O,O⟩⟩
theorem bV.shape {e sz n:Nat} {v:ah} {xs:List ah} {Lo:OL} (h:bV e sz v n xs Lo):∃ A c,v=.slice A n c∧n<=c∧c<=maxLen:=by
 rcases h.2 with ⟨rfl,rfl,_⟩|⟨b,cap,cur,rfl,_,h1,h2,_,_⟩
 ·exact ⟨none,0,O,fD _,by simp [maxLen]⟩
 ·exact ⟨_,cap,O,h1,h2⟩
section
variable {N:Nat} {D:List Deferred} {w0:World} {F:Nat->Prop} {G0 G:GH} {L Li Lo:OL} {T:List (Nat × ah)}
variable {r:Option Nat} {P:Program} {ops:Array Oper} {Q:Exit->Act->World->Prop} {rest:List Oper} {a:Act} {w w':World}
variable {d:Nat} {ty:TypeId} {pos:String} {aL:Array Edge} {g:Option (Nat × Bool)}
theorem bV.owns {e sz n:Nat} {v:ah} {xs:List ah} (h:bV e sz v n xs Lo) (H:Hp w0 F G0 G (Li++Lo) w):w.ownsRow 0 e sz v n xs:=by
 refine ⟨h.1,?_⟩
 rcases h.2 with ⟨h1,h2,_⟩|⟨b,cap,cur,h1,h2,h3,h4,h5,h6⟩
 ·exact .inl ⟨h1,h2⟩
 ·exact .inr ⟨b,cap,cur,h1,jL _,H.own (b,.cells cur e (0,0)) (by simp [h2]),h3,h4,h5,h6⟩
theorem adO {e sz n n':Nat} {v v':ah} {xs xs':List ah} (h:bV e sz v n xs Lo) (ho:fM G Lo w) (hown:w'.ownsRow 0 e sz v' n' xs') (hg:w.grownBy w' v.ownBlock) (hb:v'.ownBlock=v.ownBlock∨v'.ownBlock=some w.heap.size) :
  ∃ gG,bV e sz v' n' xs' gG∧Change w w' G G Lo gG:=by
 have hrow:∀ k,v.ownBlock=some k->∃ p∈Lo,p.1=k:=by
  intro k hk
  rcases h.2 with ⟨h1,_,_⟩|⟨b,cap,cur,h1,h2,_⟩
  ·rw [h1] at hk;cases hk
  ·rw [h1] at hk;simp only [Value.ownBlock,ou] at hk;exact ⟨_,by rw [h2];exact List.mem_singleton_self _,hk⟩
 have hro:∀ k o,G k=some o->w'.heap[k]?=some o:=by
  intro k o hk
  rw [hg.block k (lt_of_heap (ho.ro k o hk)) (fun e'=>by
   obtain ⟨p,hp,e2⟩:=hrow k e'.symm
   have:=ho.sep p hp
   rw [e2,hk] at this;cases this)]
  exact ho.ro k o hk
 have hfr:∀ k,k < w.heap.size->(∀ p∈Lo,p.1≠k)->w'.heap[k]?=w.heap[k]?:=fun k hk hn=>hg.block k hk fun e'=>by
  obtain ⟨p,hp,e2⟩:=hrow k e'.symm
  exact hn p hp e2
 rcases hown.2 with ⟨h1,h2⟩|⟨b,cap,cur,h1,_,h3,h4,h5,h6,h7⟩
 ·exact ⟨[],⟨hown.1,.inl ⟨h1,h2,O⟩⟩,⟨hg.os,hg.tape,hg.output,hg.size,hfr,fun _ _ h=>h,fun _ _ h=>.inl h,⟨hro,fun _ h=>(by cases h),fun _ h=>(by cases h),List.Pairwise.nil⟩,fun _ h=>(by cases h)⟩⟩
 ·refine ⟨[(b,.cells cur e (0,0))],⟨hown.1,.inr ⟨b,cap,cur,h1,O,h4,h5,h6,h7⟩⟩,⟨hg.os,hg.tape,hg.output,hg.size,hfr,fun _ _ h=>h,fun _ _ h=>.inl h,⟨hro,fun p hp=>?_,fun p hp=>?_,by simp⟩,fun p hp=>?_⟩⟩
  ·rw [qX.1 hp];exact h3
  ·rw [qX.1 hp]
   cases hgb:G b with
   | none=>rfl
   | some o =>
    exfalso
    rw [h1] at hb
    rcases hb with hb|hb
    ·obtain ⟨p',hp',e2⟩:=hrow b (by rw [<- hb];rfl)
     have:=ho.sep p' hp'
     rw [e2,hgb] at this;cases this
    ·simp only [Value.ownBlock,ou] at hb
     have:=lt_of_heap (ho.ro b o hgb)
     omega
  ·rw [qX.1 hp]
   rw [h1] at hb
   rcases hb with hb|hb
   ·obtain ⟨p',hp',e2⟩:=hrow b (by rw [<- hb];rfl)
    exact .inr ⟨p',hp',e2⟩
   ·simp only [Value.ownBlock,ou] at hb
    exact .inl (by simp only;omega)
theorem mh {t e:TypeId} {sz bytes:Nat} {zero:List ah} {agg:Bool} (hs:P.underlying t=some (.slice e)) (ht:Ty P e sz bytes zero agg) (hz:Nat.beq zero.length sz=true) (hsz:Nat.blt 0 sz=true) {x y:Operand} {v:ah} {n m c b2 o2:Nat} {xs news:List ah} (H:St N D w0 F G0 G (Li++Lo) T a w)
  (hw:Region.wanted ⟨some d,.call { callee:=.builtin .append,args:=#[x,y],argTypes:=#[t,t] },ty,pos,aL,g⟩ (yielded ops a.tmps)=true) (hx:ev T x=some v) (hy:ev T y=some (.slice (some ⟨b2,o2,none⟩) m c)) (hrow:bV e sz v n xs Lo)
  (hn:news.length=m*sz) (hc:∀ j u,news[j]?=some u->w.cell? ⟨b2,o2+j,none⟩=some u) (h1:news.all Value.oneCell'=true) (h63:n+m<=maxLen) (hb:(n+m)*bytes<=140737488355328) (hd:Nat.blt d N=true)
  (k:∀ v' gG a' w',bV e sz v' (n+m) (xs++news) gG->St N D w0 F G0 G (Li++gG) ((d,v') :: T) a' w'->WL r P ops Q rest a' w') :
  WL r P ops Q (⟨some d,.call { callee:=.builtin .append,args:=#[x,y],argTypes:=#[t,t] },ty,pos,aL,g⟩ :: rest) a w:=by
 obtain ⟨i,z,hi,hi1,hi2,hi3,hi4⟩:=ht.parts
 obtain ⟨v',w2,hrun,r1,r2,_,r4⟩:=run_append_own_at (P:=P) w 0 t ty e i z sz bytes hs hi hi3 hi1 hi2 (by rw [hi4];simpa using AJ hz) (Eq.mp Nat.blt_eq hsz) v n xs (hrow.owns H.hp) ⟨b2,o2,none⟩ m c news hn (fun j u hj=>by rw [add_lit];exact hc j u hj) (fun u hu=>lS.1 h1 u hu) h63 hb (jL _)
 obtain ⟨gG,hr,hch⟩:=adO hrow H.hp.owns r1 r2 r4
 refine fQ (v:=v') (w':=w2) hw O ?_ (k v' gG _ w2 hr (H.put hd v' (H.hp.change hch)))
 simp [execOp,resolve,invoke,builtin,H.ev hx,H.ev hy,dM,hrun]
theorem BM {t e:TypeId} {sz bytes:Nat} {zero:List ah} {agg:Bool} (hs:P.underlying t=some (.slice e)) (ht:Ty P e sz bytes zero agg) {x y:Operand} {A B:Option Addr} {n c c':Nat} (H:St N D w0 F G0 G L T a w)
  (hw:Region.wanted ⟨some d,.call { callee:=.builtin .append,args:=#[x,y],argTypes:=#[t,t] },ty,pos,aL,g⟩ (yielded ops a.tmps)=true) (hx:ev T x=some (.slice A n c)) (hy:ev T y=some (.slice B 0 c')) (hnc:n<=c) (hd:Nat.blt d N=true)
  (k:∀ a',St N D w0 F G0 G L ((d,.slice A n c) :: T) a' w->WL r P ops Q rest a' w) :
  WL r P ops Q (⟨some d,.call { callee:=.builtin .append,args:=#[x,y],argTypes:=#[t,t] },ty,pos,aL,g⟩ :: rest) a w:=by
 refine fQ (v:=.slice A n c) (w':=w) hw O ?_ (k _ (H.put hd _ H.hp))
 have h1:∀ w,(Builtin.firstCells sz 0 (.slice B 0 c')).run P w=.ok #[] w:=by intro w;cases B <;> simp [Builtin.firstCells,loadCells,loadCellsFrom]
 have hle:n+0<=c:=by omega
 cases A <;> simp [execOp,resolve,invoke,builtin,H.ev hx,H.ev hy,dM,Builtin.append_,lC hs,ht.CP,Builtin.lenOf,hnc,h1,storeCells]
theorem CV {t u:TypeId} {e:TypeId} (hs:P.underlying t=some (.slice e)) {x:Operand} {A:Option Addr} {n c:Nat} (H:St N D w0 F G0 G L T a w) (hw:Region.wanted ⟨some d,.binOp .eql t x (.const (.slice none 0 0)) u,ty,pos,aL,g⟩ (yielded ops a.tmps)=true) (hx:ev T x=some (.slice A n c)) (hd:Nat.blt d N=true)
  (k:∀ a',St N D w0 F G0 G L ((d,.bool A.isNone) :: T) a' w->WL r P ops Q rest a' w):WL r P ops Q (⟨some d,.binOp .eql t x (.const (.slice none 0 0)) u,ty,pos,aL,g⟩ :: rest) a w:=by
 refine fQ (v:=.bool A.isNone) (w':=w) hw O ?_ (k _ (H.put hd _ H.hp))
 have h1:(Op.equal t (.slice A n c) (.slice none 0 0)).run P w=.ok A.isNone w:=by
  show (Op.equalIn (9999+1) t (.slice A n c) (.slice none 0 0)).run P w=_
  rw [Op.equalIn.eq_2,dM,lC hs]
  cases A <;> rfl
 have h2:(do eqGuard .eql t x (.const (.slice none 0 0)) (.slice A n c) (.slice none 0 0);binOp .eql t (.slice A n c) (.slice none 0 0):Sem ah).run P w=.ok (.bool A.isNone) w:=by
  have e:(do eqGuard .eql t x (.const (.slice none 0 0)) (.slice A n c) (.slice none 0 0);binOp .eql t (.slice A n c) (.slice none 0 0):Sem ah)=(do pure (.bool (<- Op.equal t (.slice A n c) (.slice none 0 0))):Sem ah):=rfl
  rw [e,dM,h1];rfl
 have e0:execOp a.eval ⟨some d,.binOp .eql t x (.const (.slice none 0 0)) u,ty,pos,aL,g⟩=(do pure (.value (<- (do eqGuard .eql t x (.const (.slice none 0 0)) (.slice A n c) (.slice none 0 0);binOp .eql t (.slice A n c) (.slice none 0 0):Sem ah))):Sem Next):=by
  simp only [execOp,H.ev hx];rfl
 rw [e0,dM,h2]
 rfl
theorem CU {t e:TypeId} {sz bytes:Nat} {zero:List ah} {agg:Bool} (hs:P.underlying t=some (.slice e)) (ht:Ty P e sz bytes zero agg) (H:St N D w0 F G0 G L T a w) (hw:Region.wanted ⟨some d,.buildSlice t 0 #[],ty,pos,aL,g⟩ (yielded ops a.tmps)=true) (hd:Nat.blt d N=true)
  (k:∀ b a' w',w0.heap.size<=b->St N D w0 F G0 G ((b,.cells #[] e (0,0)) :: L) ((d,.slice (some ⟨b,0,none⟩) 0 0) :: T) a' w'->WL r P ops Q rest a' w'):WL r P ops Q (⟨some d,.buildSlice t 0 #[],ty,pos,aL,g⟩ :: rest) a w:=by
 refine fQ (v:=.slice (some ⟨w.heap.size,0,none⟩) 0 0) (w':=w.alloc (.cells #[] e (0,0))) hw O ?_ (k _ _ _ H.hp.size (H.put hd _ (H.hp.alloc _)))
 have h0:¬ (0*sz > 2 ^ 24):=by simp
 simp [execOp,Instr.buildSlice,dM,lC hs,ht.CP,Instr.fill,newRow,newObj,Sem.run]
 congr 2
 apply Array.eq_empty_of_size_eq_zero
 simp
theorem bV.empty {e sz b:Nat}:bV e sz (.slice (some ⟨b,0,none⟩) 0 0) 0 [] [(b,.cells #[] e (0,0))] :=
 ⟨by simp,.inr ⟨b,0,#[],O,O,fD _,by simp [maxLen],by simp,by simp⟩⟩
theorem oL {x:Operand} {fv:ah} {xs:List Operand} {vs:List ah} {ts:Array TypeId} {R:ah->GH->Prop} (H:St N D w0 F G0 G L T a w) (hw:Region.wanted ⟨some d,.call { callee:=.value x,args:=xs.toArray,argTypes:=ts },ty,pos,aL,g⟩ (yielded ops a.tmps)=true)
  (hf:ev T x=some fv) (hx:evs T xs=some vs) (hc:tY P fv vs w (bG w G R)) (hd:Nat.blt d N=true)
  (k:∀ v G' a' w',R v G'->(∀ k o,G k=some o->G' k=some o)->St N D w0 F G0 G' L ((d,v) :: T) a' w'->WL r P ops Q rest a' w'):WL r P ops Q (⟨some d,.call { callee:=.value x,args:=xs.toArray,argTypes:=ts },ty,pos,aL,g⟩ :: rest) a w:=by
 refine aae (nx:=_) (R:=bG w G R) hw O O ?_ ?_
 ·have h1:=H.evs hx
  have e:(execOp a.eval ⟨some d,.call { callee:=.value x,args:=xs.toArray,argTypes:=ts },ty,pos,aL,g⟩)=(do let d <- Deferred.ofValue fv vs.toArray;invoke d.target d.args:Sem Next):=by
   simp only [execOp,resolve,H.ev hf,List.map_toArray,h1]
  rw [e]
  exact hc.go
 ·rintro e w' ⟨v,G',rfl,hb,hx,hR⟩
  exact ⟨v,O,k v G' _ w' hR hx.1 (H.put hd v (H.hp.abf hb hx))⟩
end
def bT (G:GH) (sz:Nat) (rows:List (List Dat)) (xs:List ah):Prop :=
 ∃ css:List (List ah),xs=css.flatten∧css.length=rows.length∧∀ (j:Nat) (r:List Dat) (cs:List ah),rows[j]?=some r->css[j]?=some cs->aX G r cs∧cs.length=sz
theorem bT.nil {G:GH} {sz:Nat}:bT G sz [] []:=⟨[],O,O,fun j r cs h=>by simp at h⟩
theorem bT.mono {G G':GH} (hm:∀ k o,G k=some o->G' k=some o) {sz:Nat} {rows:List (List Dat)} {xs:List ah} (h:bT G sz rows xs):bT G' sz rows xs:=by
 obtain ⟨css,h1,h2,h3⟩:=h
 exact ⟨css,h1,h2,fun j r cs hr hc=>⟨(h3 j r cs hr hc).1.mono hm,(h3 j r cs hr hc).2⟩⟩
theorem bT.snoc {G:GH} {sz:Nat} {rows:List (List Dat)} {xs:List ah} (h:bT G sz rows xs) {q:List Dat} {cs:List ah} (hr:aX G q cs) (hl:cs.length=sz):bT G sz (rows++[q]) (xs++cs):=by
 obtain ⟨css,h1,h2,h3⟩:=h
 refine ⟨css++[cs],by simp [h1],by simp [h2],fun j r c hj hc=>?_⟩
 by_cases hlt:j < rows.length
 ·rw [sZ hlt] at hj
  rw [sZ V] at hc
  exact h3 j r c hj hc
 ·have hje:j=rows.length:=by
   have:=(ji.1 hj).1
   simp at this;omega
  subst hje
  rw [qj (fD _),Nat.sub_self] at hj
  rw [qj V,h2,Nat.sub_self] at hc
  simp only [AO,ou] at hj hc
  subst hj;subst hc
  exact ⟨hr,hl⟩
theorem agh {sz:Nat}:∀ {css:List (List ah)} {j:Nat} {cs:List ah},(∀ (j:Nat) (cs:List ah),css[j]?=some cs->cs.length=sz)->css[j]?=some cs->∀ i,i < sz->css.flatten[j*sz+i]?=cs[i]?
 | [],_,_,_,h,_,_=>by simp at h
 | c :: css,0,cs,hl,h,i,hi=>by
  simp only [AO,ou] at h
  subst h
  have:=hl 0 c O
  simp only [List.flatten_cons,Nat.zero_mul,fO]
  rw [sZ V]
 | c :: css,j+1,cs,hl,h,i,hi=>by
  have hc:=hl 0 c O
  have ih:=agh (css:=css) (j:=j) (cs:=cs) (fun j cs hj=>hl (j+1) cs (by simpa using hj)) (by simpa using h) i hi
  simp only [List.flatten_cons]
  rw [qj (by rw [hc,Nat.succ_mul];omega),<- ih]
  congr 1
  rw [hc,Nat.succ_mul];omega
theorem nE.cat {G:GH} {sz b:Nat}:∀ {rows:List (List Dat)} {o:Nat},nE G sz b o rows->∃ xs:List ah,xs.length=rows.length*sz∧(∀ j u,xs[j]?=some u->aI G b (o+j)=some u)∧xs.all Value.oneCell'=true∧bT G sz rows xs
 | [],o,_=>⟨[],by simp,fun j u h=>by simp at h,O,bT.nil⟩
 | r :: rs,o,h=>by
  simp only [nE] at h
  obtain ⟨⟨cs,h1,h2,h3⟩,h4⟩:=h
  obtain ⟨xs,g1,g2,g3,css,g4,g5,g6⟩:=nE.cat h4
  refine ⟨cs++xs,by simp [h1,g1,Nat.succ_mul,Nat.add_comm],fun j u hj=>?_,by simp [h3.one,g3],cs :: css,by simp [g4],by simp [g5],fun j q c hj hc=>?_⟩
  ·by_cases hlt:j < cs.length
   ·rw [sZ hlt] at hj;exact h2 j u hj
   ·rw [qj V] at hj
    rw [<- g2 _ u hj];congr 1;omega
  ·cases j with
   | zero=>simp only [AO,ou] at hj hc;subst hj;subst hc;exact ⟨h3,h1⟩
   | succ j=>exact g6 j q c (by simpa using hj) (by simpa using hc)
theorem av.cells {G:GH} {sz:Nat} {rows:List (List Dat)} {A:Option Addr} {n c:Nat} (h:av G (.sl sz rows) (.slice A n c)):n=rows.length∧n<=c∧c<=maxLen∧(A=none->rows=[]) ∧
  (rows≠[]->∃ b o xs,A=some ⟨b,o,none⟩∧xs.length=n*sz∧(∀ j u,xs[j]?=some u->aI G b (o+j)=some u)∧xs.all Value.oneCell'=true∧bT G sz rows xs):=by
 simp only [av] at h
 obtain ⟨A',c',h1,h2,h3,h4⟩:=h
 injection h1 with e1 e2 e3
 subst e1;subst e2;subst e3
 refine ⟨O,h2,h3,fun hn=>?_,fun hne=>?_⟩
 ·apply Classical.byContradiction
  intro hne
  obtain ⟨b,o,e,_⟩:=h4 hne
  rw [hn] at e;cases e
 ·obtain ⟨b,o,e,hr⟩:=h4 hne
  obtain ⟨xs,g1,g2,g3,g4⟩:=hr.cat
  exact ⟨b,o,xs,e,g1,g2,g3,g4⟩
theorem av.og {G:GH} {sz:Nat} {A:Option Addr} {n c:Nat} (h:n=0) (hc:c<=maxLen):av G (.sl sz []) (.slice A n c):=by
 subst h
 simp only [av]
 exact ⟨A,c,O,jL _,hc,fun h=>absurd O h⟩
theorem av.vU {G:GH} {e sz n b cap:Nat} {cur:Array ah} {xs:List ah} {rows:List (List Dat)} (hb:G b=some (.cells cur e (0,0))) (hl:rows.length=n) (hc:n<=cap) (hm:cap<=maxLen) (ht:cur.toList.take (n*sz)=xs) (fZ:bT G sz rows xs) :
  av G (.sl sz rows) (.slice (some ⟨b,0,none⟩) n cap):=by
 obtain ⟨css,h1,h2,h3⟩:=fZ
 simp only [av]
 refine ⟨_,cap,by rw [hl],V,hm,fun _=>⟨b,0,O,nE.mk fun k q hk=>?_⟩⟩
 have hkl:k < css.length:=by rw [h2];exact (ji.1 hk).1
 have hcs:css[k]?=some css[k]:=fF hkl
 obtain ⟨g1,g2⟩:=h3 k q _ hk hcs
 refine ⟨css[k],g2,fun j u hj=>?_,g1⟩
 have hjs:j < sz:=by rw [<- g2];exact (ji.1 hj).1
 have hlen:∀ (j:Nat) (cs:List ah),css[j]?=some cs->cs.length=sz:=by
  intro j cs hj
  have hjl:j < rows.length:=by rw [<- h2];exact (ji.1 hj).1
  exact (h3 j _ cs (fF hjl) hj).2
 have hf:=agh hlen hcs j hjs
 rw [<- h1,<- ht,hj] at hf
 unfold aI
 rw [hb]
 simp only
 have hlt:k*sz+j < n*sz:=by
  have:(k+1)*sz<=n*sz:=Nat.mul_le_mul_right _ V
  rw [Nat.succ_mul] at this;omega
 rw [sV,aH hlt] at hf
 simpa using hf
theorem St.qF {N:Nat} {D:List Deferred} {w0:World} {F:Nat->Prop} {G0 G:GH} {Li Lo:OL} {T:List (Nat × ah)} {a:Act} {w:World} {e sz n:Nat} {v:ah} {xs:List ah} {rows:List (List Dat)} (H:St N D w0 F G0 G (Li++Lo) T a w)
  (hrow:bV e sz v n xs Lo) (hl:rows.length=n) (fZ:bT G sz rows xs):∃ G',(∀ k o,G k=some o->G' k=some o)∧av G' (.sl sz rows) v∧St N D w0 F G0 G' Li T a w:=by
 rcases hrow.2 with ⟨rfl,h2,rfl⟩|⟨b,cap,cur,rfl,rfl,h3,h4,h5,h6⟩
 ·refine ⟨G,fun _ _ h=>h,?_,by simpa using H⟩
  have:rows=[]:=List.eq_nil_of_length_eq_zero V
  subst this
  simp only [av]
  exact ⟨none,0,by simp,by simp,by simp [maxLen],fun h=>absurd O h⟩
 ·have hi:(Li++[(b,Obj.cells cur e (0,0))])[Li.length]?=some (b,.cells cur e (0,0)):=by simp
  have hn:=H.agu _ hi
  have hm:∀ k o,G k=some o->(G.add b (.cells cur e (0,0))) k=some o:=fun k o h=>GH.Jj G hn k o h
  refine ⟨_,hm,av.vU (GH.Gp G b _) hl h3 h4 h6 (fZ.mono hm),?_⟩
  have:=H.giveUp _ hi
  rwa [List.eraseIdx_append_of_length_le (fD _),Nat.sub_self,List.eraseIdx_zero,List.tail_cons,jV] at this
theorem St.fJ {N:Nat} {D:List Deferred} {w0:World} {F:Nat->Prop} {G0 G:GH} {L:OL} {T:List (Nat × ah)} {a:Act} {w:World} {b:Nat} {o:Obj} (H:St N D w0 F G0 G ((b,o) :: L) T a w) :
  ∃ G',(∀ k o,G k=some o->G' k=some o)∧G' b=some o∧St N D w0 F G0 G' L T a w :=
 ⟨G.add b o,GH.Jj G (H.agu 0 rfl),GH.Gp G b o,H.giveUp 0 rfl⟩
structure Now {α:Type} (xs:List AP) (P:α->AP) (J:Nat->GH->OL->Prop) (je j:Nat) (A:List α) (g:GH) (L:OL):Prop where
 now:J j g L
 rem:∀ i a,A[i]?=some a->xs[j+i]?=some (P a)
 len:j+A.length=je
theorem Now.head {α:Type} {xs:List AP} {P:α->AP} {J:Nat->GH->OL->Prop} {je j:Nat} {x:α} {A:List α} {g:GH} {L:OL} (h:Now xs P J je j (x :: A) g L):xs[j]?=some (P x):=h.rem 0 x O
theorem Now.step {α:Type} {xs:List AP} {P:α->AP} {J:Nat->GH->OL->Prop} {je j:Nat} {x:α} {A:List α} {g g':GH} {L L':OL} (h:Now xs P J je j (x :: A) g L) (hJ:J (j+1) g' L'):Now xs P J je (j+1) A g' L' :=
 ⟨hJ,fun i a hi=>by rw [show j+1+i=j+(i+1) by omega];exact h.rem (i+1) a (by simpa using hi),by have:=h.len;simp only [lD] at this;omega⟩
theorem Now.part {α:Type} {xs:List AP} {P:α->AP} {J:Nat->GH->OL->Prop} {je j:Nat} {A B:List α} {g:GH} {L:OL} (h:Now xs P J je j (A++B) g L):∀ i a,A[i]?=some a->xs[j+i]?=some (P a):=fun i a hi=>h.rem i a (by rw [sZ (ji.1 hi).1];exact hi)
theorem Now.jump {α:Type} {xs:List AP} {P:α->AP} {J:Nat->GH->OL->Prop} {je j:Nat} {A B:List α} {g g':GH} {L L':OL} (h:Now xs P J je j (A++B) g L) (hJ:J (j+A.length) g' L'):Now xs P J je (j+A.length) B g' L' :=
 ⟨hJ,fun i a hi=>by rw [Nat.add_assoc];exact h.rem (A.length+i) a (by rw [qj (Nat.le_add_right _ _),Gq];exact hi),by have:=h.len;simp only [iK] at this;omega⟩
theorem Hp.kJ {R:ah->GH->OL->Prop} {v:ah} {w0 w:World} {G0 G:GH} {L0 L L':OL} (h:Hp w0 (Fr w0 L0) G0 G L w) (hs:L'.Sublist L) (hR:R v G L'):fB w0 G0 L0 R (.returned v) w:=(h.drop hs).gI hR
section
variable {N:Nat} {D:List Deferred} {w0:World} {F:Nat->Prop} {G0 G:GH} {L Li Lo:OL} {T:List (Nat × ah)}
variable {r:Option Nat} {P:Program} {ops:Array Oper} {Q:Exit->Act->World->Prop} {rest:List Oper} {a:Act} {w:World}
variable {d:Nat} {ty:TypeId} {pos:String} {aL:Array Edge} {g:Option (Nat × Bool)}
theorem ZA {t e:TypeId} {sz bytes:Nat} {zero:List ah} {agg:Bool} (hs:P.underlying t=some (.slice e)) (ht:Ty P e sz bytes zero agg) (hz:Nat.beq zero.length sz=true) (hsz:Nat.blt 0 sz=true) {x y:Operand} {v:ah} {n m c:Nat} {A:Option Addr} {xs:List ah} {rows:List (List Dat)} (H:St N D w0 F G0 G (Li++Lo) T a w)
  (hw:Region.wanted ⟨some d,.call { callee:=.builtin .append,args:=#[x,y],argTypes:=#[t,t] },ty,pos,aL,g⟩ (yielded ops a.tmps)=true) (hx:ev T x=some v) (hy:ev T y=some (.slice A m c)) (hrow:bV e sz v n xs Lo)
  (hrep:av G (.sl sz rows) (.slice A m c)) (h63:n+m<=maxLen) (hb:(n+m)*bytes<=140737488355328) (hd:Nat.blt d N=true)
  (k:∀ v' gG news a' w',bV e sz v' (n+m) (xs++news) gG->bT G sz rows news->St N D w0 F G0 G (Li++gG) ((d,v') :: T) a' w'->WL r P ops Q rest a' w') :
  WL r P ops Q (⟨some d,.call { callee:=.builtin .append,args:=#[x,y],argTypes:=#[t,t] },ty,pos,aL,g⟩ :: rest) a w:=by
 obtain ⟨hn,hc1,hc2,hnil,hxx⟩:=hrep.cells
 by_cases hr0:rows=[]
 ·have hm0:m=0:=by rw [hn,hr0];rfl
  subst hm0
  obtain ⟨A',c',rfl,h1,h2⟩:=hrow.shape
  refine BM hs ht H hw hx hy h1 hd fun a' H'=>?_
  exact k _ Lo [] a' w (by simpa using hrow) (by rw [hr0];exact bT.nil) H'
 ·obtain ⟨b,o,news,rfl,hxl,hxc,hx1,fZ⟩:=hxx hr0
  exact mh hs ht hz hsz H hw hx hy hrow hxl (fun j u hj=>H.hp.aI (hxc j u hj)) hx1 h63 hb hd fun v' gG a' w' hr' H'=>k v' gG news a' w' hr' fZ H'
theorem aA6 {t e:TypeId} {sz bytes:Nat} {zero:List ah} {agg:Bool} (hs:P.underlying t=some (.slice e)) (ht:Ty P e sz bytes zero agg) {x y z:Operand} {A:Option Addr} {n c:Nat} (lo hi:Nat) {p q:Int} (H:St N D w0 F G0 G L T a w)
  (hw:Region.wanted ⟨some d,.slice t x (some y) (some z) none,ty,pos,aL,g⟩ (yielded ops a.tmps)=true) (hx:ev T x=some (.slice A n c)) (hy:ev T y=some (.int .i64 p)) (hz:ev T z=some (.int .i64 q)) (hp:p=(lo:Int)) (hq:q=(hi:Int)) (h1:lo<=hi) (h2:hi<=c) (hd:Nat.blt d N=true)
  (k:∀ a',St N D w0 F G0 G L ((d,.slice (if c=lo then A else A.map (·.add (lo*sz))) (hi - lo) (c - lo)) :: T) a' w->WL r P ops Q rest a' w):WL r P ops Q (⟨some d,.slice t x (some y) (some z) none,ty,pos,aL,g⟩ :: rest) a w:=by
 subst hp;subst hq
 refine fQ (v:=.slice (if c=lo then A else A.map (·.add (lo*sz))) (hi - lo) (c - lo)) (w':=w) hw O ?_ (k _ (H.put hd _ H.hp))
 simp [execOp,H.ev hx,H.ev hy,H.ev hz,Instr.sliceAt,Instr.slice,Instr.sliceBounds,Instr.sliceBound,dM,lC hs,ht.CP,asIntOf,h1,h2]
end
theorem av.part {G:GH} {sz:Nat} {rows:List (List Dat)} {A:Option Addr} {n c:Nat} (h:av G (.sl sz rows) (.slice A n c)) (lo hi:Nat) (h1:lo<=hi) (h2:hi<=rows.length) :
  av G (.sl sz ((rows.drop lo).take (hi - lo))) (.slice (if c=lo then A else A.map (·.add (lo*sz))) (hi - lo) (c - lo)):=by
 obtain ⟨A',c',he,hc1,hc2,hg⟩:=h.slice
 injection he with e1 e2 e3
 subst e1;subst e3
 have hl:((rows.drop lo).take (hi - lo)).length=hi - lo:=by simp;omega
 simp only [av]
 refine ⟨_,_,by rw [hl],by rw [hl];omega,V,fun hn=>?_⟩
 have hlt:lo < hi:=by
  rcases Nat.lt_or_ge lo hi with h|h
  ·exact h
  ·exact absurd (List.eq_nil_of_length_eq_zero (by rw [hl];omega)) hn
 obtain ⟨b,o,cs,hA,-⟩:=hg lo rows[lo] (by simp)
 subst hA
 refine ⟨b,o+lo*sz,by rw [ay V,Option.map_some,add_lit],nE.mk fun k r hk=>?_⟩
 rw [sV] at hk
 split at hk
 ·rw [List.getElem?_drop] at hk
  obtain ⟨b',o',cs,hA,g1,g2,g3⟩:=hg (lo+k) r hk
  obtain ⟨rfl,rfl⟩:b=b'∧o=o':=by simpa using hA
  exact ⟨cs,g1,fun j u hj=>by rw [<- g2 j u hj];congr 1;rw [Nat.add_mul];omega,g3⟩
 ·cases hk
theorem bT.append {G:GH} {sz:Nat} {r1 r2:List (List Dat)} {x1 x2:List ah} (h1:bT G sz r1 x1) (h2:bT G sz r2 x2):bT G sz (r1++r2) (x1++x2):=by
 obtain ⟨c1,rfl,e1,f1⟩:=h1
 obtain ⟨c2,rfl,e2,f2⟩:=h2
 refine ⟨c1++c2,by simp,by simp [e1,e2],fun j r cs hr hc=>?_⟩
 by_cases hj:j < r1.length
 ·exact f1 j r cs (by rwa [sZ hj] at hr) (by rwa [sZ V] at hc)
 ·exact f2 (j - r1.length) r cs (by rwa [qj V] at hr) (by rwa [qj V,e1] at hc)
end
section
def ZQ (l:List Oper) (bS:List (List Nat)) (B:List Nat):Bool :=
 B.all (fun b=>Nat.blt b l.length && (List.range l.length).all fun i=>B.contains i || (bS.getD b []).contains i) &&
 (List.range l.length).all fun i=>B.contains i || (bS.getD i []).all fun j=>!B.contains j
section
variable {N:Nat} {D:List Deferred} {w0:World} {F:Nat->Prop} {G0 G G1 G2:GH} {L L1 L2:OL} {T Xs:List (Nat × ah)}
variable {r:Option Nat} {P:Program} {Q:Exit->Act->World->Prop} {l:List Oper} {a a':Act} {w w':World}
theorem xB {x y:Nat} (h:x≠y):Nat.beq x y=false:=by
 cases h':Nat.beq x y with
 | false=>rfl
 | true=>exact absurd (AJ h') h
theorem wG {i e:Nat} (h:dZ l i=some e):i < l.length:=by
 unfold dZ at h
 by_cases hl:i < l.length
 ·exact hl
 ·rw [List.getElem?_eq_none V] at h;cases h
theorem aob {id:Nat} (hm:P.follows .mixedOrders=true) (bS:List (List Nat)) (B:List Nat) (hk:yL l bS=true) (hB:ZQ l bS B=true) (pr:Nat->ah->GH->Prop)
  (Y:(Nat->Bool)->Act->World->Prop) (H:St N D w0 F G0 G L T a w)
  (hstep:allI (fun i o=>∀ S a w G1,B.contains i=false->S i=false->(∀ j∈bS.getD i [],S j=true)->(∀ k o,G k=some o->G1 k=some o)->St N D w0 F G0 G1 L T a w->(∀ i d,S i=true->dZ l i=some d->∃ v,a.tmps[d]?=some v∧pr i v G1) ->
   WL r P l.toArray (fun e a' w'=>e=.normal∧DX N D w0 F G0 G L T l pr (dO S i) a' w') [o] a w) 0 l)
  (hmid:∀ S a w G1,(∀ k o,G k=some o->G1 k=some o)->St N D w0 F G0 G1 L T a w->(∀ i d,B.contains i=false->dZ l i=some d->∃ v,a.tmps[d]?=some v∧pr i v G1)->(∀ i,B.contains i=true->S i=false)->Y S a w)
  (awK:allI (fun i o=>∀ S a w,B.contains i=true->S i=false->(∀ j∈bS.getD i [],S j=true)->(∀ j,j < l.length->i∈bS.getD j []->S j=false)->Y S a w->WL r P l.toArray (fun e a' w'=>e=.normal∧Y (dO S i) a' w') [o] a w) 0 l)
  (hend:∀ S a w,(∀ i,i < l.length->S i=true)->Y S a w->Q .normal a w):WP r P (.region id l.toArray true) Q a w:=by
 simp only [ZQ,mG,lS,qD,Bool.or_eq_true,xq] at hB
 have hB1:∀ b∈B,b < l.length∧∀ i,i < l.length->i∉B->i∈bS.getD b []:=fun b hb=>⟨Eq.mp Nat.blt_eq (hB.1 b hb).1,fun i hi hn=>((hB.1 b hb).2 i hi).resolve_left hn⟩
 refine VL hm bS hk (fun S a w=>((∀ i,B.contains i=true->S i=false)∧DX N D w0 F G0 G L T l pr S a w)∨((∀ i,i < l.length->B.contains i=false->S i=true)∧Y S a w))
  (.inl ⟨fun _ _=>rfl,G,fun _ _ h=>h,H.move H.hp.drew,fun _ _ h=>by cases h⟩) ?_ ?_
 ·intro i o S a w ho hX aV kM hdesc
  have hil:i < l.length:=(ji.1 ho).1
  by_cases hbi:B.contains i=true
  ·have QY:i∈B:=by simpa using hbi
   have hall:∀ j,j < l.length->B.contains j=false->S j=true:=fun j hj hb=>kM j ((hB1 i QY).2 j hj (by simpa using hb))
   have hY:Y S a w:=by
    rcases hX with ⟨h1,G1,hG,HS,hv⟩|⟨_,hY⟩
    ·exact hmid S a w G1 hG HS (fun j e hb he=>hv j e (hall j (wG he) hb) he) h1
    ·exact hY
   have h2:=zL awK i o ho
   rw [fO] at h2
   refine pF (fun e a' w' ⟨he,hD⟩=>⟨he,.inr ⟨fun j hj hb=>?_,hD⟩⟩) (h2 S a w hbi aV kM hdesc hY)
   unfold dO;split
   ·rfl
   ·exact hall j hj hb
  ·have Bq:B.contains i=false:=by cases h:B.contains i with|false=>rfl|true=>exact absurd h hbi
   rcases hX with ⟨h1,G1,hG,HS,hv⟩|⟨h0,_⟩
   ·have h2:=zL hstep i o ho
    rw [fO] at h2
    refine pF (fun e a' w' ⟨he,hD⟩=>⟨he,.inl ⟨fun j hj=>?_,hD⟩⟩) (h2 S a w G1 Bq aV kM hG HS hv)
    unfold dO
    rw [ay (by rintro rfl;rw [Bq] at hj;cases hj)]
    exact h1 j hj
   ·rw [h0 i hil Bq] at aV;cases aV
 ·intro S a w hall hX
  rcases hX with ⟨h1,G1,hG,HS,hv⟩|⟨_,hY⟩
  ·exact hend S a w hall (hmid S a w G1 hG HS (fun j e _ he=>hv j e (hall j (wG he)) he) h1)
  ·exact hend S a w hall hY
theorem aew {pr:Nat->ah->GH->Prop} {S:Nat->Bool} {i:Nat} (hi:dZ l i=none) (HT:St N D w0 F G0 G1 L T a w) (hG:∀ k o,G k=some o->G1 k=some o) (hv:∀ i d,S i=true->dZ l i=some d->∃ v,a.tmps[d]?=some v∧pr i v G1)
  (H:St N D w0 F G0 G1 L (Xs++full N a) a w'):DX N D w0 F G0 G L T l pr (dO S i) a w' :=
 ⟨G1,hG,HT.move H.hp,fun j e hj he=>hv j e (by
  unfold dO at hj
  by_cases hji:j=i
  ·subst hji;rw [hi] at he;cases he
  ·rwa [ay hji] at hj) he⟩
theorem ajK (A B C D':OL):(A++(B++(C++D'))).Perm ((A++(B++D'))++C):=by
 rw [gY A,gY B]
 exact List.Perm.append_left A (List.Perm.append_left B um)
theorem ajJ (A B C D':OL):A++(B++(C++D'))=(A++(B++C))++D':=by simp
theorem IG:∀ (vs c:List ah) (o:Nat),o+vs.length<=c.length->setRow c o vs=c.take o++vs++c.drop (o+vs.length)
 | [],c,o,_=>by simp [setRow]
 | v :: vs,c,o,h=>by
  simp only [lD] at h
  rw [setRow,IG vs (c.set o v) (o+1) (by simp;omega),List.take_set,List.drop_set,aH V,jk V]
  have e:((c.take o++[c[o]]).set o v)=c.take o++[v]:=by
   have hl:(c.take o).length=o:=by simp;omega
   rw [List.set_append,ay V,hl,Nat.sub_self];rfl
  rw [e,lD,show o+1+vs.length=o+(vs.length+1) by omega]
  simp
theorem bV.over {e sz n b cap:Nat} {cur:Array ah} {xs zc news:List ah} (h:bV e sz (.slice (some ⟨b,0,none⟩) (n+1) cap) (n+1) (xs++zc) [(b,.cells cur e (0,0))]) (hx:xs.length=n*sz) (hn:news.length=sz) :
  n*sz+news.length<=cur.toList.length∧bV e sz (.slice (some ⟨b,0,none⟩) (n+1) cap) (n+1) (xs++news) [(b,.cells (setRow cur.toList (n*sz) news).toArray e (0,0))]:=by
 rcases h.2 with ⟨h1,_⟩|⟨b',cap',cur',h1,h2,h3,h4,h5,h6⟩
 ·cases h1
 ·cases h1
  cases h2
  have e1:(n+1)*sz=n*sz+sz:=Nat.succ_mul n sz
  have hle:n*sz+news.length<=cur.toList.length:=by
   rw [hn,<- e1,uZ,h5];exact Nat.mul_le_mul_right _ h3
  have hlz:(xs++zc).length=(n+1)*sz:=h.1
  refine ⟨hle,by simp [hx,hn,e1],.inr ⟨b,cap,_,O,O,h3,h4,by simp [II,h5],?_⟩⟩
  have h7:cur.toList.take (n*sz)=xs:=by
   have:=dh (List.take (n*sz)) h6
   rw [List.take_take,Nat.min_eq_left V,List.take_left' hx] at this
   exact this
  rw [List.toList_toArray,IG _ _ _ hle,e1,h7,hn]
  exact List.take_left' (by simp [hx,hn])
theorem St.weak (h:St N D w0 F G0 G L Xs a w) (hs:∀ t v,lk T t=some v->lk Xs t=some v):St N D w0 F G0 G L T a w:=⟨h.nH,fun t v ht=>h.get t v (hs t v ht),h.tu,h.hp⟩
theorem St.yH {s:Nat} {v:ah} (h:St N D w0 F G0 G L ((s,v) :: T) a w) (hs:lk T s=none):St N D w0 F G0 G L T a w:=h.weak fun t u ht=>by
 rw [gy (fun e=>by subst e;rw [hs] at ht;cases ht)];exact ht
abbrev PG (tS tE s0 s1 s2 s3 s4 s5 p0 p1:Nat) (zv:ah) (y0 y1 y2 y3 y4 y5 y6 y7:TypeId) (q0 q1 q2 q3 q4 q5 q6 q7:String) (f0 f1 f2 f3 f4 f5 f6 f7:Array Edge):List Oper :=
  [⟨some s0,.load tS (.tmp p0),y0,q0,f0,none⟩,⟨some s1,.load tE (.tmp p1),y1,q1,f1,none⟩,⟨some s2,.call { callee:=.builtin .len,args:=#[.tmp s0],argTypes:=#[tS] },y2,q2,f2,none⟩,
   ⟨some s3,.buildSlice tS 1 #[(0,.const zv)],y3,q3,f3,none⟩,⟨some s4,.call { callee:=.builtin .append,args:=#[.tmp s0,.tmp s3],argTypes:=#[tS,tS] },y4,q4,f4,none⟩,
   ⟨some s5,.indexAddr tS (.tmp s4) (.tmp s2),y5,q5,f5,none⟩,⟨none,.store tE (.tmp s5) (.tmp s1),y6,q6,f6,none⟩,⟨none,.store tS (.tmp p0) (.tmp s4),y7,q7,f7,none⟩]
abbrev aaV:List (List Nat):=[[],[],[0],[],[0,1,2,3],[0,1,2,3,4],[0,1,2,3,4,5],[0,1,2,3,4]]
set_option maxHeartbeats 1000000 in
theorem adG {id tS tE s0 s1 s2 s3 s4 s5 p0 p1 i0 i1 bp bx n c0 sz bytes szS:Nat} {A0:Option Addr} {zero aC5 xs news:List ah} {zv:ah} {Li Lo:OL} {y0 y1 y2 y3 y4 y5 y6 y7:TypeId} {q0 q1 q2 q3 q4 q5 q6 q7:String} {f0 f1 f2 f3 f4 f5 f6 f7:Array Edge}
  (hm:P.follows .mixedOrders=true) (hk:yL (PG tS tE s0 s1 s2 s3 s4 s5 p0 p1 zv y0 y1 y2 y3 y4 y5 y6 y7 q0 q1 q2 q3 q4 q5 q6 q7 f0 f1 f2 f3 f4 f5 f6 f7) aaV=true)
  (hs:P.underlying tS=some (.slice tE)) (htS:Ty P tS 1 szS aC5 false) (ht:Ty P tE sz bytes zero true) (hsz0:Nat.blt 0 sz=true) (hsz1:Nat.ble sz 1000=true) (hzl:Nat.beq zero.length sz=true) (hzc:zv.cells.toList=zero) (hz1:zero.all Value.oneCell'=true)
  (hok:V5 (PG tS tE s0 s1 s2 s3 s4 s5 p0 p1 zv y0 y1 y2 y3 y4 y5 y6 y7 q0 q1 q2 q3 q4 q5 q6 q7 f0 f1 f2 f3 f4 f5 f6 f7) T=true) (hsl:[s0,s1,s2,s3,s4,s5].all (fun s=>(lk T s).isNone && Nat.blt s N)=true) (hnd:[s0,s1,s2,s3,s4,s5].Nodup)
  (H:St N D w0 F G0 G (Li++Lo) T a w) (hp0:lk T p0=some (.pointer (some ⟨bp,0,none⟩))) (hp1:lk T p1=some (.pointer (some ⟨bx,0,none⟩)))
  (hi0:Li[i0]?=some (bp,.cells #[.slice A0 n c0] tS (0,0))) (hi1:Li[i1]?=some (bx,.cells news.toArray tE (0,0))) (hnl:news.length=sz) (hn1:news.all Value.oneCell'=true)
  (hrow:bV tE sz (.slice A0 n c0) n xs Lo) (h63:n+1<=maxLen) (hb':(n+1)*bytes<=140737488355328)
  (hend:∀ v' gG G1 a' w',(∀ k o,G k=some o->G1 k=some o)->bV tE sz v' (n+1) (xs++news) gG->St N D w0 F G0 G1 (Li.set i0 (bp,.cells #[v'] tS (0,0))++gG) T a' w'->Q .normal a' w') :
  WP r P (.region id (PG tS tE s0 s1 s2 s3 s4 s5 p0 p1 zv y0 y1 y2 y3 y4 y5 y6 y7 q0 q1 q2 q3 q4 q5 q6 q7 f0 f1 f2 f3 f4 f5 f6 f7).toArray true) Q a w:=by
 have hb0:i0 < Li.length:=(ji.1 hi0).1
 have hb1:i1 < Li.length:=(ji.1 hi1).1
 simp only [List.all_cons,List.all_nil,Bool.and_true,mG,Option.isNone_iff_eq_none] at hsl
 obtain ⟨⟨l0,b0⟩,⟨l1,b1⟩,⟨l2,b2⟩,⟨l3,b3⟩,⟨l4,b4⟩,⟨l5,b5⟩⟩:=hsl
 simp only [List.nodup_cons,iD,List.not_mem_nil,or_false,not_or,not_false_eq_true,List.nodup_nil,and_true] at hnd
 obtain ⟨⟨Oh,Oi,YQ,R4,n05⟩,⟨n12,n13,n14,n15⟩,⟨n23,n24,n25⟩,⟨n34,n35⟩,n45⟩:=hnd
 have aib:zero.length=sz:=AJ hzl
 have aD0:sz<=1000:=Nat.le_of_ble_eq_true hsz1
 obtain ⟨pr,hpr⟩:∃ pr:Nat->ah->GH->Prop,pr=(fun i v G=>match i with
   | 0=>v=.slice A0 n c0|1=>v=.agg news.toArray|2=>v=.int .i64 (n:Int)|3=>∃ b,v=.slice (some ⟨b,0,none⟩) 1 1∧G b=some (.cells zero.toArray tE (0,0))|_=>True):=⟨_,O⟩
 have jr:∀ i v (G G':GH),(∀ k o,G k=some o->G' k=some o)->pr i v G->pr i v G':=by
  intro i v G G' hm h
  subst hpr
  match i,h with
  | 0,h=>exact h
  | 1,h=>exact h
  | 2,h=>exact h
  | 3,h=>obtain ⟨b,h1,h2⟩:=h;exact ⟨b,h1,hm _ _ h2⟩
  | _+4,h=>exact trivial
 have hset:Li.set i0 (bp,.cells #[.slice A0 n c0] tS (0,0))=Li:=by
  have e:=(ji.1 hi0).2
  rw [<- e];exact List.set_getElem_self _
 have auA:(Li++Lo)[i0]?=some (bp,Obj.cells #[.slice A0 n c0] tS (0,0)):=by rw [sZ hb0];exact hi0
 have auB:(Li++Lo)[i1]?=some (bx,Obj.cells news.toArray tE (0,0)):=by rw [sZ hb1];exact hi1
 refine aob hm aaV [4,5,6,7] hk (by simp [ZQ,PG,List.range,List.range.loop]) pr
  (fun S a w=>∃ G1 v gG xs',(∀ k o,G k=some o->G1 k=some o)∧St N D w0 F G0 G1 (Li.set i0 (bp,.cells #[if S 7 then v else .slice A0 n c0] tS (0,0))++gG) T a w∧a.tmps[s0]?=some (.slice A0 n c0)∧a.tmps[s1]?=some (.agg news.toArray)∧a.tmps[s2]?=some (.int .i64 (n:Int)) ∧
   (S 4=false->v=.slice A0 n c0∧gG=Lo∧S 7=false∧∃ b,a.tmps[s3]?=some (.slice (some ⟨b,0,none⟩) 1 1)∧G1 b=some (.cells zero.toArray tE (0,0))) ∧
   (S 4=true->bV tE sz v (n+1) xs' gG∧xs'=xs++(if S 6 then news else zero)∧a.tmps[s4]?=some v∧(S 5=true->∃ b c,v=.slice (some ⟨b,0,none⟩) (n+1) c∧a.tmps[s5]?=some (.pointer (some ⟨b,n*sz,none⟩))))) H ?_ ?_ ?_ ?_
 ·refine bK ?_ (bK ?_ (bK ?_ (bK ?_ (bK ?_ (bK ?_ (bK ?_ (bK ?_ dG)))))))
  ·intro S a w G1 _ aV hc hG HT hv
   have Hb:=HT.full
   refine tQ htS Hb wn (by show lk _ _=_;rw [Iq,hp0]) (Hb.hp.tO i0 auA O) b0 ?_
   intro a' H
   refine aF ⟨O,?_⟩
   exact pQ (Qq hok (by show _ < 8;decide)) jr rfl rfl HT Hb hG hv (fun _ _ h=>h) (by subst hpr;rfl) H
  ·intro S a w G1 _ aV hc hG HT hv
   have Hb:=HT.full
   refine bq ht (cs:=news) Hb wn (by show lk _ _=_;rw [Iq,hp1]) hnl (Hb.hp.dD i1 auB (by simp)) b1 ?_
   intro a' H
   refine aF ⟨O,?_⟩
   exact pQ (Qq hok (by show _ < 8;decide)) jr rfl rfl HT Hb hG hv (fun _ _ h=>h) (by subst hpr;rfl) H
  ·intro S a w G1 _ aV hc hG HT hv
   obtain ⟨u,hu,hpu⟩:=hv 0 s0 (hc 0 Q1) O
   obtain rfl:u=.slice A0 n c0:=by subst hpr;exact hpu
   have Hb:=(HT.fV hu).full
   refine ZC hs Hb wn (by show lk _ _=_;rw [Iq,lI]) b2 ?_
   intro a' H
   refine aF ⟨O,?_⟩
   exact pQ (Qq hok (by show _ < 8;decide)) jr rfl rfl HT Hb hG hv (fun _ _ h=>h) (by subst hpr;rfl) H
  ·intro S a w G1 _ aV hc hG HT hv
   have Hb:=HT.full
   have hzz:((List.range (1*sz)).map (fun i=>zero[i % zero.length]!)).length=sz:=by simp
   refine iG (xs:=[(0,.const zv)]) (vs:=[(0,zv)]) (vs':=[(0,zero)]) hs ht _ zero Hb wn O (by simp [hzc]) (by rw [Nat.one_mul];exact hsz1) (by rw [Nat.one_mul];exact xB (by have:0 < sz:=Eq.mp Nat.blt_eq hsz0;omega)) rfl (fun i q h=>by match i,h with|0,h=>exact h|n+1,h=>simp at h) ?_ b3 ?_
   ·have e1:Nat.beq zero.length sz=true:=hzl
    have e2:Nat.ble (0*sz+zero.length) ((List.range (1*sz)).map (fun i=>zero[i % zero.length]!)).length=true:=by rw [hzz,aib,Nat.zero_mul,fO];exact Eq.mpr Nat.ble_eq (fD _)
    have e3:∀ z:List ah,Nat.ble (0*sz+zero.length) z.length=true->z.length=sz->zS ((List.range 1).map fun i=>(i*sz,sz)) z [(0,zero)]=some zero:=by
     intro z h1 h2
     have h3:((List.range 1).map fun i=>(i*sz,sz))[0]?=some (0*sz,sz):=rfl
     simp only [zS,h3,e1,h1,Bool.and_self,cond_true]
     rw [IG _ _ _ V,Nat.zero_mul,List.take_zero,gJ,fO,ow V,jV]
    exact e3 _ e2 hzz
   ·intro b a' w' hbs H
    obtain ⟨G2,hm2,hb,H⟩:=H.fJ
    refine aF ⟨O,?_⟩
    exact pQ (Qq hok (by show _ < 8;decide)) jr rfl rfl HT Hb hG hv hm2 (by subst hpr;exact ⟨b,O,hb⟩) H
  ·intro _ _ _ _ hB;exact absurd hB Q1
  ·intro _ _ _ _ hB;exact absurd hB Q1
  ·intro _ _ _ _ hB;exact absurd hB Q1
  ·intro _ _ _ _ hB;exact absurd hB Q1
 ·intro S a w G1 hG HS hv hB
  obtain ⟨u0,hu0,awf⟩:=hv 0 s0 Q1 O
  obtain ⟨u1,hu1,hp1'⟩:=hv 1 s1 Q1 O
  obtain ⟨u2,hu2,awh⟩:=hv 2 s2 Q1 O
  obtain ⟨u3,hu3,awi⟩:=hv 3 s3 Q1 O
  subst hpr
  obtain rfl:u0=.slice A0 n c0:=awf
  obtain rfl:u1=.agg news.toArray:=hp1'
  obtain rfl:u2=.int .i64 (n:Int):=awh
  obtain ⟨b,rfl,hb⟩:∃ b,u3=.slice (some ⟨b,0,none⟩) 1 1∧G1 b=some (.cells zero.toArray tE (0,0)):=awi
  have h7:=hB 7 Q1
  have h4:=hB 4 Q1
  refine ⟨G1,_,Lo,xs,hG,?_,hu0,hu1,hu2,fun _=>⟨O,O,h7,b,hu3,hb⟩,fun h=>by rw [h4] at h;cases h⟩
  rw [h7,ay Q1,hset];exact HS
 ·refine bK ?_ (bK ?_ (bK ?_ (bK ?_ (bK ?_ (bK ?_ (bK ?_ (bK ?_ dG)))))))
  ·intro _ _ _ hB;exact absurd hB Q1
  ·intro _ _ _ hB;exact absurd hB Q1
  ·intro _ _ _ hB;exact absurd hB Q1
  ·intro _ _ _ hB;exact absurd hB Q1
  ·rintro S a w - h4 - hd ⟨G1,v,gG,xs',hG,HS,h0,h1,h2,hA,-⟩
   obtain ⟨rfl,rfl,h7,b,h3,hb⟩:=hA h4
   rw [h7,ay Q1] at HS
   have H:=(((HS.fV h0).fV h1).fV h2).fV h3
   refine mh (news:=zero) hs ht hzl hsz0 H wn (by show lk _ _=_;rw [gy (Ne.symm YQ),gy (Ne.symm Oi),gy (Ne.symm Oh),lI]) (by show lk _ _=_;rw [lI]) hrow (by rw [Nat.one_mul];exact aib) (fun j u hj=>H.hp.aI (by unfold aI;rw [hb];simpa using hj)) hz1 h63 hb' b4 ?_
   intro v' Mc a' w' hrow' H'
   refine aF ⟨O,G1,v',Mc,xs++zero,hG,?_,?_,?_,?_,fun h=>?_,fun _=>⟨hrow',?_,?_,fun h=>?_⟩⟩
   ·rw [show (dO S 4) 7=false from h7,ay Q1]
    exact ((((H'.yH (by rw [gy n34,gy n24,gy n14,gy R4];exact l4)).yH (by rw [gy n23,gy n13,gy YQ];exact l3)).yH (by rw [gy n12,gy Oi];exact l2)).yH (by rw [gy Oh];exact l1)).yH l0
   ·exact H'.get s0 _ (by rw [gy (Ne.symm R4),gy (Ne.symm YQ),gy (Ne.symm Oi),gy (Ne.symm Oh),lI])
   ·exact H'.get s1 _ (by rw [gy (Ne.symm n14),gy (Ne.symm n13),gy (Ne.symm n12),lI])
   ·exact H'.get s2 _ (by rw [gy (Ne.symm n24),gy (Ne.symm n23),lI])
   ·exact absurd h (by simp [dO])
   ·rw [show (dO S 4) 6=false from hd 6 (show 6 < 8 by decide) Q1];rfl
   ·exact H'.get s4 _ (lI _ _ _)
   ·exact absurd h (by rw [show (dO S 4) 5=S 5 from rfl,hd 5 (show 5 < 8 by decide) Q1];decide)
  ·rintro S a w - h5 hc hd ⟨G1,v,gG,xs',hG,HS,h0,h1,h2,-,hA⟩
   obtain ⟨hrow',hxs,hs4,-⟩:=hA (hc 4 Q1)
   obtain ⟨b,cap,hv,-⟩:∃ b cap,v=.slice (some ⟨b,0,none⟩) (n+1) cap∧True:=by
    rcases hrow'.2 with ⟨_,h,_⟩|⟨b,cap,cur,h,_⟩
    ·cases h
    ·exact ⟨b,cap,h,aB⟩
   subst hv
   have H:=(((HS.fV h0).fV h1).fV h2).fV hs4
   refine Ld hs ht n H wn (by show lk _ _=_;rw [lI]) (by show lk _ _=_;rw [gy (Ne.symm n24),lI]) O (Nat.lt_succ_self n) b5 ?_
   intro a' H'
   rw [fO] at H'
   refine aF ⟨O,G1,_,gG,xs',hG,?_,?_,?_,?_,fun h=>?_,fun _=>⟨hrow',hxs,?_,fun h=>⟨b,cap,O,?_⟩⟩⟩
   ·exact ((((H'.yH (by rw [gy n45,gy n25,gy n15,gy n05];exact l5)).yH (by rw [gy n24,gy n14,gy R4];exact l4)).yH (by rw [gy n12,gy Oi];exact l2)).yH (by rw [gy Oh];exact l1)).yH l0
   ·exact H'.get s0 _ (by rw [gy (Ne.symm n05),gy (Ne.symm R4),gy (Ne.symm Oi),gy (Ne.symm Oh),lI])
   ·exact H'.get s1 _ (by rw [gy (Ne.symm n15),gy (Ne.symm n14),gy (Ne.symm n12),lI])
   ·exact H'.get s2 _ (by rw [gy (Ne.symm n25),gy (Ne.symm n24),lI])
   ·exact absurd h (by rw [show (dO S 5) 4=S 4 from rfl,hc 4 Q1];decide)
   ·exact H'.get s4 _ (by rw [gy (Ne.symm n45),lI])
   ·exact H'.get s5 _ (lI _ _ _)
  ·rintro S a w - h6 hc hd ⟨G1,v,gG,xs',hG,HS,h0,h1,h2,-,hA⟩
   obtain ⟨hrow',hxs,hs4,h5⟩:=hA (hc 4 Q1)
   obtain ⟨b,cap,rfl,hs5⟩:=h5 (hc 5 Q1)
   rw [h6,ay Q1] at hxs
   subst hxs
   obtain ⟨cur,hLo⟩:∃ cur,gG=[(b,.cells cur tE (0,0))]:=by
    rcases hrow'.2 with ⟨h,_⟩|⟨b',cap',cur,h,h',_⟩
    ·cases h
    ·cases h;exact ⟨cur,h'⟩
   subst hLo
   obtain ⟨hle,hov⟩:=hrow'.over hrow.1 hnl
   have H:=(HS.fV h1).fV hs5
   refine zy ht Li.length (b:=b) (o:=n*sz) (c:=cur.toList) (e:=tE) (vs:=news) _ H wn (by show lk _ _=_;rw [lI]) (by rw [qj (by simp),List.length_set,Nat.sub_self];simp) (by show lk _ _=_;rw [gy (Ne.symm n15),lI]) O (by rw [hnl];exact Nat.beq_refl sz) hn1 (Eq.mpr Nat.ble_eq hle) O ?_
   intro w' H'
   refine aF ⟨O,G1,_,_,_,hG,?_,h0,h1,h2,fun h=>?_,fun _=>⟨hov,?_,hs4,fun _=>⟨b,cap,O,hs5⟩⟩⟩
   ·have H2:=(H'.yH (by rw [gy n15];exact l5)).yH l1
    rw [List.set_append_right _ _ (by simp),List.length_set,Nat.sub_self] at H2
    exact H2
   ·exact absurd h (by rw [show (dO S 6) 4=S 4 from rfl,hc 4 Q1];decide)
   ·rw [show (dO S 6) 6=true from rfl];rfl
  ·rintro S a w - h7 hc hd ⟨G1,v,gG,xs',hG,HS,h0,h1,h2,-,hA⟩
   obtain ⟨hrow',hxs,hs4,h5⟩:=hA (hc 4 Q1)
   obtain ⟨A',cap,rfl,-,-⟩:=hrow'.shape
   rw [h7,ay Q1,hset] at HS
   have H:=HS.fV hs4
   refine zy htS i0 (c:=[.slice A0 n c0]) (vs:=[.slice A' (n+1) cap]) _ H wn (by show lk _ _=_;rw [gy (fun e=>by subst e;rw [hp0] at l4;cases l4)];exact hp0) (by rw [sZ hb0];exact hi0) (by show lk _ _=_;rw [lI]) O O O O O ?_
   intro w' H'
   refine aF ⟨O,G1,_,gG,xs',hG,?_,h0,h1,h2,fun h=>?_,fun _=>⟨hrow',hxs,hs4,h5⟩⟩
   ·have H2:=H'.yH l4
    rw [List.set_append_left _ _ hb0] at H2
    rw [show (dO S 7) 7=true from rfl]
    exact H2
   ·exact absurd h (by rw [show (dO S 7) 4=S 4 from rfl,hc 4 Q1];decide)
 ·rintro S a w hall ⟨G1,v,gG,xs',hG,HS,h0,h1,h2,-,hA⟩
  obtain ⟨hrow',hxs,hs4,h5⟩:=hA (hall 4 (show 4 < 8 by decide))
  rw [hall 6 (show 6 < 8 by decide)] at hxs
  rw [hall 7 (show 7 < 8 by decide)] at HS
  subst hxs
  exact hend v gG G1 a w hG hrow' HS
end
end
section
section
variable {N:Nat} {D:List Deferred} {w0:World} {F:Nat->Prop} {G0 G:GH} {L:OL} {T T':List (Nat × ah)}
variable {r:Option Nat} {P:Program} {Q:Exit->Act->World->Prop} {l:List Oper} {a a':Act} {w w':World} {ε:Type}
def Jh (l:List Oper) (pr:ε->Nat->ah->Prop) (T:List (Nat × ah)) (S:Nat->Bool) (E:ε) (T':List (Nat × ah)):Prop :=
 (∀ t v,lk T t=some v->lk T' t=some v)∧∀ i d,S i=true->dZ l i=some d->∃ v,lk T' d=some v∧pr E i v
theorem Jh.put {pr:ε->Nat->ah->Prop} {S:Nat->Bool} {E E':ε} {i d:Nat} {v:ah} (h:Jh l pr T S E T') (hok:V5 l T=true) (hi:dZ l i=some d) (hv:pr E' i v) (hE:∀ j u,j≠i->pr E j u->pr E' j u):Jh l pr T (dO S i) E' ((d,v) :: T'):=by
 have hil:=wG hi
 have hok1:=lS.1 hok i (qD.2 hil)
 rw [oz,hi] at hok1
 simp only [mG,Option.isNone_iff_eq_none,lS,qD] at hok1
 refine ⟨fun t u ht=>?_,fun j e hj he=>?_⟩
 ·rw [gy (fun e=>by subst e;rw [hok1.1] at ht;cases ht)];exact h.1 t u ht
 ·by_cases hji:j=i
  ·subst hji;rw [hi] at he;cases he;exact ⟨v,lI _ _ _,hv⟩
  ·have hSj:S j=true:=by unfold dO at hj;rwa [ay hji] at hj
   obtain ⟨u,hu1,hu2⟩:=h.2 j e hSj he
   have hne:d≠e:=by
    intro e';subst e'
    have h2:=hok1.2 j (wG he)
    have hb:Nat.beq i j=false:=xB (fun h=>hji h.symm)
    rw [hb,he] at h2
    simp at h2
   exact ⟨u,by rw [gy hne];exact hu1,hE j u hji hu2⟩
theorem Jh.add {pr:ε->Nat->ah->Prop} {S:Nat->Bool} {E:ε} (h:Jh l pr T S E T') {t:Nat} {u:ah} (hu:lk T' t=some u):Jh l pr T S E ((t,u) :: T'):=by
 have e:∀ s v,lk T' s=some v->lk ((t,u) :: T') s=some v:=fun s v hs=>by
  by_cases hst:t=s
  ·subst hst;rw [hu] at hs;cases hs;exact lI _ _ _
  ·rw [gy hst];exact hs
 exact ⟨fun s v hs=>e s v (h.1 s v hs),fun i d hi hd=>by
  obtain ⟨v,h1,h2⟩:=h.2 i d hi hd
  exact ⟨v,e d v h1,h2⟩⟩
end
end
section
section
variable {N:Nat} {D:List Deferred} {w0:World} {F:Nat->Prop} {G0 G G1 G2:GH} {L L1:OL} {T Xs:List (Nat × ah)}
variable {r:Option Nat} {P:Program} {Q:Exit->Act->World->Prop} {l:List Oper} {a a':Act} {w w':World}
theorem MH {id:Nat} (hm:P.follows .mixedOrders=true) (bS:List (List Nat)) (B:List Nat) (hk:yL l bS=true) (hB:zB l bS B=true) (X:(Nat->Bool)->Act->World->Prop) (h0:X (fun _=>false) a w.drew)
  (hstep:∀ i o S a w,l[i]?=some o->B.contains i=false->S i=false->(∀ j∈bS.getD i [],S j=true)->(∀ j,j < l.length->i∈bS.getD j []->S j=false)->X S a w->WL r P l.toArray (fun e a' w'=>e=.normal∧X (dO S i) a' w') [o] a w)
  (hend:∀ S a w,(∀ i,i < l.length->B.contains i=false->S i=true)->(∀ i,B.contains i=true->S i=false)->X S a w->WL r P l.toArray (fun e a w=>e=.normal∧Q .normal a w) (qK l B) a w):WP r P (.region id l.toArray true) Q a w:=by
 have hB1:∀ p b,B[p]?=some b->b < l.length∧∀ i,i < l.length->(B.contains i=false∨(B.take p).contains i=true)->i∈bS.getD b []:=by
  intro p b hp
  simp only [zB,mG] at hB
  have h1:=lS.1 hB.1 p (qD.2 (ji.1 hp).1)
  rw [hp] at h1
  simp only [mG,lS,qD] at h1
  refine ⟨Eq.mp Nat.blt_eq h1.1,fun i hi hor=>?_⟩
  have h2:=h1.2 i hi
  rcases hor with h3|h3
  ·have h4:i∉B:=by simpa using h3
   simpa [h4] using h2
  ·have h4:i∈B.take p:=by simpa using h3
   simpa [h4] using h2
 have hB2:∀ i,i < l.length->B.contains i=false->∀ j∈bS.getD i [],B.contains j=false:=by
  intro i hi hb j hj
  simp only [zB,mG] at hB
  have h1:=lS.1 hB.2 i (qD.2 hi)
  rw [hb] at h1
  simp only [Bool.false_or,lS] at h1
  simpa using h1 j hj
 refine VL hm bS hk (fun S a w=>((∀ i,B.contains i=true->S i=false)∧X S a w) ∨
   ∃ p,(∀ i,i < l.length->B.contains i=false->S i=true)∧(∀ i,(B.take p).contains i=true->S i=true)∧(∀ q b,B[q]?=some b->p<=q->S b=false)∧WL r P l.toArray (fun e a w=>e=.normal∧Q .normal a w) (qK l (B.drop p)) a w)
  (.inl ⟨fun _ _=>rfl,h0⟩) ?_ ?_
 ·intro i o S a w ho hX aV kM hdesc
  have hil:i < l.length:=(ji.1 ho).1
  by_cases hbi:B.contains i=true
  ·-- an operation of the tail: all that stands ahead of it is done
   obtain ⟨p0,hp0⟩:=List.getElem?_of_mem (by simpa using hbi:i∈B)
   have hall:∀ j,j < l.length->B.contains j=false->S j=true:=fun j hj hb=>kM j ((hB1 p0 i hp0).2 j hj (.inl hb))
   have X5:∃ p,(∀ i,(B.take p).contains i=true->S i=true)∧(∀ q b,B[q]?=some b->p<=q->S b=false)∧WL r P l.toArray (fun e a w=>e=.normal∧Q .normal a w) (qK l (B.drop p)) a w:=by
    rcases hX with ⟨h1,hD⟩|⟨p,_,h2,h3,h4⟩
    ·exact ⟨0,by simp,fun q b hq _=>h1 b (by simpa using lQ hq),hend S a w hall h1 hD⟩
    ·exact ⟨p,h2,h3,h4⟩
   obtain ⟨p,h2,h3,h4⟩:=X5
   -- i is the next one
   have hpp:p<=p0:=by
    rcases Nat.lt_or_ge p0 p with hlt|hge
    ·have:(B.take p).contains i=true:=by
      simp only [xq]
      exact lQ (i:=p0) (by rw [sV,aH hlt];exact hp0)
     rw [h2 i this] at aV;cases aV
    ·exact hge
   have Ia:p < B.length:=by have:=(ji.1 hp0).1;omega
   have hbp:B[p]?=some B[p]:=fF Ia
   have heq:B[p]=i:=by
    rcases Nat.lt_or_ge p p0 with hlt|hge
    ·exfalso
     have hin:B[p]∈bS.getD i []:=(hB1 p0 i hp0).2 _ (hB1 p _ hbp).1 (.inr (by
      simp only [xq]
      exact lQ (i:=p) (by rw [sV,aH hlt];exact hbp)))
     have:=kM _ hin
     rw [h3 p _ hbp (fD _)] at this;cases this
    ·have:p=p0:=by omega
     subst this
     rw [hbp] at hp0;simpa using hp0
   have hdrop:B.drop p=i :: B.drop (p+1):=by rw [mW Ia,heq]
   have hops:qK l (B.drop p)=o :: qK l (B.drop (p+1)):=by rw [hdrop];simp [qK,ho]
   rw [hops] at h4
   refine alU (fun a' w' h5=>.inr ⟨p+1,fun j hj hb=>?_,fun j hj=>?_,fun q b hq hpq=>?_,h5⟩) h4
   ·unfold dO;split
    ·rfl
    ·exact hall j hj hb
   ·unfold dO;split
    ·rfl
    ·rename_i hne
     refine h2 j ?_
     simp only [xq] at hj |-
     rw [jk Ia,iP] at hj
     rcases hj with hj|hj
     ·exact hj
     ·simp only [qX] at hj;exact absurd (hj.trans heq) hne
   ·unfold dO
    rw [ay ?_]
    ·exact h3 q b hq V
    ·rintro rfl
     -- i would stand twice in B: it would come ahead of itself
     have h6:=(hB1 q b hq).2 b (hB1 q b hq).1 (.inr (by
      simp only [xq]
      exact lQ (i:=p) (by rw [sV,aH V];rw [hbp,heq])))
     rw [kM _ h6] at aV;cases aV
  ·have Bq:B.contains i=false:=by cases h:B.contains i with|false=>rfl|true=>exact absurd h hbi
   rcases hX with ⟨h1,hX⟩|⟨p,h0,_,_,_⟩
   ·refine pF (fun e a' w' ⟨he,hD⟩=>⟨he,.inl ⟨fun j hj=>?_,hD⟩⟩) (hstep i o S a w ho Bq aV kM hdesc hX)
    unfold dO
    rw [ay (by rintro rfl;rw [Bq] at hj;cases hj)]
    exact h1 j hj
   ·rw [h0 i hil Bq] at aV;cases aV
 ·intro S a w hall hX
  rcases hX with ⟨h1,hD⟩|⟨p,_,_,h3,h4⟩
  ·have hnil:B=[]:=by
    cases B with
    | nil=>rfl
    | cons b B=>have h5:=h1 b (by simp);rw [hall b (hB1 0 b O).1] at h5;cases h5
   subst hnil
   exact (hend S a w (fun j hj _=>hall j hj) h1 hD).2
  ·have hnil:B.drop p=[]:=by
    cases hd:B.drop p with
    | nil=>rfl
    | cons b B' =>
     have hb:B[p]?=some b:=by
      have:=dh (fun x:List Nat=>x[0]?) hd
      simpa using this
     have h5:=h3 p b hb (fD _)
     rw [hall b (hB1 p b hb).1] at h5;cases h5
   rw [hnil] at h4
   exact h4.2
theorem aev {pr:Nat->ah->GH->Prop} {S:Nat->Bool} {i d:Nat} {v:ah} (hok:oz l T i=true) (hi:dZ l i=some d) 
  (HT:St N D w0 F G0 G1 L T a w) (Hb:St N D w0 F G0 G1 L (Xs++full N a) a w) (hG:∀ k o,G k=some o->G1 k=some o) (hv:∀ j d,j≠i->S j=true->dZ l j=some d->∃ v,a.tmps[d]?=some v∧pr j v G1)
  (hp:pr i v G1) (H:St N D w0 F G0 G1 L1 ((d,v) :: (Xs++full N a)) a' w'):DX N D w0 F G0 G L1 T l pr (dO S i) a' w':=by
 have hil:i < l.length:=wG hi
 have hok1:=hok
 rw [oz,hi] at hok1
 simp only [mG,Option.isNone_iff_eq_none,lS,qD] at hok1
 have hsame:∀ t,t≠d->a'.tmps[t]?=a.tmps[t]?:=by
  intro t ht
  by_cases hlt:t < N
  ·have h1:∃ u,lk (Xs++full N a) t=some u:=by
    rw [Iq]
    cases lk Xs t with
    | some u=>exact ⟨u,O⟩
    | none=>exact ⟨_,RS a hlt⟩
   obtain ⟨u,hu⟩:=h1
   rw [Hb.get t u hu,H.get t u (by rw [gy (Ne.symm ht)];exact hu)]
  ·rw [Array.getElem?_eq_none (by rw [H.nH];omega),Array.getElem?_eq_none (by rw [Hb.nH];omega)]
 refine ⟨G1,hG,⟨H.nH,fun t u ht=>?_,H.tu,H.hp⟩,fun j e hj he=>?_⟩
 ·rw [hsame t (fun e=>by rw [e,hok1.1] at ht;cases ht)]
  exact HT.get t u ht
 ·by_cases hji:j=i
  ·subst hji
   rw [hi] at he
   simp only [ou] at he
   subst he
   exact ⟨v,H.get d v (lI _ _ _),hp⟩
  ·have hSj:S j=true:=by unfold dO at hj;rwa [ay hji] at hj
   obtain ⟨u,hu1,hu2⟩:=hv j e hji hSj he
   have hne:e≠d:=by
    intro e'
    subst e'
    have h2:=hok1.2 j (wG he)
    rw [xB (fun h=>hji h.symm),he] at h2
    simp at h2
   exact ⟨u,by rw [hsame e hne];exact hu1,hu2⟩
end
end
section
structure Jg (P:Program) (t:TypeId):Prop where
 h:(P.info? t).map (fun j=>j.size == 0)=some false
theorem Jg.parts {P:Program} {t:TypeId} (h:Jg P t):∃ j,P.info? t=some j∧j.size≠0:=by
 obtain ⟨j,h1,h2⟩:=nG.1 h.h
 exact ⟨j,h1,by simpa using h2⟩
structure U8 (P:Program) (e:TypeId):Prop where
 h:(P.info? e).map (fun i=>(i.zero,i.size,i.bytes))=some (some (.int .u8 0),1,1)
section
variable {N:Nat} {D:List Deferred} {w0:World} {F:Nat->Prop} {G0 G:GH} {L Li Lo:OL} {T:List (Nat × ah)}
variable {r:Option Nat} {P:Program} {ops:Array Oper} {Q:Exit->Act->World->Prop} {rest:List Oper} {a:Act} {w:World}
variable {d:Nat} {ty:TypeId} {pos:String} {aL:Array Edge} {g:Option (Nat × Bool)}
theorem Hp.shape (h:Hp w0 F G0 G L w) {i b:Nat} {c:Array ah} {e:TypeId} {fz:Nat × Nat} (hi:L[i]?=some (b,.cells c e fz)):w.shape? b=some (e,c.size):=by
 have:=h.own _ (lQ hi)
 simp only at this
 simp [World.shape?,this]
theorem akx {t u te e:TypeId} {x:Operand} {b o:Nat} {c:Array ah} {fz:Nat × Nat} (hs:P.underlying t=some (.pointer te)) (hu:P.underlying u=some .unsafePointer) (hj:Jg P te) (H:St N D w0 F G0 G L T a w) (hw:Region.wanted ⟨some d,.convert t u x,ty,pos,aL,g⟩ (yielded ops a.tmps)=true)
  (hx:ev T x=some (.pointer (some ⟨b,o,none⟩))) (i:Nat) (hi:L[i]?=some (b,.cells c e fz)) (ho:Nat.blt o c.size=true) (hd:Nat.blt d N=true)
  (k:∀ a',St N D w0 F G0 G L ((d,.pointer (some ⟨b,o,none⟩)) :: T) a' w->WL r P ops Q rest a' w):WL r P ops Q (⟨some d,.convert t u x,ty,pos,aL,g⟩ :: rest) a w:=by
 obtain ⟨j,h1,h2⟩:=hj.parts
 refine fQ (v:=.pointer (some ⟨b,o,none⟩)) (w':=w) hw O ?_ (k _ (H.put hd _ H.hp))
 have h:=Lib.run_to_unsafe (P:=P) w ⟨b,o,none⟩ hs hu h1 h2 (H.hp.shape hi) (Eq.mp Nat.blt_eq ho)
 simp only [execOp,H.ev hx,dM,h,kW,rW]
theorem akr {t u te e:TypeId} {x:Operand} {b o:Nat} {c:Array ah} {fz:Nat × Nat} (hs:P.underlying t=some .unsafePointer) (hu:P.underlying u=some (.pointer te)) (hj:Jg P te) (H:St N D w0 F G0 G L T a w) (hw:Region.wanted ⟨some d,.convert t u x,ty,pos,aL,g⟩ (yielded ops a.tmps)=true)
  (hx:ev T x=some (.pointer (some ⟨b,o,none⟩))) (i:Nat) (hi:L[i]?=some (b,.cells c e fz)) (hl:liesAt P P.depth e (c.size / P.cellsOf e) o te 1=true) (hd:Nat.blt d N=true)
  (k:∀ a',St N D w0 F G0 G L ((d,.pointer (some ⟨b,o,none⟩)) :: T) a' w->WL r P ops Q rest a' w):WL r P ops Q (⟨some d,.convert t u x,ty,pos,aL,g⟩ :: rest) a w:=by
 obtain ⟨j,h1,h2⟩:=hj.parts
 refine fQ (v:=.pointer (some ⟨b,o,none⟩)) (w':=w) hw O ?_ (k _ (H.put hd _ H.hp))
 have h:=Lib.run_from_unsafe (P:=P) w ⟨b,o,none⟩ hs hu h1 (H.hp.shape hi) hl
 simp only [execOp,H.ev hx,dM,h,kW,rW]
theorem akv {f:FuncId} {xs:List Operand} {v:ah} {ts:Array TypeId} (hcf:∀ (w:World),(callFunc f #[v]).run P w=.ok (.value v) w) (H:St N D w0 F G0 G L T a w) (hw:Region.wanted ⟨some d,.call { callee:=.value (.func f),args:=xs.toArray,argTypes:=ts },ty,pos,aL,g⟩ (yielded ops a.tmps)=true)
  (hx:evs T xs=some [v]) (hd:Nat.blt d N=true)
  (k:∀ a',St N D w0 F G0 G L ((d,v) :: T) a' w->WL r P ops Q rest a' w):WL r P ops Q (⟨some d,.call { callee:=.value (.func f),args:=xs.toArray,argTypes:=ts },ty,pos,aL,g⟩ :: rest) a w:=by
 refine fQ (v:=v) (w':=w) hw O ?_ (k _ (H.put hd _ H.hp))
 have h1:=H.evs hx
 simp [execOp,resolve,Act.eval,Deferred.ofValue,invoke,dM,h1,hcf]
theorem aAC {f:FuncId} {fn:Func} (hf:P.funcs[f]?=some fn) (hname:(fn.name == "runtime.NumGoroutine")=false) (hb:fn.body.isNone=true) (hn:Extern.findNext fn=none) (he:Extern.find fn=some Extern.AbiNoEscape.same) (v:ah) (w:World):(callFunc f #[v]).run P w=.ok (.value v) w:=by
 rw [run_callFunc_extern hf hname hb hn he,Lib.run_noEscape]
 rfl
theorem SV {t u te:TypeId} (hs:P.underlying t=some (.pointer te)) {x:Operand} {p:Option Addr} (H:St N D w0 F G0 G L T a w) (hw:Region.wanted ⟨some d,.binOp .eql t x (.const (.pointer none)) u,ty,pos,aL,g⟩ (yielded ops a.tmps)=true) (hx:ev T x=some (.pointer p)) (hd:Nat.blt d N=true)
  (k:∀ a',St N D w0 F G0 G L ((d,.bool p.isNone) :: T) a' w->WL r P ops Q rest a' w):WL r P ops Q (⟨some d,.binOp .eql t x (.const (.pointer none)) u,ty,pos,aL,g⟩ :: rest) a w:=by
 refine fQ (v:=.bool p.isNone) (w':=w) hw O ?_ (k _ (H.put hd _ H.hp))
 have h1:(Op.equal t (.pointer p) (.pointer none)).run P w=.ok p.isNone w:=by
  show (Op.equalIn (9999+1) t (.pointer p) (.pointer none)).run P w=_
  rw [Op.equalIn.eq_2,dM,lC hs]
  cases p <;> simp
 have h2:(do eqGuard .eql t x (.const (.pointer none)) (.pointer p) (.pointer none);binOp .eql t (.pointer p) (.pointer none):Sem ah).run P w=.ok (.bool p.isNone) w:=by
  have e:(do eqGuard .eql t x (.const (.pointer none)) (.pointer p) (.pointer none);binOp .eql t (.pointer p) (.pointer none):Sem ah)=(do pure (.bool (<- Op.equal t (.pointer p) (.pointer none))):Sem ah):=rfl
  rw [e,dM,h1];rfl
 have e0:execOp a.eval ⟨some d,.binOp .eql t x (.const (.pointer none)) u,ty,pos,aL,g⟩=(do pure (.value (<- (do eqGuard .eql t x (.const (.pointer none)) (.pointer p) (.pointer none);binOp .eql t (.pointer p) (.pointer none):Sem ah))):Sem Next):=by
  simp only [execOp,H.ev hx];rfl
 rw [e0,dM,h2]
 rfl
theorem aku {t u te:TypeId} (hs:P.underlying t=some (.pointer te)) (hj:Jg P te) {x y:Operand} {p:Addr} (H:St N D w0 F G0 G L T a w) (hw:Region.wanted ⟨some d,.binOp .neq t x y u,ty,pos,aL,g⟩ (yielded ops a.tmps)=true) (hx:ev T x=some (.pointer (some p))) (hy:ev T y=some (.pointer (some p))) (hd:Nat.blt d N=true)
  (k:∀ a',St N D w0 F G0 G L ((d,.bool false) :: T) a' w->WL r P ops Q rest a' w):WL r P ops Q (⟨some d,.binOp .neq t x y u,ty,pos,aL,g⟩ :: rest) a w:=by
 obtain ⟨j,h1,h2⟩:=hj.parts
 refine fQ (v:=.bool false) (w':=w) hw O ?_ (k _ (H.put hd _ H.hp))
 have h:=Lib.run_neq_ptr_same (P:=P) (w:=w) p hs h1
 simp only [execOp,H.ev hx,H.ev hy]
 simp [dM,eqGuard,h]
theorem aAN {t u e:TypeId} (hs:P.underlying t=some (.slice e)) (hu:P.underlying u=some .string) (ht:U8 P e) {x y:Operand} {v:ah} {n:Nat} {xs:List ah} {s:ByteArray} (H:St N D w0 F G0 G (Li++Lo) T a w)
  (hw:Region.wanted ⟨some d,.call { callee:=.builtin .append,args:=#[x,y],argTypes:=#[t,u] },ty,pos,aL,g⟩ (yielded ops a.tmps)=true) (hx:ev T x=some v) (hy:ev T y=some (.string s)) (hrow:bV e 1 v n xs Lo)
  (h63:n+s.size<=140737488355328) (hd:Nat.blt d N=true)
  (k:∀ v' gG a' w',bV e 1 v' (n+s.size) (xs++Lib.strCells s) gG->St N D w0 F G0 G (Li++gG) ((d,v') :: T) a' w'->WL r P ops Q rest a' w') :
  WL r P ops Q (⟨some d,.call { callee:=.builtin .append,args:=#[x,y],argTypes:=#[t,u] },ty,pos,aL,g⟩ :: rest) a w:=by
 obtain ⟨i,hi,hz⟩:=nG.1 ht.h
 simp only [iE] at hz
 have hown:=hrow.owns H.hp
 obtain ⟨v',w2,hrun,r1,r2,r3⟩:=Lib.run_append_own_string (P:=P) (w:=w) 0 t u ty e i hs hu hi hz.1 hz.2.1 hz.2.2 v n xs hown s (by simp only [maxLen];omega) h63 (jL _)
 have hxl:xs.length=n:=by simpa using hrow.1
 have hb:v'.ownBlock=v.ownBlock∨v'.ownBlock=some w.heap.size:=by
  rcases hown.2 with ⟨hv,hn⟩|⟨g,cap,cur,hv,_,hg,hnc,hcm,hcs,_⟩
  ·subst hv
   by_cases hm:s.size=0
   ·left;rw [r3.2 ⟨O,hm⟩]
   ·right
    have hr:=run_append_nil_string (P:=P) w t u ty e i (.int .u8 0) hs hu hi hz.1 s V V (by rw [hz.2.2];omega)
    rw [hrun] at hr
    injection hr with h1 h2
    rw [h1];rfl
  ·subst hv
   by_cases hroom:n+s.size<=cap
   ·left
    have hcs':cur.size=cap:=by simpa using hcs
    have hr:=Lib.run_append_room_string (P:=P) (w:=w) t u ty e i hs hu hi hz.2.1 g n cap cur hg s hroom V
    rw [hrun] at hr
    injection hr with h1 h2
    rw [h1];rfl
   ·right
    have holds:∀ j u,xs[j]?=some u->w.cell? ((⟨g,0,none⟩:Addr).add j)=some u:=hown.cells (g:=g) O
    have hr:=Lib.run_append_grow_string (P:=P) (w:=w) t u ty e i (.int .u8 0) hs hu hi hz.1 ⟨g,0,none⟩ n cap xs (by rw [hz.2.1];simpa using hxl) holds s V V (by rw [hz.2.2];exact growslice_fits V V)
    rw [hrun] at hr
    injection hr with h1 h2
    rw [h1];rfl
 obtain ⟨gG,hr,hch⟩:=adO hrow H.hp.owns r1 r2 hb
 refine fQ (v:=v') (w':=w2) hw O ?_ (k v' gG _ w2 hr (H.put hd v' (H.hp.change hch)))
 simp [execOp,resolve,invoke,builtin,H.ev hx,H.ev hy,dM,hrun]
theorem aA7 {t:TypeId} {x:Operand} {p:Addr} {n c:Nat} (H:St N D w0 F G0 G L T a w) (hw:Region.wanted ⟨some d,.call { callee:=.builtin .unsafeSliceData,args:=#[x],argTypes:=#[t] },ty,pos,aL,g⟩ (yielded ops a.tmps)=true) (hx:ev T x=some (.slice (some p) n c)) (hc:c≠0) (hd:Nat.blt d N=true)
  (k:∀ a',St N D w0 F G0 G L ((d,.pointer (some p)) :: T) a' w->WL r P ops Q rest a' w):WL r P ops Q (⟨some d,.call { callee:=.builtin .unsafeSliceData,args:=#[x],argTypes:=#[t] },ty,pos,aL,g⟩ :: rest) a w:=by
 refine fQ (v:=.pointer (some p)) (w':=w) hw O ?_ (k _ (H.put hd _ H.hp))
 have h:=Lib.run_unsafeSliceData_row (P:=P) (w:=w) #[t] ty p n c hc
 simp [execOp,resolve,invoke,builtin,H.ev hx,dM,h]
theorem aCq {w:World} {b n:Nat} {c:Array ah} {e:TypeId} {fz:Nat × Nat} (h:w.heap[b]?=some (.cells c e fz)) (hn:n≠0):∃ Hf,xk b (.cells c e Hf) w (w.freeze ⟨b,0,none⟩ n):=by
 unfold World.freeze
 rw [ay hn]
 refine ⟨if fz.1 == fz.2 then (0,0+n) else (min fz.1 0,max fz.2 (0+n)),O,O,O,by simp,?_,fun k hk=>?_⟩
 ·simp [Array.getElem?_modify,h]
 ·simp [Array.getElem?_modify,Ne.symm hk]
theorem aky {pt it e:TypeId} {x y:Operand} {b i:Nat} {cur:Array ah} {fz:Nat × Nat} (l:List UInt8) (hp:P.underlying pt=some (.pointer e)) (hc:P.cellsOf e=1) (h0:l≠[]) (h63:l.length<=9223372036854775807) (H:St N D w0 F G0 G L T a w)
  (hw:Region.wanted ⟨some d,.call { callee:=.builtin .unsafeString,args:=#[x,y],argTypes:=#[pt,it] },ty,pos,aL,g⟩ (yielded ops a.tmps)=true) (hx:ev T x=some (.pointer (some ⟨b,0,none⟩))) (hy:ev T y=some (.int .i64 (l.length:Int)))
  (hi:L[i]?=some (b,.cells cur e fz)) (hl:cur.toList.take l.length=Lib.byteCells l) (hd:Nat.blt d N=true)
  (k:∀ Hf a' w',St N D w0 F G0 G (L.set i (b,.cells cur e Hf)) ((d,.string ⟨l.toArray⟩) :: T) a' w'->WL r P ops Q rest a' w'):WL r P ops Q (⟨some d,.call { callee:=.builtin .unsafeString,args:=#[x,y],argTypes:=#[pt,it] },ty,pos,aL,g⟩ :: rest) a w:=by
 have hb:=H.hp.own _ (lQ hi)
 simp only at hb
 have hlen:l.length<=cur.size:=by
  have:=dh List.length hl
  simp only [List.length_take,Lib.byteCells_length,uZ] at this
  omega
 obtain ⟨Hf,hu⟩:=aCq (n:=l.length) hb (by simpa using h0)
 have h:=Lib.run_unsafeString_row (P:=P) w pt it ty e hp hc b cur.size (H.hp.shape hi) l h0 hlen h63 (fun j x hj=>by
  rw [add_lit,fO]
  simp only [World.cell?,hb]
  have h2:(cur.toList.take l.length)[j]?=some (.int .u8 x.toNat):=by rw [hl];simp [Lib.byteCells,hj]
  rw [sV] at h2
  split at h2
  ·simpa using h2
  ·cases h2)
 refine fQ (v:=.string ⟨l.toArray⟩) (w':=w.freeze ⟨b,0,none⟩ l.length) hw O ?_ (k Hf _ _ (H.put hd _ (H.hp.upd hi hu)))
 simp [execOp,resolve,invoke,builtin,H.ev hx,H.ev hy,dM,h]
theorem afY (sz n:Nat):∀ (css:List (List ah)) (k:Nat) (pre z:List ah),pre.length=k*sz->z.length=css.length*sz->(∀ c∈css,c.length=sz)->k+css.length=n ->
  zS ((List.range n).map fun i=>(i*sz,sz)) (pre++z) ((css.zipIdx k).map fun p=>(p.2,p.1))=some (pre++css.flatten)
 | [],k,pre,z,_,hz,_,_=>by
  have:z=[]:=List.eq_nil_of_length_eq_zero (by simpa using hz)
  subst this
  simp [zS]
 | c :: css,k,pre,z,hp,hz,hc,hn=>by
  have hcl:=hc c eT
  simp only [lD] at hz hn
  have hpl:((List.range n).map fun i=>(i*sz,sz))[k]?=some (k*sz,sz):=by
   rw [pJ,List.getElem?_range V];rfl
  have hz1:z.length=sz+css.length*sz:=by rw [hz,Nat.add_mul,Nat.one_mul,Nat.add_comm]
  have hle:k*sz+c.length<=(pre++z).length:=by rw [iK,hp,hcl];omega
  have e1:Nat.beq c.length sz=true:=by rw [hcl];exact Nat.beq_refl sz
  have e2:Nat.ble (k*sz+c.length) (pre++z).length=true:=Eq.mpr Nat.ble_eq hle
  rw [List.zipIdx_cons,eP]
  simp only [zS,hpl,e1,e2,Bool.and_self,cond_true]
  have e3:setRow (pre++z) (k*sz) c=(pre++c)++z.drop sz:=by
   rw [IG _ _ _ hle,<- hp,List.take_left' O,List.drop_append,ow V,gJ,hcl]
   congr 2;omega
  rw [e3,afY sz n css (k+1) (pre++c) (z.drop sz) (by rw [iK,hp,hcl,Nat.succ_mul]) (by rw [List.length_drop];omega) (fun q hq=>hc q (gH _ hq)) V]
  simp
theorem aAQ {t e:TypeId} {sz bytes:Nat} {zero:List ah} {agg:Bool} (hs:P.underlying t=some (.slice e)) (ht:Ty P e sz bytes zero agg) {n:Nat} {xs:List (Nat × Operand)} {vs:List (Nat × ah)} (css:List (List ah)) (H:St N D w0 F G0 G L T a w) (hw:Region.wanted ⟨some d,.buildSlice t n xs.toArray,ty,pos,aL,g⟩ (yielded ops a.tmps)=true)
  (hx:pts T xs=some vs) (hv:vs.map (fun x=>(x.1,x.2.cells.toList))=(css.zipIdx 0).map fun p=>(p.2,p.1)) (hl:css.all (fun c=>Nat.beq c.length sz)=true) (hcn:Nat.beq css.length n=true) (hn:Nat.ble (n*sz) 1000=true) (hn0:Nat.beq (n*sz) 0=false) (hd:Nat.blt d N=true)
  (k:∀ b a' w',w0.heap.size<=b->St N D w0 F G0 G ((b,.cells css.flatten.toArray e (0,0)) :: L) ((d,.slice (some ⟨b,0,none⟩) n n) :: T) a' w'->WL r P ops Q rest a' w'):WL r P ops Q (⟨some d,.buildSlice t n xs.toArray,ty,pos,aL,g⟩ :: rest) a w:=by
 have hcn':css.length=n:=AJ hcn
 refine iG (vs':=(css.zipIdx 0).map fun p=>(p.2,p.1)) hs ht ((List.range (n*sz)).map (fun i=>zero[i % zero.length]!)) css.flatten H hw hx hv hn hn0 O (fun i q h=>?_) ?_ hd k
 ·rw [pJ] at h
  obtain ⟨j,hj,rfl⟩:=nG.1 h
  obtain ⟨h1,h2⟩:=ji.1 hj
  rw [List.getElem_range] at h2
  rw [h2]
 ·have h:=afY sz n css 0 [] ((List.range (n*sz)).map (fun i=>zero[i % zero.length]!)) (by simp) (by simp [hcn']) (fun c hc=>AJ (lS.1 hl c hc)) V
  simpa using h
end
end
section
def kY (xs:Array ah) (o:Nat):Option Int:=match xs[o]? with|some (.int .i64 n)=>some n|_=>none
def Oa (u:Option TypeDesc):Bool:=match u with|some (.int .i64)=>true|_=>false
structure Di (P:Program) (t:TypeId) (gL:List Nat):Prop where
 und:P.underlying t=some (.struct (P.fieldsOf t))
 held:P.stoodInHeld t=false
 guard:P.eqGuardType P.depth t=false
 xI:(P.fieldsOf t).toList.map (·.offset)=gL
 ok:(P.fieldsOf t).toList.all (fun f=>decide (f.name ≠ "_") && P.plainKey f.type && Oa (P.underlying f.type))=true
theorem Zo {P:Program} {w:World} {d:Nat} {xs ys:Array ah}:∀ fs:List Field,fs.all (fun f=>decide (f.name ≠ "_") && P.plainKey f.type && Oa (P.underlying f.type))=true ->
  (fs.map (·.offset)).all (fun o=>(kY xs o).isSome && (kY ys o).isSome)=true->(Op.eqFields (d+1) xs ys fs).run P w=.ok ((fs.map (·.offset)).all fun o=>kY xs o == kY ys o) w
 | [],_,_=>by simp [Op.eqFields]
 | f :: fs,h1,h2=>by
  simp only [List.all_cons,mG,sW,eP] at h1 h2
  obtain ⟨⟨⟨hn,hp⟩,hi⟩,h1⟩:=h1
  obtain ⟨⟨hx,hy⟩,h2⟩:=h2
  have ih:=Zo (w:=w) (d:=d) fs (by simpa using h1) h2
  unfold Oa at hi
  split at hi
  ·rename_i hu
   unfold kY at hx hy
   split at hx
   ·rename_i m hxm
    split at hy
    ·rename_i m2 hym
     have e1:kY xs f.offset=some m:=by unfold kY;rw [hxm]
     have e2:kY ys f.offset=some m2:=by unfold kY;rw [hym]
     simp only [Op.eqFields,hn,ne_eq,not_false_eq_true,if_true,dM,run_part_plain w hp hxm,run_part_plain w hp hym,kW,run_equalIn_int w d f.type .i64 .i64 m m2 hu,eP,List.all_cons,e1,e2]
     by_cases e:m=m2
     ·subst e;simp [ih,List.all_map]
     ·simp [e]
    ·simp at hy
   ·simp at hx
  ·simp at hi
def mJ (xs:Array ah) (o:Nat × Bool):Option (Int × Bool):=match xs[o.1]?,o.2 with|some (.int .i64 n),false=>some (n,false)|some (.bool b),true=>some (0,b)|_,_=>none
def CB (u:Option TypeDesc) (b:Bool):Bool:=match u,b with|some (.int .i64),false=>true|some .bool,true=>true|_,_=>false
structure OZ (P:Program) (t:TypeId) (gL:List (Nat × Bool)):Prop where
 und:P.underlying t=some (.struct (P.fieldsOf t))
 held:P.stoodInHeld t=false
 guard:P.eqGuardType P.depth t=false
 xI:(P.fieldsOf t).toList.map (fun f=>(f.offset,CB (P.underlying f.type) true))=gL
 ok:(P.fieldsOf t).toList.all (fun f=>decide (f.name ≠ "_") && P.plainKey f.type && CB (P.underlying f.type) (CB (P.underlying f.type) true))=true
theorem akh {P:Program} {w:World} {d:Nat} {xs ys:Array ah}:∀ fs:List Field,fs.all (fun f=>decide (f.name ≠ "_") && P.plainKey f.type && CB (P.underlying f.type) (CB (P.underlying f.type) true))=true ->
  (fs.map (fun f=>(f.offset,CB (P.underlying f.type) true))).all (fun o=>(mJ xs o).isSome && (mJ ys o).isSome)=true->(Op.eqFields (d+1) xs ys fs).run P w=.ok ((fs.map (fun f=>(f.offset,CB (P.underlying f.type) true))).all fun o=>mJ xs o == mJ ys o) w
 | [],_,_=>by simp [Op.eqFields]
 | f :: fs,h1,h2=>by
  simp only [List.all_cons,mG,sW,eP] at h1 h2
  obtain ⟨⟨⟨hn,hp⟩,hi⟩,h1⟩:=h1
  obtain ⟨⟨hx,hy⟩,h2⟩:=h2
  have ih:=akh (w:=w) (d:=d) fs (by simpa using h1) h2
  obtain ⟨kb,hkb⟩:∃ kb,kb=CB (P.underlying f.type) true:=⟨_,O⟩
  rw [<- hkb] at hi hx hy
  cases kb with
  | false =>
   have hu:P.underlying f.type=some (.int .i64):=by clear hkb ih h1 h2 hx hy;unfold CB at hi;split at hi <;> simp_all
   obtain ⟨m,hxm⟩:∃ m,xs[f.offset]?=some (.int .i64 m):=by clear hkb ih h1 h2 hi hy;unfold mJ at hx;split at hx <;> simp_all
   obtain ⟨m2,hym⟩:∃ m,ys[f.offset]?=some (.int .i64 m):=by clear hkb ih h1 h2 hi hx;unfold mJ at hy;split at hy <;> simp_all
   have e1:mJ xs (f.offset,false)=some (m,false):=by unfold mJ;rw [hxm]
   have e2:mJ ys (f.offset,false)=some (m2,false):=by unfold mJ;rw [hym]
   simp only [Op.eqFields,hn,ne_eq,not_false_eq_true,if_true,dM,run_part_plain w hp hxm,run_part_plain w hp hym,kW,run_equalIn_int w d f.type .i64 .i64 m m2 hu,eP,List.all_cons,<- hkb,e1,e2]
   by_cases e:m=m2
   ·subst e;simp [ih,List.all_map]
   ·simp [e]
  | true =>
   have hu:P.underlying f.type=some .bool:=by clear hkb ih h1 h2 hx hy;unfold CB at hi;split at hi <;> simp_all
   obtain ⟨m,hxm⟩:∃ m,xs[f.offset]?=some (.bool m):=by clear hkb ih h1 h2 hi hy;unfold mJ at hx;split at hx <;> simp_all
   obtain ⟨m2,hym⟩:∃ m,ys[f.offset]?=some (.bool m):=by clear hkb ih h1 h2 hi hx;unfold mJ at hy;split at hy <;> simp_all
   have e1:mJ xs (f.offset,true)=some (0,m):=by unfold mJ;rw [hxm]
   have e2:mJ ys (f.offset,true)=some (0,m2):=by unfold mJ;rw [hym]
   simp only [Op.eqFields,hn,ne_eq,not_false_eq_true,if_true,dM,run_part_plain w hp hxm,run_part_plain w hp hym,kW,run_equalIn_bool' w d f.type m m2 hu,eP,List.all_cons,<- hkb,e1,e2]
   by_cases e:m=m2
   ·subst e;simp [ih,List.all_map]
   ·simp [e]
section
variable {N:Nat} {D:List Deferred} {w0:World} {F:Nat->Prop} {G0 G:GH} {L:List (Nat × Obj)} {T:List (Nat × ah)}
variable {r:Option Nat} {P:Program} {ops:Array Oper} {Q:Exit->Act->World->Prop} {rest:List Oper} {a:Act} {w:World}
variable {d:Nat} {ty:TypeId} {pos:String} {aL:Array Edge} {g:Option (Nat × Bool)}
theorem CW {t yt:TypeId} {x y:Operand} {p q:ByteArray} (H:St N D w0 F G0 G L T a w) (hw:Region.wanted ⟨some d,.binOp .eql t x y yt,ty,pos,aL,g⟩ (yielded ops a.tmps)=true) (hx:ev T x=some (.string p)) (hy:ev T y=some (.string q)) (hd:Nat.blt d N=true)
  (k:∀ a',St N D w0 F G0 G L ((d,.bool (p.toList == q.toList)) :: T) a' w->WL r P ops Q rest a' w):WL r P ops Q (⟨some d,.binOp .eql t x y yt,ty,pos,aL,g⟩ :: rest) a w:=by
 refine fQ (v:=.bool (p.toList == q.toList)) (w':=w) hw O ?_ (k _ (H.put hd _ H.hp))
 simp [execOp,H.ev hx,H.ev hy,dM,eqGuard,binOp,Op.stringOp]
theorem ZB {op:BinOp} {t yt:TypeId} {gL:List (Nat × Bool)} (ho:op=.eql∨op=.neq) (he:OZ P t gL) {x y:Operand} {xs ys:Array ah} (H:St N D w0 F G0 G L T a w) (hw:Region.wanted ⟨some d,.binOp op t x y yt,ty,pos,aL,g⟩ (yielded ops a.tmps)=true) (hx:ev T x=some (.agg xs)) (hy:ev T y=some (.agg ys))
  (hi:gL.all (fun o=>(mJ xs o).isSome && (mJ ys o).isSome)=true) (hd:Nat.blt d N=true)
  (k:∀ a',St N D w0 F G0 G L ((d,.bool (if op=.eql then gL.all fun o=>mJ xs o == mJ ys o else !(gL.all fun o=>mJ xs o == mJ ys o))) :: T) a' w->WL r P ops Q rest a' w):WL r P ops Q (⟨some d,.binOp op t x y yt,ty,pos,aL,g⟩ :: rest) a w:=by
 have h1:=akh (P:=P) (w:=w) (d:=9998) (xs:=xs) (ys:=ys) _ he.ok (by rw [he.xI];exact hi)
 rw [he.xI] at h1
 rcases ho with rfl|rfl
 ·refine fQ (v:=_) (w':=w) hw O ?_ (k _ (H.put hd _ H.hp))
  simp only [execOp,H.ev hx,H.ev hy,dM,run_eqGuard_agg w .eql t x y xs ys he.guard,kW,run_eql_struct,run_equalIn_struct w 9999 t xs ys he.und he.held,h1]
  rfl
 ·refine fQ (v:=_) (w':=w) hw O ?_ (k _ (H.put hd _ H.hp))
  simp only [execOp,H.ev hx,H.ev hy,dM,run_eqGuard_agg w .neq t x y xs ys he.guard,kW,run_neq_struct,run_equalIn_struct w 9999 t xs ys he.und he.held,h1]
  rfl
end
end
section
section
variable {N:Nat} {D:List Deferred} {w0:World} {F:Nat->Prop} {G0 G:GH} {L:OL} {T:List (Nat × ah)}
variable {r:Option Nat} {P:Program} {ops:Array Oper} {Q:Exit->Act->World->Prop} {rest:List Oper} {a:Act} {w:World}
variable {d:Nat} {ty:TypeId} {pos:String} {aL:Array Edge} {g:Option (Nat × Bool)}
theorem FH {t:TypeId} (H:St N D w0 F G0 G L T a w) (hw:Region.wanted ⟨some d,.makeMap t none,ty,pos,aL,g⟩ (yielded ops a.tmps)=true) (hd:Nat.blt d N=true)
  (k:∀ b a' w',w0.heap.size<=b->St N D w0 F G0 G ((b,.map #[] 0) :: L) ((d,.map (some b)) :: T) a' w'->WL r P ops Q rest a' w'):WL r P ops Q (⟨some d,.makeMap t none,ty,pos,aL,g⟩ :: rest) a w:=by
 refine fQ (v:=.map (some w.heap.size)) (w':=w.alloc (.map #[] 0)) hw O ?_ (k _ _ _ H.hp.size (H.put hd _ (H.hp.alloc _)))
 simp [execOp,Instr.makeMap,newObj,Sem.run,dM]
def Ej (an:Option (Nat × ah)) (zv:ah):ah × Bool:=match an with|some (_,v)=>(v,true)|none=>(zv,false)
theorem aAX {t kt et:TypeId} {kd:TypeDesc} {x y:Operand} {b i clock:Nat} {es:Array MapEntry} {ky zv:ah} (an:Option (Nat × ah)) (hm:P.underlying t=some (.map kt et)) (hk:P.underlying kt=some kd) (hz:(P.info? et).map (fun i=>i.zero)=some (some zv)) (H:St N D w0 F G0 G L T a w)
  (hw:Region.wanted ⟨some d,.lookup t x y true,ty,pos,aL,g⟩ (yielded ops a.tmps)=true) (hx:ev T x=some (.map (some b))) (hy:ev T y=some ky) (hi:L[i]?=some (b,.map es clock)) (hky:MapKept.IsKey kd ky) (hf:Instr.findNow kd ky es.toList 0=some an) (hd:Nat.blt d N=true)
  (k:∀ a',St N D w0 F G0 G L ((d,.tuple #[(Ej an zv).1,.bool (Ej an zv).2]) :: T) a' w->WL r P ops Q rest a' w):WL r P ops Q (⟨some d,.lookup t x y true,ty,pos,aL,g⟩ :: rest) a w:=by
 have hb:w.heap[b]?=some (.map es clock):=H.hp.own _ (lQ hi)
 obtain ⟨inf,hi1,hi2⟩:=nG.1 hz
 refine fQ (v:=.tuple #[(Ej an zv).1,.bool (Ej an zv).2]) (w':=w) hw O ?_ (k _ (H.put hd _ H.hp))
 have h1:=MapKept.run_checkKey (w:=w) hk hky es.isEmpty 9999
 have h2:=MapKept.run_findKey (w:=w) hk hf
 cases an with
 | none=>simp [execOp,Instr.lookup,H.ev hx,H.ev hy,dM,lC hm,MapKept.run_getObj_map hb,h1,h2,Result.andThen,zeroValue,CO hi1,hi2,Ej]
 | some q=>simp [execOp,Instr.lookup,H.ev hx,H.ev hy,dM,lC hm,MapKept.run_getObj_map hb,h1,h2,Result.andThen,Ej]
theorem TA {w:World} {b clock:Nat} {es:Array MapEntry} {o:Obj} (h:w.heap[b]?=some (.map es clock)):xk b o w { w with heap:=w.heap.setIfInBounds b o }:=by
 have hlt:b < w.heap.size:=(Array.getElem?_eq_some_iff.1 h).1
 refine ⟨O,O,O,by simp,by simp [hlt],fun k hk=>?_⟩
 simp only
 rw [Array.getElem?_setIfInBounds_ne (Ne.symm hk)]
theorem akt {t kt et:TypeId} {kd:TypeDesc} {x y z:Operand} {b i clock:Nat} {es:Array MapEntry} {ky v:ah} (hm:P.underlying t=some (.map kt et)) (hk:P.underlying kt=some kd) (H:St N D w0 F G0 G L T a w)
  (hw:Region.wanted ⟨none,.mapUpdate t x y z,ty,pos,aL,g⟩ (yielded ops a.tmps)=true) (hx:ev T x=some (.map (some b))) (hy:ev T y=some ky) (hzv:ev T z=some v) (hi:L[i]?=some (b,.map es clock)) (hky:MapKept.IsKey kd ky) (hf:Instr.findNow kd ky es.toList 0=some none)
  (k:∀ w',St N D w0 F G0 G (L.set i (b,.map (es.push ⟨ky,v,clock⟩) (clock+1))) T a w'->WL r P ops Q rest a w'):WL r P ops Q (⟨none,.mapUpdate t x y z,ty,pos,aL,g⟩ :: rest) a w:=by
 have hb:w.heap[b]?=some (.map es clock):=H.hp.own _ (lQ hi)
 have h1:=MapKept.run_checkKey (w:=w) hk hky false 9999
 have h2:=MapKept.run_findKey (w:=w) hk hf
 refine TH (w':={ w with heap:=w.heap.setIfInBounds b (.map (es.push ⟨ky,v,clock⟩) (clock+1)) }) hw O ?_ (k _ (H.move (H.hp.upd hi (TA hb))))
 simp [execOp,Instr.mapUpdate,H.ev hx,H.ev hy,H.ev hzv,dM,lC hm,MapKept.run_getObj_map hb,h1,h2,MapKept.run_setObj_map _ hb,Result.andThen]
theorem aAV {t yt:TypeId} (hu:P.underlying t=some .bool) {x y:Operand} {p q:Bool} (H:St N D w0 F G0 G L T a w) (hw:Region.wanted ⟨some d,.binOp .eql t x y yt,ty,pos,aL,g⟩ (yielded ops a.tmps)=true) (hx:ev T x=some (.bool p)) (hy:ev T y=some (.bool q)) (hd:Nat.blt d N=true)
  (k:∀ a',St N D w0 F G0 G L ((d,.bool (p == q)) :: T) a' w->WL r P ops Q rest a' w):WL r P ops Q (⟨some d,.binOp .eql t x y yt,ty,pos,aL,g⟩ :: rest) a w:=by
 refine fQ (v:=.bool (p == q)) (w':=w) hw O ?_ (k _ (H.put hd _ H.hp))
 simp [execOp,H.ev hx,H.ev hy,dM,eqGuard,binOp,Op.equal,Op.maxDepth,run_equalIn_bool' w 9999 t p q hu]
theorem aA2 {t yt:TypeId} {x y:Operand} {p q:ByteArray} (H:St N D w0 F G0 G L T a w) (hw:Region.wanted ⟨some d,.binOp .neq t x y yt,ty,pos,aL,g⟩ (yielded ops a.tmps)=true) (hx:ev T x=some (.string p)) (hy:ev T y=some (.string q)) (hd:Nat.blt d N=true)
  (k:∀ a',St N D w0 F G0 G L ((d,.bool (!(p.toList == q.toList))) :: T) a' w->WL r P ops Q rest a' w):WL r P ops Q (⟨some d,.binOp .neq t x y yt,ty,pos,aL,g⟩ :: rest) a w:=by
 refine fQ (v:=.bool (!(p.toList == q.toList))) (w':=w) hw O ?_ (k _ (H.put hd _ H.hp))
 simp [execOp,H.ev hx,H.ev hy,dM,eqGuard,binOp,Op.stringOp]
theorem Hp.KQ (h:Hp w0 F G0 G L w) {b o:Nat} {c:Array ah} {e:TypeId} {fz:Nat × Nat} {v:ah} (hm:(b,Obj.cells c e fz)∈L) (hv:c[o]?=some v):w.cell? ⟨b,o,none⟩=some v:=by
 have:=h.own _ hm
 simp only [World.cell?,this]
 exact hv
end
end
section
section
variable {N:Nat} {D:List Deferred} {w0:World} {F:Nat->Prop} {G0 G G1 G2:GH} {L L1:OL} {T Xs:List (Nat × ah)}
variable {r:Option Nat} {P:Program} {Q:Exit->Act->World->Prop} {l:List Oper} {a a':Act} {w w':World}
end
end
section
section
variable {N:Nat} {D:List Deferred} {w0:World} {F:Nat->Prop} {G0 G G1 G2:GH} {L L1 L2:OL} {T Xs:List (Nat × ah)}
variable {r:Option Nat} {P:Program} {Q:Exit->Act->World->Prop} {l:List Oper} {a a':Act} {w w':World}
theorem aex {pr:Nat->ah->GH->Prop} {S:Nat->Bool} {i:Nat} (hi:dZ l i=none) (HT:St N D w0 F G0 G1 L T a w) (hG:∀ k o,G k=some o->G1 k=some o) (hv:∀ i d,S i=true->dZ l i=some d->∃ v,a.tmps[d]?=some v∧pr i v G1)
  (H:St N D w0 F G0 G1 L2 (Xs++full N a) a w'):DX N D w0 F G0 G L2 T l pr (dO S i) a w' :=
 ⟨G1,hG,HT.move H.hp,fun j e hj he=>hv j e (by
  unfold dO at hj
  by_cases hji:j=i
  ·subst hji;rw [hi] at he;cases he
  ·rwa [ay hji] at hj) he⟩
theorem anZ {id:Nat} (hm:P.follows .mixedOrders=true) (bS:List (List Nat)) (B:List Nat) (hk:yL l bS=true) (hB:zB l bS B=true) (m:Nat) (XP:B.contains m=false) (pr:Nat->ah->GH->Prop) (ix:Nat) (ob:Nat × Obj)
  (H:St N D w0 F G0 G L T a w)
  (hstep:allI (fun i o=>∀ S a w G1,B.contains i=false->Nat.beq i m=false->S i=false->(∀ j∈bS.getD i [],S j=true)->(∀ k o,G k=some o->G1 k=some o)->St N D w0 F G0 G1 L T a w->(∀ i d,S i=true->dZ l i=some d->∃ v,a.tmps[d]?=some v∧pr i v G1) ->
   WL r P l.toArray (fun e a' w'=>e=.normal∧DX N D w0 F G0 G L T l pr (dO S i) a' w') [o] a w) 0 l)
  (hmid:∀ o S a w G1,l[m]?=some o->S m=false->(∀ j∈bS.getD m [],S j=true)->(∀ k o,G k=some o->G1 k=some o)->St N D w0 F G0 G1 L T a w->(∀ i d,S i=true->dZ l i=some d->∃ v,a.tmps[d]?=some v∧pr i v G1) ->
   WL r P l.toArray (fun e a' w'=>e=.normal∧DX N D w0 F G0 G (L.set ix ob) T l pr (dO S m) a' w') [o] a w)
  (hstep2:allI (fun i o=>∀ S a w G1,(B.contains i || (bS.getD m []).contains i)=false->Nat.beq i m=false->S i=false->(∀ j∈bS.getD i [],S j=true)->(∀ k o,G k=some o->G1 k=some o)->St N D w0 F G0 G1 (L.set ix ob) T a w->(∀ i d,S i=true->dZ l i=some d->∃ v,a.tmps[d]?=some v∧pr i v G1) ->
   WL r P l.toArray (fun e a' w'=>e=.normal∧DX N D w0 F G0 G (L.set ix ob) T l pr (dO S i) a' w') [o] a w) 0 l)
  (hend:∀ a w G1,(∀ k o,G k=some o->G1 k=some o)->St N D w0 F G0 G1 (L.set ix ob) T a w->(∀ i d,B.contains i=false->dZ l i=some d->∃ v,a.tmps[d]?=some v∧pr i v G1)->WL r P l.toArray (fun e a w=>e=.normal∧Q .normal a w) (qK l B) a w)
  (hml:Nat.blt m l.length=true):WP r P (.region id l.toArray true) Q a w:=by
 refine MH hm bS B hk hB (fun S a w=>(S m=false∧DX N D w0 F G0 G L T l pr S a w)∨(S m=true∧DX N D w0 F G0 G (L.set ix ob) T l pr S a w))
  (.inl ⟨rfl,G,fun _ _ h=>h,H.move H.hp.drew,fun _ _ h=>absurd (show false=true from h) Q1⟩) ?_ ?_
 ·rintro i o S a w ho hb aV kM hdesc hX
  by_cases him:i=m
  ·subst him
   rcases hX with ⟨_,G1,hG,HS,hv⟩|⟨h1,_⟩
   ·have h:=hmid o S a w G1 ho aV kM hG HS hv
    have e1:dO S i i=true:=aH O
    exact pF (fun e a' w' ⟨he,hD⟩=>⟨he,.inr ⟨e1,hD⟩⟩) h
   ·rw [h1] at aV;cases aV
  ·have e:dO S i m=S m:=ay (fun h=>him h.symm)
   rcases hX with ⟨h1,G1,hG,HS,hv⟩|⟨h1,G1,hG,HS,hv⟩
   ·have h:=zL hstep i o ho
    rw [fO] at h
    exact pF (fun e' a' w' ⟨he,hD⟩=>⟨he,.inl ⟨e.trans h1,hD⟩⟩) (h S a w G1 hb (xB him) aV kM hG HS hv)
   ·have h:=zL hstep2 i o ho
    rw [fO] at h
    have hnc:(B.contains i || (bS.getD m []).contains i)=false:=by
     rw [hb,Bool.false_or]
     cases hc2:(bS.getD m []).contains i with
     | false=>rfl
     | true=>have:=hdesc m (Eq.mp Nat.blt_eq hml) (xq.1 hc2);rw [h1] at this;cases this
    exact pF (fun e' a' w' ⟨he,hD⟩=>⟨he,.inr ⟨e.trans h1,hD⟩⟩) (h S a w G1 hnc (xB him) aV kM hG HS hv)
 ·rintro S a w hall Rw hX
  have NG:S m=true:=hall m (Eq.mp Nat.blt_eq hml) XP
  rcases hX with ⟨h1,_⟩|⟨h1,G1,hG,HS,hv⟩
  ·rw [h1] at NG;cases NG
  ·exact hend a w G1 hG HS fun j d hb hd=>hv j d (hall j (wG hd) hb) hd
end
end
section
section
variable {N:Nat} {D:List Deferred} {w0:World} {F:Nat->Prop} {G0 G:GH} {L Li Lo:OL} {T:List (Nat × ah)}
variable {r:Option Nat} {P:Program} {ops:Array Oper} {Q:Exit->Act->World->Prop} {rest:List Oper} {a:Act} {w:World}
variable {d:Nat} {ty:TypeId} {pos:String} {aL:Array Edge} {g:Option (Nat × Bool)}
theorem akq {x:Operand} {t e:TypeId} {A:Option Addr} {n c:Nat} (hs:P.underlying t=some (.slice e)) (H:St N D w0 F G0 G L T a w) (hw:Region.wanted ⟨some d,.call { callee:=.builtin .cap,args:=#[x],argTypes:=#[t] },ty,pos,aL,g⟩ (yielded ops a.tmps)=true) (hx:ev T x=some (.slice A n c)) (hd:Nat.blt d N=true)
  (k:∀ a',St N D w0 F G0 G L ((d,.int .i64 c) :: T) a' w->WL r P ops Q rest a' w):WL r P ops Q (⟨some d,.call { callee:=.builtin .cap,args:=#[x],argTypes:=#[t] },ty,pos,aL,g⟩ :: rest) a w :=
 fQ (v:=.int .i64 c) (w':=w) hw O (by simp [execOp,resolve,invoke,builtin,Builtin.cap_,H.ev hx,dM,lC hs,goInt]) (k _ (H.put hd _ H.hp))
theorem Ox {t e:TypeId} {sz bytes:Nat} {zero:List ah} {agg:Bool} (hs:P.underlying t=some (.slice e)) (ht:Ty P e sz bytes zero agg) {x z:Operand} {A:Option Addr} {n c:Nat} (hi:Nat) {q:Int} (H:St N D w0 F G0 G L T a w)
  (hw:Region.wanted ⟨some d,.slice t x none (some z) none,ty,pos,aL,g⟩ (yielded ops a.tmps)=true) (hx:ev T x=some (.slice A n c)) (hz:ev T z=some (.int .i64 q)) (hq:q=(hi:Int)) (h2:hi<=c) (hd:Nat.blt d N=true)
  (k:∀ a',St N D w0 F G0 G L ((d,.slice A hi c) :: T) a' w->WL r P ops Q rest a' w):WL r P ops Q (⟨some d,.slice t x none (some z) none,ty,pos,aL,g⟩ :: rest) a w:=by
 subst hq
 refine fQ (v:=.slice A hi c) (w':=w) hw O ?_ (k _ (H.put hd _ H.hp))
 simp [execOp,H.ev hx,H.ev hz,Instr.sliceAt,Instr.slice,Instr.sliceBounds,Instr.sliceBound,dM,lC hs,ht.CP,asIntOf,h2]
 intro _
 cases A with
 | none=>rfl
 | some p=>simp [Addr.add]
theorem aAA {w:World} (t u ty e:TypeId) (i:TypeInfo) (z:ah) (hs:P.underlying t=some (.slice e)) (hu:P.underlying u=some (.int .i64)) (hi:P.info? e=some i) (hz:i.zero=some z) (n:Nat) (hn:0 < n) (hsz:0 < i.size) (h63:(n:Int)<=9223372036854775807) (h48:n*i.bytes<=281474976710656) :
  (Builtin.append_ #[t,u] ty #[.slice none 0 0,.int .i64 n]).run P w=.ok (.slice (some ⟨w.heap.size,0,none⟩) n (grownCap w n 0 e)) (w.drew.alloc (.cells (Builtin.zeroCells z.cells n++Builtin.zeroCells z.cells (grownCap w n 0 e - n)) e)):=by
 have w1:=Ii (z:=(n:Int)) V V
 have n1:¬ ((n:Int) < 0):=by omega
 have n2:¬ (281474976710656 < (n:Int)*i.bytes):=by rw [<- Int.natCast_mul];omega
 have n3:¬ n=0:=by omega
 have n4:¬ i.size=0:=by omega
 have n5:¬ (9223372036854775807 < (n:Int)):=by omega
 have n6:Builtin.nextslicecap n 0=n:=by simp [Builtin.nextslicecap,hn]
 have n7:¬ (281474976710656 < n*i.bytes):=by omega
 simp [Builtin.append_,run_underlying hs,run_underlying hu,sizeOf,typeInfo,zeroValue,hi,hz,asInt,asIntOf,w1,n1,n2,n3,n4,n5,n6,n7,Question.forced,newRow,grownCap,Builtin.firstCells]
 intro h
 rcases Nat.mul_eq_zero.1 h with h|h <;> omega
theorem aAO {t u e:TypeId} {sz bytes:Nat} {zero:List ah} {agg:Bool} (hs:P.underlying t=some (.slice e)) (hu:P.underlying u=some (.int .i64)) (ht:Ty P e sz bytes zero agg) (hzl:Nat.beq zero.length sz=true) (hsz:Nat.blt 0 sz=true) {x y:Operand} {n:Nat} (H:St N D w0 F G0 G L T a w)
  (hw:Region.wanted ⟨some d,.call { callee:=.builtin .append,args:=#[x,y],argTypes:=#[t,u] },ty,pos,aL,g⟩ (yielded ops a.tmps)=true) (hx:ev T x=some (.slice none 0 0)) (hy:ev T y=some (.int .i64 (n:Int))) (hn:0 < n) (h63:n<=maxLen) (h48:n*bytes<=281474976710656) (hd:Nat.blt d N=true)
  (k:∀ b cap cur a' w',w0.heap.size<=b->n<=cap->cap<=maxLen->cur.size=cap*sz->St N D w0 F G0 G ((b,.cells cur e (0,0)) :: L) ((d,.slice (some ⟨b,0,none⟩) n cap) :: T) a' w'->WL r P ops Q rest a' w') :
  WL r P ops Q (⟨some d,.call { callee:=.builtin .append,args:=#[x,y],argTypes:=#[t,u] },ty,pos,aL,g⟩ :: rest) a w:=by
 obtain ⟨i,z,hi,hi1,hi2,hi3,hi4⟩:=ht.parts
 have hsz0:0 < sz:=Eq.mp Nat.blt_eq hsz
 have hzc:z.cells.size=sz:=by rw [hi4];simpa using AJ hzl
 have h63':(n:Int)<=9223372036854775807:=by have hml:maxLen=9223372036854775807:=rfl;omega
 have hr:=aAA (P:=P) (w:=w) t u ty e i z hs hu hi hi3 n hn V h63' (by rw [hi2];exact h48)
 have hge:=grownCap_ge w n 0 e
 refine fQ (v:=.slice (some ⟨w.heap.size,0,none⟩) n (grownCap w n 0 e)) (w':=w.drew.alloc (.cells (Builtin.zeroCells z.cells n++Builtin.zeroCells z.cells (grownCap w n 0 e - n)) e)) hw O ?_ (k _ _ _ _ _ H.hp.size hge (grownCap_le_maxLen w n 0 e h63) ?_ (H.put hd _ (H.hp.drew.alloc _)))
 ·simp only [execOp,resolve,invoke,builtin,H.ev hx,H.ev hy,dM,List.map_toArray,eP,tq,rW,kW,hr]
 ·simp only [Array.size_append,size_zeroCells,hzc]
  rw [<- Nat.add_mul];congr 1;omega
end
end
section
section
variable {N:Nat} {D:List Deferred} {w0:World} {F:Nat->Prop} {G0 G:GH} {L Lo:OL} {T:List (Nat × ah)}
variable {r:Option Nat} {P:Program} {ops:Array Oper} {Q:Exit->Act->World->Prop} {rest:List Oper} {a:Act} {w:World}
variable {d:Nat} {ty:TypeId} {pos:String} {aL:Array Edge} {g:Option (Nat × Bool)}
theorem aC3 (z:Array ah) (n:Nat):(Builtin.zeroCells z n).toList.length=n*z.size:=by simp [Builtin.zeroCells]
theorem aC4 {z:Array ah} {n:Nat} (h:z.toList.all Value.oneCell'=true):∀ u∈(Builtin.zeroCells z n).toList,u.oneCell'=true:=by
 intro u hu
 simp only [Builtin.zeroCells,Array.toList_map,List.mem_map] at hu
 obtain ⟨i,hi,rfl⟩:=hu
 have hi2:i < n*z.size:=by simpa using hi
 have hz:0 < z.size:=by
  rcases Nat.eq_zero_or_pos z.size with e|e
  ·rw [e,Nat.mul_zero] at hi2;omega
  ·exact e
 have hlt:i % z.size < z.size:=Nat.mod_lt _ hz
 rw [getElem!_pos z (i % z.size) hlt]
 exact lS.1 h _ (by simp)
theorem aAT {t e:TypeId} {sz bytes:Nat} {zero:List ah} {agg:Bool} (hs:P.underlying t=some (.slice e)) (ht:Ty P e sz bytes zero agg) (hz:Nat.beq zero.length sz=true) (hz1:zero.all Value.oneCell'=true) {x:Operand} (i:Nat) {b o n cp:Nat} {c:List ah} (H:St N D w0 F G0 G L T a w)
  (hw:Region.wanted ⟨none,.call { callee:=.builtin .clear,args:=#[x],argTypes:=#[t] },ty,pos,aL,g⟩ (yielded ops a.tmps)=true) (hx:ev T x=some (.slice (some ⟨b,o,none⟩) n cp)) (hi:L[i]?=some (b,.cells c.toArray e (0,0))) (hn:0 < n) (hle:o+n*sz<=c.length)
  (k:∀ (c':List ah) w',c'.length=c.length->c'.take o=c.take o->St N D w0 F G0 G (L.set i (b,.cells c'.toArray e (0,0))) T a w'->WL r P ops Q rest a w') :
  WL r P ops Q (⟨none,.call { callee:=.builtin .clear,args:=#[x],argTypes:=#[t] },ty,pos,aL,g⟩ :: rest) a w:=by
 obtain ⟨inf,z,hi0,hi1,hi2,hi3,hi4⟩:=ht.parts
 have hb:=H.hp.own _ (lQ hi)
 have hzs:z.cells.size=sz:=by rw [hi4];simpa using AJ hz
 have hlen:(Builtin.zeroCells z.cells n).toList.length=n*sz:=by rw [aC3,hzs]
 obtain ⟨w2,h2,u2⟩:=Zt (P:=P) b e o (Builtin.zeroCells z.cells n).toList 0 c w hb (by rw [hlen];omega) (aC4 (by rw [hi4];simpa using hz1))
 simp only [wB] at u2
 refine fQ (v:=.tuple #[]) (w':=w2) hw O ?_ (k _ w2 ?_ ?_ (H.move (H.hp.upd hi u2)))
 ·obtain ⟨m,rfl⟩:∃ m,n=m+1:=⟨n - 1,V⟩
  simp [execOp,resolve,invoke,builtin,Builtin.clear_,dM,H.ev hx,lC hs,zeroValue,CO hi0,hi3,h2]
 ·rw [II]
 ·rw [IG _ _ _ (by rw [hlen];exact hle),gY,List.take_append_of_le_length (by rw [List.length_take];omega),lU (by rw [List.length_take];omega)]
end
end
def mZ (p:Nat->Bool):Nat->Nat->Nat->Nat
 | 0,i,_=>i
 | f+1,i,j=>if i < j then (if p ((i+j) / 2) then mZ p f i ((i+j) / 2) else mZ p f ((i+j) / 2+1) j) else i
theorem ahU {p:Nat->Bool} {f i j:Nat} (hf:j - i<=f) (h:i < j):mZ p f i j=if p ((i+j) / 2) then mZ p (f - 1) i ((i+j) / 2) else mZ p (f - 1) ((i+j) / 2+1) j:=by
 match f,hf with
 | 0,hf=>omega
 | f+1,_=>rw [mZ,aH h];rfl
theorem ahS {p:Nat->Bool} {f i j:Nat} (h:¬ i < j):mZ p f i j=i:=by
 match f with
 | 0=>rfl
 | f+1=>rw [mZ,ay h]
theorem Yg {p:Nat->Bool}:∀ (f i j:Nat),i<=j->mZ p f i j<=j
 | 0,i,j,h=>h
 | f+1,i,j,h=>by
  rw [mZ]
  split
  ·split
   ·exact Nat.le_trans (Yg f i _ V) V
   ·exact Yg f _ j V
  ·exact h
theorem ahV {z:Int} (h1:0<=z) (h2:z < 18446744073709551616):IntKind.u64.wrap z=z:=by
 simp only [IntKind.wrap,IntKind.bits,IntKind.signed,Bool.false_and,yC,if_false]
 omega
theorem ahT (n:Nat):((n:Nat):Int).fdiv (2 ^ 1)=((n / 2:Nat):Int):=by
 rw [Int.fdiv_eq_ediv_of_nonneg _ Q1];omega
def DC (a b:Int):Int:=if a < b then -1 else if b < a then 1 else 0
theorem aeb {a b:Int}:DC a b < 0↔a < b:=by
 unfold DC
 split
 ·simp [*]
 ·split <;> simp_all
theorem aea {a b:Int}:DC a b=0↔a=b:=by
 unfold DC
 split
 ·omega
 ·split <;> omega
def ql (ks:List Int) (t:Int):Nat:=mZ (fun h=>decide (¬ ks.getD h 0 < t)) ks.length 0 ks.length
def xK (ks:List Int) (t:Int):Bool:=decide (ks[ql ks t]?=some t)
theorem auG {ks:List Int} {t:Int} (h:xK ks t=true):ql ks t < ks.length:=by
 have:=pK h
 exact (ji.1 this).1
theorem agH {ks:List Int} {t:Int} {n:Nat} (e:ql ks t=n) (h:n < ks.length):xK ks t=decide (DC ks[n] t=0):=by
 unfold xK
 rw [e,fF h]
 simp [aea]
theorem agI {ks:List Int} {t:Int} {n:Nat} (e:ql ks t=n) (h:¬ n < ks.length):xK ks t=false:=by
 unfold xK
 rw [e,List.getElem?_eq_none V]
 simp
theorem getD_map {α:Type} {f:α->Int} {l:List α} {n:Nat} (h:n < l.length):(l.map f).getD n 0=f l[n]:=by
 simp [List.getD,h]
section
abbrev aJ (b o : Nat) : Value := .pointer (some ⟨b, o, none⟩)
end
end Go.Proofs.YtggpjlchglgodaaGreat
