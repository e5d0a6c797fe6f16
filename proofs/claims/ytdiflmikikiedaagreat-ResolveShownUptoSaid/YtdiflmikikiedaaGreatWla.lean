/-
  What the claim stands on, part 1: Lg Op Oq Cb Rep Dr Sq Cp Row Dy Bd Ut Utf Utf2 Vc.
-/
import Derived.Test.YtdiflmikikiedaaGreatProg
import Derived.CallsIn
import Derived.TacticsIn
import Derived.RangeFuncIn
import Derived.RangeFuncLeaves
import Derived.RangeFuncRecord
import Derived.Below
import Derived.KernelRfl
import Derived.Maps.AppendAt
import Derived.IntWalk
import Derived.OrdersIn
import Derived.Test.YtdiflmikikiedaaGreatRows
import Derived.Lib.Builder
import Derived.Lib.UnsafeStr
import Derived.Lib.AppendStr
import Derived.Laws.Externs
import Derived.Lib.OthersKept
import Derived.Laws.IdiomStrings
import Derived.Laws.Cover4
import Derived.Laws.Slices
import Derived.Laws.Strings2
import Derived.Lib.MapLaws
import Derived.Lib.ValidLaws
import Derived.Lib.RuneBytes
import Derived.Lib.TrimUEq
namespace Go.Proofs.YtdiflmikikiedaaGreat
set_option linter.all false
open Go.Proofs.Tryz
theorem M.{u} {α:Sort u} {a:α}:a=a:=rfl
theorem O {p:Prop} (h:p:=by omega):p:=h
theorem V {p:Prop} (h:p:=by kernel_rfl):p:=h
theorem Z {p:Prop} (h:p:=by decide):p:=h
section
theorem au.{u}:∀ {c:Prop} {h:Decidable c},¬c->∀ {α:Sort u} {t e:α},(if c then t else e)=e:=@if_neg
theorem aC:True:=trivial
theorem ay.{u}:∀ {c:Prop} {h:Decidable c},c->∀ {α:Sort u} {t e:α},(if c then t else e)=t:=@if_pos
theorem bK.{u_1,u_2}:∀ {α:Type u_1} {β:Type u_2} {xs:List α} (f:α->β),List.length (List.map f xs)=List.length xs:=@List.length_map
theorem cO.{u,v}:∀ {α:Sort u} {β:Sort v} {a₁ a₂:α} (f:α->β),a₁=a₂->f a₁=f a₂:=@congrArg
theorem dO.{u,v}:∀ {α:Type u} {β:Type v} {f:α->β} {a:α} {l:List α},List.map f (a :: l)=f a :: List.map f l:=@List.map_cons
theorem dP:∀ {α β:Type} (P:Go.Program) (w:Go.World) (x:Go.Sem α) (f:α->Go.Sem β),   Go.Sem.run P (x >>= f) w=Go.Result.andThen (Go.Sem.run P x w) fun a w'=>Go.Sem.run P (f a) w':=@Go.Sem.run_bind
theorem dS:∀ (n:Nat),n<=n:=@Nat.le_refl
theorem dV.{u_1}:∀ {α:Type u_1} {a:α} {l:List α},a∈a :: l:=@List.mem_cons_self
theorem eB.{u_1}:∀ {α:Type u_1} {l:List α} {i:Nat} (h:i < List.length l),l[i]?=some l[i]:=@List.getElem?_eq_getElem
theorem fG.{u}:∀ {α:Type u} (xs:List α),xs++[]=xs:=@List.append_nil
theorem gu.{u_1}:∀ {α:Type u_1} {b:α} {l:List α} {a:α},a∈b :: l↔a=b∨a∈l:=@List.mem_cons
theorem gF.{u}:∀ {α:Type u} {xs bs:List α},List.length (xs++bs)=List.length xs+List.length bs:=@List.length_append
theorem gI.{u_1}:∀ {α:Type u_1} (y:α) {a:α} {l:List α},a∈l->a∈y :: l:=@List.mem_cons_of_mem
theorem gZ:∀ (n:Nat),0+n=n:=@Nat.zero_add
theorem iC:∀ (a b:Bool),((a && b)=true)=(a=true∧b=true):=@Bool.and_eq_true
theorem iL.{u}:∀ {α:Type u} (xs bs cs:List α),xs++bs++cs=xs++(bs++cs):=@List.append_assoc
theorem iX.{u,v}:∀ {α:Type u} {β:Type v} (fst:α) (snd:β) (agT:α) (alk:β),   ((fst,snd)=(agT,alk))=(fst=agT∧snd=alk):=@Prod.mk.injEq
theorem ji.{u_1,u_2}:∀ {α:Type u_1} {β:Type u_2} {f:α->β} {l₁ l₂:List α},List.map f (l₁++l₂)=List.map f l₁++List.map f l₂:=@List.map_append
theorem jA.{u}:∀ {α:Type u} (xs:List α),[]++xs=xs:=@List.nil_append
theorem jK.{u_1}:∀ {α:Type u_1} {i:Nat} {l:List α} (h:i < List.length l),List.take (i+1) l=List.take i l++[l[i]]:=@List.take_succ_eq_append_getElem
theorem jR.{u_1}:∀ {α:Type u_1} {p:α->Bool} {l:List α},List.all l p=true↔∀ (x:α),x∈l->p x=true:=@List.all_eq_true
theorem jS.{u_1}:∀ {α:Type u_1} {l:List α} {n:Nat} (h:n < List.length l),l[n]∈l:=@List.getElem_mem
theorem jZ.{u_1}:∀ {α:Type u_1} {i:Nat} {a:α} {l:List α},l[i]?=some a↔∃ h,l[i]=a:=@List.getElem?_eq_some_iff
theorem kC.{u_1}:∀ {α:Type u_1} {a:α} {s t:List α},a∈s++t↔a∈s∨a∈t:=@List.mem_append
theorem kR.{u}:∀ {α:Type u} {a:α} {xs:List α},List.length (a :: xs)=List.length xs+1:=@List.length_cons
theorem kS.{u_1}:∀ {α:Type u_1} (l:List α),List.Sublist l l:=@List.Sublist.refl
theorem kY:∀ (n:Nat),0<=n:=@Nat.zero_le
theorem lD:∀ {p:Prop} [inst:Decidable p],(decide p=true)=p:=@decide_eq_true_eq
theorem lZ.{u_1}:∀ {α:Type u_1} {l:List α} {i:Nat} {a:α},l[i]?=some a->a∈l:=@List.mem_of_getElem?
theorem mY:∀ {p:Prop} [inst:Decidable p],p->decide p=true:=@decide_eq_true
theorem nK.{u_1}:∀ {α:Type u_1} {i:Nat} {l:List α} (h:i < List.length l),List.drop i l=l[i] :: List.drop (i+1) l:=@List.drop_eq_getElem_cons
theorem nY:∀ {α β:Type} (a:α) (w:Go.World) (f:α->Go.World->Go.Result β),Go.Result.andThen (Go.Result.ok a w) f=f a w:=@Go.Result.andThen_ok
theorem nZ.{u_1}:∀ {α:Type u_1} {i:Nat} {l:List α},List.length l<=i->List.take i l=l:=@List.take_of_length_le
theorem oD:∀ {p:Prop} [Decidable p],¬¬p↔p:=@Decidable.not_not
theorem oO.{u_1,u_2}:∀ {α:Type u_1} {b:α} {amI:Type u_2} {x:Option amI} {f:amI->α},   Option.map f x=some b↔∃ a,x=some a∧f a=b:=@Option.map_eq_some_iff
theorem pR.{u}:∀ {α:Type u} {a:α} {xs bs:List α},a :: xs++bs=a :: (xs++bs):=@List.cons_append
theorem pX.{u}:∀ {α:Type u} (val ame:α),(some val=some ame)=(val=ame):=@Option.some.injEq
theorem pY.{u_1}:∀ {α:Type u_1} {xs:Array α},List.length xs.toList=Array.size xs:=@Array.length_toList
theorem qC.{u}:∀ {α:Type u} {R:α->α->Prop} {a:α} {l:List α},   List.Pairwise R (a :: l)↔(∀ (a':α),a'∈l->R a a')∧List.Pairwise R l:=@List.pairwise_cons
theorem qD.{u_1,u_2}:∀ {α:Type u_1} {β:Type u_2} {f:α->β} {l:List α} {i:Nat},(List.map f l)[i]?=Option.map f l[i]?:=@List.getElem?_map
theorem qE:∀ {p:Prop} [inst:Decidable p],¬p->decide p=false:=@decide_eq_false
theorem qX.{u_1}:∀ {α:Type u_1} [inst:BEq α] [LawfulBEq α] {a:α} {xs:List α},List.contains xs a=true↔a∈xs:=@List.contains_iff_mem
theorem qY.{u_1}:∀ {α:Type u_1} {a b:α},a∈[b]↔a=b:=@List.mem_singleton
theorem qZ.{u,v}:∀ {α:Type u} {β:Type v} {f:α->β},List.map f []=[]:=@List.map_nil
theorem rR:∀ {α:Type} (P:Go.Program) (w:Go.World) (a:α),Go.Sem.run P (pure a) w=Go.Result.ok a w:=@Go.Sem.run_pure
theorem rT:∀ {p:Prop} [inst:Decidable p],decide p=true->p:=@of_decide_eq_true
theorem rU.{u_1}:∀ {α:Type u_1} {i:Nat} {l:List α},List.length l<=i->List.drop i l=[]:=@List.drop_of_length_le
theorem sJ:∀ (n:Nat),n+0=n:=@Nat.add_zero
theorem um.{u_1}:∀ {α:Type u_1} {l₁ l₂:List α} {i:Nat},List.length l₁<=i->(l₁++l₂)[i]?=l₂[i - List.length l₁]?:=@List.getElem?_append_right
theorem uS.{u_1}:∀ {α:Type u_1} {l:List α} {i j:Nat},(List.take i l)[j]?=if j < i then l[j]? else none:=@List.getElem?_take
theorem uT.{u_1,u_2}:∀ {α:Type u_1} {β:Type u_2} (a:α) (f:α->β),Option.map f (some a)=some (f a):=@Option.map_some
theorem uU.{u_1}:∀ {α:Type u_1} {l₁ l₂:List α},List.Perm (l₁++l₂) (l₂++l₁):=@List.perm_append_comm
theorem uV.{u_1}:∀ {α:Type u_1} {l:List α},List.take (List.length l) l=l:=@List.take_length
theorem uW:∀ {p:Prop} {x:Decidable p},decide p=false↔¬p:=@decide_eq_false_iff_not
theorem uX.{u}:∀ {α:Type u} {l:List α},List.drop 0 l=l:=@List.drop_zero
theorem vW:∀ {m n:Nat},m∈List.range n↔m < n:=@List.mem_range
theorem xQ.{u}:∀ {α:Type u} {a:α} {l:List α} {i:Nat},List.drop (i+1) (a :: l)=List.drop i l:=@List.drop_succ_cons
theorem yO.{u_1}:∀ {α:Type u_1} {l₁ l₂:List α} {i:Nat},i < List.length l₁->(l₁++l₂)[i]?=l₁[i]?:=@List.getElem?_append_left
theorem Ci:∀ {n m:Nat},Nat.beq n m=true->n=m:=@Nat.eq_of_beq_eq_true
theorem Cj.{u_1}:∀ {α:Type u_1} {a:α} {l:List α},(a :: l)[0]?=some a:=@List.getElem?_cons_zero
theorem Ck:∀ {a b:Bool},a=b↔(a=true↔b=true):=@Bool.eq_iff_iff
theorem DF.{u_1}:∀ {α:Type u_1} (a:α) (l:List α),List.Sublist l (a :: l):=@List.sublist_cons_self
theorem E9:∀ (b:Bool),(true && b)=b:=@Bool.true_and
theorem Hl:(false=true)=False:=@Bool.false_eq_true
theorem Ho:∀ (n m:Nat),n+m - n=m:=@Nat.add_sub_cancel_left
theorem Hq:∀ (b:Bool),(false && b)=false:=@Bool.false_and
abbrev ah := Value
theorem iP {a b:Bool} (h:a=b):Value.bool a=Value.bool b:=congrArg _ h
end
abbrev aR (f : FuncId) : Prop := ∀ (args : Array Value) (w : World), (callFunc f args).run Tryz.prog w = .ok (.enter f args) w
open Go.RowKit
section
def FW (r:Option Nat):Fence:={ Fence.wide with round:=r }
theorem PK (r:Option Nat):(FW r).depth.isSome=true->1<=(0:Nat):=by intro h;cases h
abbrev WP (r:Option Nat) (P:Program) (c:Code) (Q:Exit->Act->World->Prop) (a:Act) (w:World):Prop:=c.wpIn (FW r) 0 P Q a w
abbrev WL (r:Option Nat) (P:Program) (ops:Array Oper) (Q:Exit->Act->World->Prop) (l:List Oper) (a:Act) (w:World):Prop:=wpListIn (FW r) 0 P ops Q l a w
theorem V8 {r:Option Nat} {n:Nat} {P:Program} {f:FuncId} {args:Array ah} {w:World} {R:Ending->World->Prop} (h:Calls P f args w R):CallsIn (FW r) n P f args w R:=callsIn_wide.2 h
theorem aoy {r:Option Nat} {n:Nat} {P:Program} {f:FuncId} {args:Array ah} {w:World} {R:Ending->World->Prop} (h:CallsIn (FW r) n P f args w R):Calls P f args w R:=callsIn_wide.1 h
def lk:List (Nat × ah)->Nat->Option ah
 | [],_=>none
 | (s,v) :: r,t=>bif Nat.beq s t then some v else lk r t
theorem yB (t:Nat) (v:ah) (T:List (Nat × ah)):lk ((t,v) :: T) t=some v:=by simp [lk]
theorem xD {s t:Nat} (h:s≠t) (v:ah) (T:List (Nat × ah)):lk ((s,v) :: T) t=lk T t:=by
 have:Nat.beq s t=false:=by
  cases h':Nat.beq s t with
  | false=>rfl
  | true=>exact absurd (Ci h') h
 simp [lk,this]
def ev (T:List (Nat × ah)):Operand->Option ah
 | .tmp t=>lk T t
 | .const v=>some v
 | .global g=>some (.pointer (some ⟨g,0,none⟩))
 | .func f=>some (.func (.func f) #[] #[])
def evs (T:List (Nat × ah)):List Operand->Option (List ah)
 | []=>some []
 | x :: r=>match ev T x,evs T r with|some v,some vs=>some (v :: vs)|_,_=>none
abbrev GH:=Nat->Option Obj
structure Hp (w0:World) (F:Nat->Prop) (G0 G:GH) (L:List (Nat × Obj)) (w:World):Prop where
 os:w.os=w0.os
 tape:w.tape=w0.tape
 output:w.output=w0.output
 size:w0.heap.size<=w.heap.size
 wX:∀ k,F k->k < w0.heap.size
 fr:∀ k,F k->w.heap[k]?=w0.heap[k]?
 ro:∀ k o,G k=some o->w.heap[k]?=some o
 gm:∀ k o,G0 k=some o->G k=some o
 gx:∀ k o,G k=some o->G0 k=some o∨¬ F k
 own:∀ p∈L,w.heap[p.1]?=some p.2
 vI:∀ p∈L,G p.1=none
 vH:∀ p∈L,¬ F p.1
 nd:L.Pairwise fun p q=>p.1≠q.1
structure St (N:Nat) (D:List Deferred) (w0:World) (F:Nat->Prop) (G0 G:GH) (L:List (Nat × Obj)) (T:List (Nat × ah)) (a:Act) (w:World):Prop where
 oP:a.tmps.size=N
 get:∀ t v,lk T t=some v->a.tmps[t]?=some v
 vg:a.defers=D
 hp:Hp w0 F G0 G L w
theorem lt_of_heap {w:World} {k:Nat} {o:Obj} (h:w.heap[k]?=some o):k < w.heap.size:=(Array.getElem?_eq_some_iff.1 h).1
structure vV (b:Nat) (o:Obj) (w w':World):Prop where
 os:w'.os=w.os
 tape:w'.tape=w.tape
 output:w'.output=w.output
 size:w'.heap.size=w.heap.size
 this:w'.heap[b]?=some o
 others:∀ k,k≠b->w'.heap[k]?=w.heap[k]?
section
variable {N:Nat} {D:List Deferred} {w0 w w':World} {F:Nat->Prop} {G0 G G':GH} {L L':List (Nat × Obj)} {T:List (Nat × ah)} {a:Act} {b:Nat} {o o':Obj}
theorem Hp.lt (h:Hp w0 F G0 G L w) {p:Nat × Obj} (hp:p∈L):p.1 < w.heap.size:=lt_of_heap (h.own p hp)
theorem Hp.alloc (h:Hp w0 F G0 G L w) (o:Obj):Hp w0 F G0 G ((w.heap.size,o) :: L) (w.alloc o):=by
 have hold:∀ k,k < w.heap.size->(w.alloc o).heap[k]?=w.heap[k]?:=fun k hk=>Below.heap_alloc w o k hk
 refine ⟨h.os,h.tape,h.output,by simp;exact Nat.le_succ_of_le h.size,h.wX,fun k hk=>(hold k (Nat.lt_of_lt_of_le (h.wX k hk) h.size)).trans (h.fr k hk),fun k o' hk=>(hold k (lt_of_heap (h.ro k o' hk))).trans (h.ro k o' hk),h.gm,h.gx,?_,?_,?_,?_⟩
 ·intro p hp
  rcases gu.1 hp with rfl|hp
  ·show (w.heap.push o)[w.heap.size]?=some o;simp
  ·exact (hold _ (h.lt hp)).trans (h.own p hp)
 ·intro p hp
  rcases gu.1 hp with rfl|hp
  ·cases hg:G w.heap.size with
   | none=>rfl
   | some o'=>exact absurd (lt_of_heap (h.ro _ _ hg)) (Nat.lt_irrefl _)
  ·exact h.vI p hp
 ·intro p hp
  rcases gu.1 hp with rfl|hp
  ·intro hf;exact absurd (Nat.lt_of_lt_of_le (h.wX _ hf) h.size) (Nat.lt_irrefl _)
  ·exact h.vH p hp
 ·refine qC.2 ⟨fun q hq=>?_,h.nd⟩
  have:=h.lt hq
  simp only;omega
theorem Hp.below (h:Hp w0 F G0 G L w) (hb:Below w.heap.size w w'):Hp w0 F G0 G L w':=by
 refine ⟨hb.os.trans h.os,hb.tape.trans h.tape,hb.output.trans h.output,Nat.le_trans h.size hb.size,h.wX,fun k hk=>(hb.block k (Nat.lt_of_lt_of_le (h.wX k hk) h.size)).trans (h.fr k hk),fun k o hk=>(hb.block k (lt_of_heap (h.ro k o hk))).trans (h.ro k o hk),h.gm,h.gx,fun p hp=>(hb.block _ (h.lt hp)).trans (h.own p hp),h.vI,h.vH,h.nd⟩
def Ext (n1:Nat) (G G':GH) (w':World):Prop:=(∀ k o,G k=some o->G' k=some o)∧(∀ k o,G' k=some o->G k=some o∨n1<=k)∧(∀ k o,G' k=some o->w'.heap[k]?=some o)
theorem Hp.abJ (h:Hp w0 F G0 G L w) (hb:Below w.heap.size w w') (hx:Ext w.heap.size G G' w'):Hp w0 F G0 G' L w':=by
 have h':=h.below hb
 refine ⟨h'.os,h'.tape,h'.output,h'.size,h'.wX,h'.fr,hx.2.2,fun k o hk=>hx.1 k o (h.gm k o hk),fun k o hk=>?_,h'.own,fun p hp=>?_,h'.vH,h'.nd⟩
 ·rcases hx.2.1 k o hk with hk|hk
  ·exact h.gx k o hk
  ·exact .inr fun hf=>absurd (Nat.lt_of_lt_of_le (h.wX k hf) h.size) O
 ·cases hg:G' p.1 with
  | none=>rfl
  | some o =>
   rcases hx.2.1 _ _ hg with hk|hk
   ·rw [h.vI p hp] at hk;cases hk
   ·exact absurd (h.lt hp) O
theorem Z5:∀ {L:List (Nat × Obj)} {i b:Nat} {o o':Obj},L.Pairwise (fun p q=>p.1≠q.1)->L[i]?=some (b,o)->(L.set i (b,o')).Pairwise fun p q=>p.1≠q.1
 | [],_,_,_,_,h,_=>h
 | p :: L,0,b,o,o',h,hi=>by
  simp only [Cj,pX] at hi
  subst hi
  exact qC.2 ⟨(qC.1 h).1,(qC.1 h).2⟩
 | p :: L,i+1,b,o,o',h,hi=>by
  simp only [List.getElem?_cons_succ] at hi
  refine qC.2 ⟨fun q hq=>?_,Z5 (qC.1 h).2 hi⟩
  rcases List.mem_or_eq_of_mem_set hq with hq|rfl
  ·exact (qC.1 h).1 q hq
  ·exact (qC.1 h).1 (b,o) (lZ hi)
theorem ZN:∀ {L:List (Nat × Obj)} {i:Nat} {p q:Nat × Obj},L.Pairwise (fun p q=>p.1≠q.1)->L[i]?=some p->q∈L->q.1=p.1->q=p
 | [],_,_,_,_,h,_,_=>by simp at h
 | x :: L,0,p,q,h,hi,hq,e=>by
  simp only [Cj,pX] at hi
  subst hi
  rcases gu.1 hq with rfl|hq
  ·rfl
  ·exact absurd e.symm ((qC.1 h).1 q hq)
 | x :: L,i+1,p,q,h,hi,hq,e=>by
  simp only [List.getElem?_cons_succ] at hi
  rcases gu.1 hq with rfl|hq
  ·exact absurd e ((qC.1 h).1 p (lZ hi))
  ·exact ZN (qC.1 h).2 hi hq e
theorem Hp.upd (h:Hp w0 F G0 G L w) {i:Nat} (hi:L[i]?=some (b,o)) (hu:vV b o' w w'):Hp w0 F G0 G (L.set i (b,o')) w':=by
 have hm:(b,o)∈L:=lZ hi
 refine ⟨hu.os.trans h.os,hu.tape.trans h.tape,hu.output.trans h.output,hu.size ▸ h.size,h.wX,fun k hk=>?_,fun k o hk=>?_,h.gm,h.gx,fun p hp=>?_,fun p hp=>?_,fun p hp=>?_,Z5 h.nd hi⟩
 ·exact (hu.others k (fun e=>h.vH _ hm (e ▸ hk))).trans (h.fr k hk)
 ·refine (hu.others k (fun e=>?_)).trans (h.ro k o hk)
  have:=h.vI _ hm
  rw [<- e,hk] at this;cases this
 ·by_cases e:p.1=b
  ·rcases List.mem_or_eq_of_mem_set hp with hp'|rfl
   ·obtain ⟨j,hj⟩:=List.getElem?_of_mem hp
    have hib:i < L.length:=(jZ.1 hi).1
    have hset:(L.set i (b,o'))[i]?=some (b,o'):=by simp [hib]
    have:=ZN (Z5 (o':=o') h.nd hi) hset hp e
    rw [this];exact hu.this
   ·exact hu.this
  ·rcases List.mem_or_eq_of_mem_set hp with hp|rfl
   ·exact (hu.others _ e).trans (h.own p hp)
   ·exact absurd M e
 ·rcases List.mem_or_eq_of_mem_set hp with hp|rfl
  ·exact h.vI p hp
  ·exact (h.vI (b,o) hm:G b=none)
 ·rcases List.mem_or_eq_of_mem_set hp with hp|rfl
  ·exact h.vH p hp
  ·exact (h.vH (b,o) hm:¬ F b)
theorem Hp.drew (h:Hp w0 F G0 G L w):Hp w0 F G0 G L w.drew:=⟨h.os,h.tape,h.output,h.size,h.wX,h.fr,h.ro,h.gm,h.gx,h.own,h.vI,h.vH,h.nd⟩
theorem Hp.drop (h:Hp w0 F G0 G L w) (hs:L'.Sublist L):Hp w0 F G0 G L' w:=⟨h.os,h.tape,h.output,h.size,h.wX,h.fr,h.ro,h.gm,h.gx,fun p hp=>h.own p (hs.subset hp),fun p hp=>h.vI p (hs.subset hp),fun p hp=>h.vH p (hs.subset hp),h.nd.sublist hs⟩
theorem Hp.eD {Pl dK Lo:List (Nat × Obj)} (h:Hp w0 F G0 G (Pl++Lo) w) (idx:List Nat) (hi:idx.Nodup) (hL:idx.map (fun i=>Pl[i]?)=dK.map some):Hp w0 F G0 G (dK++Lo) w:=by
 have hget:∀ (j:Nat) (p:Nat × Obj),dK[j]?=some p->∃ i:Nat,idx[j]?=some i∧Pl[i]?=some p:=by
  intro j p hp
  have h1:(idx.map (fun i=>Pl[i]?))[j]?=some (some p):=by rw [hL];simp [hp]
  rw [qD] at h1
  obtain ⟨i,hi1,hi2⟩:=oO.1 h1
  exact ⟨i,hi1,hi2⟩
 have hmem:∀ p∈dK++Lo,p∈Pl++Lo:=by
  intro p hp
  rcases kC.1 hp with hp|hp
  ·obtain ⟨j,hj⟩:=List.getElem?_of_mem hp
   obtain ⟨i,_,hi2⟩:=hget j p hj
   exact List.mem_append_left _ (lZ hi2)
  ·exact List.mem_append_right _ hp
 have hnd:=List.pairwise_append.1 h.nd
 refine ⟨h.os,h.tape,h.output,h.size,h.wX,h.fr,h.ro,h.gm,h.gx,fun p hp=>h.own p (hmem p hp),fun p hp=>h.vI p (hmem p hp),fun p hp=>h.vH p (hmem p hp),List.pairwise_append.2 ⟨?_,hnd.2.1,fun p hp q hq=>?_⟩⟩
 ·refine List.pairwise_iff_getElem.2 fun x y hx hy hxy=>?_
  obtain ⟨i,hi1,hi2⟩:=hget x _ (eB hx)
  obtain ⟨j,hj1,hj2⟩:=hget y _ (eB hy)
  have hij:i≠j:=by
   intro e
   subst e
   obtain ⟨hx1,hx2⟩:=jZ.1 hi1
   obtain ⟨hy1,hy2⟩:=jZ.1 hj1
   exact (List.pairwise_iff_getElem.1 hi x y hx1 hy1 hxy) (by rw [hx2,hy2])
  obtain ⟨hi3,hi4⟩:=jZ.1 hi2
  obtain ⟨hj3,hj4⟩:=jZ.1 hj2
  rcases Nat.lt_or_ge i j with hlt|hge
  ·rw [<- hi4,<- hj4];exact List.pairwise_iff_getElem.1 hnd.1 i j hi3 hj3 hlt
  ·rw [<- hi4,<- hj4];exact Ne.symm (List.pairwise_iff_getElem.1 hnd.1 j i hj3 hi3 O)
 ·obtain ⟨j,hj⟩:=List.getElem?_of_mem hp
  obtain ⟨i,_,hi2⟩:=hget j p hj
  exact hnd.2.2 p (lZ hi2) q hq
def GH.add (G:GH) (b:Nat) (o:Obj):GH:=fun k=>if k=b then some o else G k
theorem GH.J4 (G:GH) {b:Nat} {o:Obj} (hn:G b=none) (k:Nat) (o':Obj) (h:G k=some o'):(G.add b o) k=some o':=by
 unfold GH.add;rw [au (fun e=>by subst e;rw [hn] at h;cases h)];exact h
theorem GH.J5 (G:GH) (b:Nat) (o:Obj):(G.add b o) b=some o:=by simp [GH.add]
theorem Hp.giveUp (h:Hp w0 F G0 G L w) (i:Nat) (hi:L[i]?=some (b,o)):Hp w0 F G0 (G.add b o) (L.eraseIdx i) w:=by
 have hm:(b,o)∈L:=lZ hi
 have hsub:(L.eraseIdx i).Sublist L:=List.eraseIdx_sublist L i
 have hne:∀ p∈L.eraseIdx i,p.1≠b:=by
  intro p hp e
  have h1:=ZN h.nd hi (hsub.subset hp) e
  subst h1
  obtain ⟨j,hj,hjp⟩:=List.mem_eraseIdx_iff_getElem?.1 hp
  have hnd:=h.nd
  have hij:j≠i:=hj
  have hlt1:j < L.length:=(jZ.1 hjp).1
  have hlt2:i < L.length:=(jZ.1 hi).1
  have e1:=(jZ.1 hjp).2
  have e2:=(jZ.1 hi).2
  rcases Nat.lt_or_ge j i with hlt|hge
  ·exact (List.pairwise_iff_getElem.1 hnd j i hlt1 hlt2 hlt) (by rw [e1,e2])
  ·exact (List.pairwise_iff_getElem.1 hnd i j hlt2 hlt1 O) (by rw [e1,e2])
 refine ⟨h.os,h.tape,h.output,h.size,h.wX,h.fr,fun k o' hk=>?_,fun k o' hk=>GH.J4 G (h.vI _ hm) k o' (h.gm k o' hk),fun k o' hk=>?_,fun p hp=>h.own p (hsub.subset hp),fun p hp=>?_,fun p hp=>h.vH p (hsub.subset hp),h.nd.sublist hsub⟩
 ·unfold GH.add at hk
  split at hk
  ·rename_i e;subst e;cases hk;exact h.own _ hm
  ·exact h.ro k o' hk
 ·unfold GH.add at hk
  split at hk
  ·rename_i e;subst e;exact .inr (h.vH _ hm)
  ·exact h.gx k o' hk
 ·unfold GH.add
  rw [au (hne p hp)]
  exact h.vI p (hsub.subset hp)
theorem St.ev (h:St N D w0 F G0 G L T a w) {x:Operand} {v:ah} (hx:Proofs.YtdiflmikikiedaaGreat.ev T x=some v):a.eval x=v:=by
 cases x with
 | tmp t =>
  have:=h.get t v hx
  simp only [Act.eval,Array.getD_eq_getD_getElem?,this,Option.getD_some]
 | const u=>simp only [Proofs.YtdiflmikikiedaaGreat.ev,pX] at hx;subst hx;rfl
 | global g=>simpa [Proofs.YtdiflmikikiedaaGreat.ev,Act.eval] using hx
 | func f=>simpa [Proofs.YtdiflmikikiedaaGreat.ev,Act.eval] using hx
theorem St.evs (h:St N D w0 F G0 G L T a w):∀ {xs:List Operand} {vs:List ah},Proofs.YtdiflmikikiedaaGreat.evs T xs=some vs->xs.map a.eval=vs
 | [],vs,hx=>by simp [Proofs.YtdiflmikikiedaaGreat.evs] at hx;subst hx;rfl
 | x :: xs,vs,hx=>by
  unfold Proofs.YtdiflmikikiedaaGreat.evs at hx
  split at hx
  ·rename_i v vs' h1 h2
   simp only [pX] at hx
   subst hx
   rw [dO,h.ev h1,h.evs h2]
  ·cases hx
theorem St.put (h:St N D w0 F G0 G L T a w) {d:Nat} (hd:Nat.blt d N=true) (v:ah) (H':Hp w0 F G0 G' L' w'):St N D w0 F G0 G' L' ((d,v) :: T) (a.put (some d) v) w':=by
 have hlt:d < a.tmps.size:=by rw [h.oP];exact Eq.mp Nat.blt_eq hd
 refine ⟨by simp [Act.put,h.oP],fun t u ht=>?_,h.vg,H'⟩
 simp only [Act.put,Array.getElem?_setIfInBounds]
 by_cases e:d=t
 ·subst e
  rw [yB] at ht
  simp [hlt];simpa using ht
 ·rw [xD e] at ht
  simp [e];exact h.get t u ht
theorem St.move (h:St N D w0 F G0 G L T a w) (H':Hp w0 F G0 G' L' w'):St N D w0 F G0 G' L' T a w':=⟨h.oP,h.get,h.vg,H'⟩
def aaE (T:List (Nat × ah)):List (Nat × ah)->Prop
 | []=>True
 | (t,v) :: r=>lk T t=some v∧aaE T r
theorem alB {T:List (Nat × ah)}:∀ {T':List (Nat × ah)},aaE T T'->∀ {t v},lk T' t=some v->lk T t=some v
 | [],_,_,_,h=>by simp [lk] at h
 | (s,u) :: r,hs,t,v,h=>by
  by_cases e:s=t
  ·subst e;rw [yB] at h;exact h ▸ hs.1
  ·rw [xD e] at h;exact alB hs.2 h
theorem St.sub (h:St N D w0 F G0 G L T a w) {T':List (Nat × ah)} (hs:aaE T T'):St N D w0 F G0 G L T' a w:=⟨h.oP,fun t v ht=>h.get t v (alB hs ht),h.vg,h.hp⟩
theorem St.eD {Pl dK Lo:List (Nat × Obj)} (h:St N D w0 F G0 G (Pl++Lo) T a w) (idx:List Nat) (hi:idx.Nodup) (hL:idx.map (fun i=>Pl[i]?)=dK.map some):St N D w0 F G0 G (dK++Lo) T a w:=⟨h.oP,h.get,h.vg,h.hp.eD idx hi hL⟩
end
end
section
section base
variable {r:Option Nat} {P:Program} {ops:Array Oper} {Q:Exit->Act->World->Prop} {rest:List Oper} {a:Act} {w w':World} {o:Oper}
def SV:Op->Bool
 | .defer _=>false
 | _=>true
theorem aav {o:Oper} {ro:Option Nat} {ρ:Operand->ah} (h:SV o.op=true):o.semAt ro ρ=execOp ρ o :=
 Oper.semAt_eq ro ρ o fun c e=>by rw [e] at h;cases h
theorem aD (h:Q .normal a w):WL r P ops Q [] a w:=wpListIn_nil h
theorem aaY (hw:Region.wanted o (yielded ops a.tmps)=true) (h:o.wpIn (FW r) 0 P a w (WL r P ops Q rest) Q):WL r P ops Q (o :: rest) a w:=by
 show wpListIn (FW r) 0 P ops Q (o :: rest) a w
 unfold wpListIn
 rw [ay hw]
 exact h
theorem amu (hw:Region.wanted o (yielded ops a.tmps)=false) (h:WL r P ops Q rest (a.put o.dst undef) w):WL r P ops Q (o :: rest) a w:=by
 show wpListIn (FW r) 0 P ops Q (o :: rest) a w
 unfold wpListIn
 rw [au (by simp [hw])]
 exact ⟨fun _ _=>trivial,h⟩
theorem fI {v:ah} (hw:Region.wanted o (yielded ops a.tmps)=true) (hd:SV o.op=true) (h:(execOp a.eval o).run P w=.ok (.value v) w')
  (k:WL r P ops Q rest (a.put o.dst v) w'):WL r P ops Q (o :: rest) a w:=by
 refine aaY hw ⟨fun _ _=>trivial,?_⟩
 rw [aav hd,h]
 exact k
theorem aaZ (hw:Region.wanted o (yielded ops a.tmps)=true) (hd:SV o.op=true) (h:(execOp a.eval o).run P w=.ok .skip w')
  (k:WL r P ops Q rest (a.put o.dst undef) w'):WL r P ops Q (o :: rest) a w:=by
 refine aaY hw ⟨fun _ _=>trivial,?_⟩
 rw [aav hd,h]
 exact k
def After (P:Program) (nx:Result Next) (R:Ending->World->Prop):Prop :=
 match nx with
 | .ok (.enter f args) w'=>Calls P f args w' R
 | .ok (.round l f tmps assign body) w'=>RoundIn (FW none) 0 P l f tmps assign body w' R
 | _=>False
structure uh (P:Program) (fv:ah) (args:List ah) (w:World) (R:Ending->World->Prop):Prop where
 go:After P ((do let d <- Deferred.ofValue fv args.toArray;invoke d.target d.args:Sem Next).run P w) R
theorem aaX {nx:Result Next} {R:Ending->World->Prop} (hw:Region.wanted o (yielded ops a.tmps)=true) (hd:SV o.op=true) (h:(execOp a.eval o).run P w=nx) (hc:After P nx R)
  (k:∀ e w',R e w'->∃ v,e=.returned v∧WL r P ops Q rest (a.put o.dst v) w'):WL r P ops Q (o :: rest) a w:=by
 refine aaY hw ⟨fun _ _=>trivial,?_⟩
 rw [aav hd,h]
 cases nx with
 | halt x y=>exact hc.elim
 | ok x w1 =>
  cases x with
  | enter f args =>
   refine ⟨PK r,(V8 hc).mono fun e w2 hR=>?_⟩
   obtain ⟨v,rfl,hk⟩:=k e w2 hR
   exact hk
  | round l f tmps assign body =>
   have hc':RoundIn (FW none) 0 P l f tmps assign body w1 R:=hc
   refine ⟨PK r,?_⟩
   have h2:RoundIn (FW r) (0 - 1) P l f tmps assign body w1 R:=⟨aC,fun c cs hr=>hc'.2 c cs (room_wide _)⟩
   exact h2.mono fun e w2 hR=>by obtain ⟨v,rfl,hk⟩:=k e w2 hR;exact hk
  | _=>exact hc.elim
end base
section steps
variable {N:Nat} {D:List Deferred} {w0:World} {F:Nat->Prop} {G0 G:GH} {L:List (Nat × Obj)} {T:List (Nat × ah)}
variable {r:Option Nat} {P:Program} {ops:Array Oper} {Q:Exit->Act->World->Prop} {rest:List Oper} {a:Act} {w:World}
variable {d:Nat} {ty:TypeId} {pos:String} {aL:Array Edge} {g:Option (Nat × Bool)}
theorem wn {op:Op} {dst:Option Tmp} {y:Nat->Option Bool}:Region.wanted ⟨dst,op,ty,pos,aL,none⟩ y=true:=rfl
theorem amx (H:St N D w0 F G0 G L T a w) {j t:Nat} {b:Bool} (hj:(ops[j]?).bind (·.dst)=some t) (ht:lk T t=some (.bool b)):yielded ops a.tmps j=some b:=by
 unfold yielded
 rw [hj]
 simp [H.get t _ ht]
theorem wg (H:St N D w0 F G0 G L T a w) {op:Op} {dst:Option Tmp} {j t:Nat} {want b:Bool} (hj:(ops[j]?).bind (·.dst)=some t) (ht:lk T t=some (.bool b)) (hb:b=want) :
  Region.wanted ⟨dst,op,ty,pos,aL,some (j,want)⟩ (yielded ops a.tmps)=true:=by
 simp [Region.wanted,amx H hj ht,hb]
theorem akY (H:St N D w0 F G0 G L T a w) {op:Op} {j t:Nat} {want b:Bool} (hj:(ops[j]?).bind (·.dst)=some t) (ht:lk T t=some (.bool b)) (hb:b=!want) (hd:Nat.blt d N=true)
  (k:∀ a',St N D w0 F G0 G L ((d,undef) :: T) a' w->WL r P ops Q rest a' w):WL r P ops Q (⟨some d,op,ty,pos,aL,some (j,want)⟩ :: rest) a w:=by
 refine amu ?_ (k _ (H.put hd undef H.hp))
 simp only [Region.wanted,amx H hj ht,hb]
 cases want <;> rfl
theorem aB2 (H:St N D w0 F G0 G L T a w) {op:Op} {j t:Nat} {want:Bool} (hj:(ops[j]?).bind (·.dst)=some t) (ht:lk T t=some undef) (hd:Nat.blt d N=true)
  (k:∀ a',St N D w0 F G0 G L ((d,undef) :: T) a' w->WL r P ops Q rest a' w):WL r P ops Q (⟨some d,op,ty,pos,aL,some (j,want)⟩ :: rest) a w:=by
 refine amu ?_ (k _ (H.put hd undef H.hp))
 have h:yielded ops a.tmps j=none:=by
  unfold yielded
  rw [hj]
  simp [H.get t _ ht,undef]
 simp only [Region.wanted,h]
 cases want <;> rfl
theorem aat (_H:St N D w0 F G0 G L T a w) (t:Nat) {b:Bool} {X:Prop} (_ht:lk T t=some (.bool b)) (h1:b=true->X) (h0:b=false->X):X:=by cases b <;> simp_all
theorem Jy {x:Operand} {v:ah} (H:St N D w0 F G0 G L T a w) (hw:Region.wanted ⟨some d,.move x,ty,pos,aL,g⟩ (yielded ops a.tmps)=true) (hx:ev T x=some v) (hd:Nat.blt d N=true)
  (k:∀ a',St N D w0 F G0 G L ((d,v) :: T) a' w->WL r P ops Q rest a' w):WL r P ops Q (⟨some d,.move x,ty,pos,aL,g⟩ :: rest) a w :=
 fI (v:=v) (w':=w) hw M (by simp [execOp,H.ev hx]) (k _ (H.put hd v H.hp))
theorem aBP {x:Operand} {v:ah} (H:St N D w0 F G0 G L T a w) (hw:Region.wanted ⟨some d,.assign x,ty,pos,aL,g⟩ (yielded ops a.tmps)=true) (hx:ev T x=some v) (hd:Nat.blt d N=true)
  (k:∀ a',St N D w0 F G0 G L ((d,v) :: T) a' w->WL r P ops Q rest a' w):WL r P ops Q (⟨some d,.assign x,ty,pos,aL,g⟩ :: rest) a w :=
 fI (v:=v) (w':=w) hw M (by simp [execOp,H.ev hx]) (k _ (H.put hd v H.hp))
theorem O4 {c x y:Operand} {b:Bool} {v:ah} (H:St N D w0 F G0 G L T a w) (hw:Region.wanted ⟨some d,.pick c x y,ty,pos,aL,g⟩ (yielded ops a.tmps)=true) (hc:ev T c=some (.bool b)) (hb:b=true) (hx:ev T x=some v) (hd:Nat.blt d N=true)
  (k:∀ a',St N D w0 F G0 G L ((d,v) :: T) a' w->WL r P ops Q rest a' w):WL r P ops Q (⟨some d,.pick c x y,ty,pos,aL,g⟩ :: rest) a w :=
 fI (v:=v) (w':=w) hw M (by simp [execOp,H.ev hx,H.ev hc,asBool,hb]) (k _ (H.put hd v H.hp))
theorem TP {c x y:Operand} {b:Bool} {v:ah} (H:St N D w0 F G0 G L T a w) (hw:Region.wanted ⟨some d,.pick c x y,ty,pos,aL,g⟩ (yielded ops a.tmps)=true) (hc:ev T c=some (.bool b)) (hb:b=false) (hx:ev T y=some v) (hd:Nat.blt d N=true)
  (k:∀ a',St N D w0 F G0 G L ((d,v) :: T) a' w->WL r P ops Q rest a' w):WL r P ops Q (⟨some d,.pick c x y,ty,pos,aL,g⟩ :: rest) a w :=
 fI (v:=v) (w':=w) hw M (by simp [execOp,H.ev hx,H.ev hc,asBool,hb]) (k _ (H.put hd v H.hp))
class Und (P:Program) (t:TypeId) (d:outParam TypeDesc):Prop where
 h:P.underlying t=some d
class Ty (P:Program) (t:TypeId) (sz bytes:outParam Nat) (zero:outParam (List ah)) (agg:outParam Bool):Prop where
 info:(P.info? t).map (fun i=>(i.size,i.bytes,i.zero.map fun z=>z.cells.toList))=some (sz,bytes,some zero)
 ag:(P.underlying t).map (fun|.struct _=>true|.array _ _=>true|_=>false)=some agg
theorem Ty.parts {t:TypeId} {sz bytes:Nat} {zero:List ah} {agg:Bool} (h:Ty P t sz bytes zero agg):∃ i z,P.info? t=some i∧i.size=sz∧i.bytes=bytes∧i.zero=some z∧z.cells=zero.toArray:=by
 obtain ⟨i,hi,hx⟩:=oO.1 h.info
 simp only [iX] at hx
 obtain ⟨z,hz,hzz⟩:=oO.1 hx.2.2
 exact ⟨i,z,hi,hx.1,hx.2.1,hz,by rw [<- hzz]⟩
theorem Gm {t:TypeId} {i:TypeInfo} (h:P.info? t=some i) (w:World):(typeInfo t).run P w=.ok i w:=by simp [typeInfo,program,Sem.run,dP,h]
theorem Ty.Am {t:TypeId} {sz bytes:Nat} {zero:List ah} {agg:Bool} (h:Ty P t sz bytes zero agg) (w:World):(sizeOf t).run P w=.ok sz w:=by
 obtain ⟨i,z,hi,h1,-,-,-⟩:=h.parts
 simp [sizeOf,dP,Gm hi,h1]
theorem Ty.akL {t:TypeId} {sz bytes:Nat} {zero:List ah} {agg:Bool} (h:Ty P t sz bytes zero agg) (w:World):∃ z,(zeroValue t).run P w=.ok z w∧z.cells=zero.toArray:=by
 obtain ⟨i,z,hi,-,-,h1,h2⟩:=h.parts
 exact ⟨z,by simp [zeroValue,dP,Gm hi,h1],h2⟩
theorem nu {t:TypeId} {u:TypeDesc} (h:P.underlying t=some u) (w:World):(underlying t).run P w=.ok u w:=by simp [underlying,program,Sem.run,dP,h]
theorem Ty.TI {t:TypeId} {sz bytes:Nat} {zero:List ah} {agg:Bool} (h:Ty P t sz bytes zero agg) (w:World):(isAgg t).run P w=.ok agg w:=by
 obtain ⟨u,hu,hx⟩:=oO.1 h.ag
 unfold isAgg
 simp only [dP,nu hu,nY]
 cases u <;> simp_all
theorem dW {elem:TypeId} {sz bytes:Nat} {zero:List ah} {agg:Bool} (ht:Ty P elem sz bytes zero agg) (H:St N D w0 F G0 G L T a w) (hw:Region.wanted ⟨some d,.alloc elem,ty,pos,aL,g⟩ (yielded ops a.tmps)=true) (hd:Nat.blt d N=true)
  (k:∀ b a' w',w0.heap.size<=b->St N D w0 F G0 G ((b,.cells zero.toArray elem (0,0)) :: L) ((d,.pointer (some ⟨b,0,none⟩)) :: T) a' w'->WL r P ops Q rest a' w'):WL r P ops Q (⟨some d,.alloc elem,ty,pos,aL,g⟩ :: rest) a w:=by
 obtain ⟨z,hz,hzc⟩:=ht.akL w
 refine fI (v:=.pointer (some ⟨w.heap.size,0,none⟩)) (w':=w.alloc (.cells zero.toArray elem (0,0))) hw M ?_ (k _ _ _ H.hp.size (H.put hd _ (H.hp.alloc _)))
 simp [execOp,Instr.alloc,dP,hz,newVar,newRow,newObj,Sem.run,hzc]
theorem dZ {elem:TypeId} {x:Operand} {v:ah} {cs:List ah} (H:St N D w0 F G0 G L T a w) (hw:Region.wanted ⟨some d,.box elem x,ty,pos,aL,g⟩ (yielded ops a.tmps)=true) (hx:ev T x=some v) (hc:v.cells=cs.toArray) (hd:Nat.blt d N=true)
  (k:∀ b a' w',w0.heap.size<=b->St N D w0 F G0 G ((b,.cells cs.toArray elem (0,0)) :: L) ((d,.pointer (some ⟨b,0,none⟩)) :: T) a' w'->WL r P ops Q rest a' w'):WL r P ops Q (⟨some d,.box elem x,ty,pos,aL,g⟩ :: rest) a w:=by
 refine fI (v:=.pointer (some ⟨w.heap.size,0,none⟩)) (w':=w.alloc (.cells cs.toArray elem (0,0))) hw M ?_ (k _ _ _ H.hp.size (H.put hd _ (H.hp.alloc _)))
 simp [execOp,Instr.box,dP,newVar,newRow,newObj,Sem.run,H.ev hx,hc]
def aI (G:GH) (b o:Nat):Option ah:=match G b with|some (.cells c _ _)=>c[o]?|_=>none
theorem Hp.aI (h:Hp w0 F G0 G L w) {b o:Nat} {v:ah} (hg:Proofs.YtdiflmikikiedaaGreat.aI G b o=some v):w.cell? ⟨b,o,none⟩=some v:=by
 unfold Proofs.YtdiflmikikiedaaGreat.aI at hg
 split at hg
 ·rename_i c e f he
  simp only [World.cell?,h.ro b _ he]
  exact hg
 ·cases hg
theorem Hp.uN (h:Hp w0 F G0 G L w) (i:Nat) {b o:Nat} {c:Array ah} {e:TypeId} {fz:Nat × Nat} {v:ah} (hi:L[i]?=some (b,.cells c e fz)) (hv:c[o]?=some v):w.cell? ⟨b,o,none⟩=some v:=by
 have:=h.own _ (lZ hi)
 simp only [World.cell?] at *
 rw [this]
 exact hv
theorem add_lit (b o n:Nat):(⟨b,o,none⟩:Addr).add n=⟨b,o+n,none⟩:=by
 unfold Addr.add
 split
 ·rename_i h;subst h;rfl
 ·rfl
theorem aak {b o:Nat} {v:ah} (h:w.cell? ⟨b,o,none⟩=some v):(load ⟨b,o,none⟩).run P w=.ok v w:=by simp [load,Sem.run,h]
theorem run_loadCells (b:Nat) (w:World):∀ (cs:List ah) (o i:Nat) (acc:Array ah),(∀ j v,cs[j]?=some v->w.cell? ⟨b,o+i+j,none⟩=some v) ->
  (loadCellsFrom ⟨b,o,none⟩ i cs.length acc).run P w=.ok (acc++cs.toArray) w
 | [],o,i,acc,_=>by simp [loadCellsFrom,Sem.run]
 | c :: cs,o,i,acc,h=>by
  have h0:=h 0 c M
  have ih:=run_loadCells b w cs o (i+1) (acc.push c) (fun j v hj=>by have:=h (j+1) v (by simpa using hj);rw [<- this];congr 2;omega)
  simp only [loadCellsFrom,kR,dP,add_lit,aak (P:=P) (by simpa using h0),nY,ih]
  congr 1
  apply Array.ext'
  simp
theorem sF {t:TypeId} {sz bytes:Nat} {zero:List ah} (ht:Ty P t sz bytes zero false) {x:Operand} {b o:Nat} {v:ah} (H:St N D w0 F G0 G L T a w) (hw:Region.wanted ⟨some d,.load t x,ty,pos,aL,g⟩ (yielded ops a.tmps)=true)
  (hx:ev T x=some (.pointer (some ⟨b,o,none⟩))) (hc:w.cell? ⟨b,o,none⟩=some v) (hd:Nat.blt d N=true)
  (k:∀ a',St N D w0 F G0 G L ((d,v) :: T) a' w->WL r P ops Q rest a' w):WL r P ops Q (⟨some d,.load t x,ty,pos,aL,g⟩ :: rest) a w:=by
 refine fI (v:=v) (w':=w) hw M ?_ (k _ (H.put hd v H.hp))
 simp only [execOp,Instr.loadAt,Instr.sureAddr,loadVar,dP,H.ev hx,ht.TI,nY,rR,Hl,if_false,aak hc]
theorem bQ {t:TypeId} {sz bytes:Nat} {zero:List ah} (ht:Ty P t sz bytes zero true) {x:Operand} {b o:Nat} {cs:List ah} (H:St N D w0 F G0 G L T a w) (hw:Region.wanted ⟨some d,.load t x,ty,pos,aL,g⟩ (yielded ops a.tmps)=true)
  (hx:ev T x=some (.pointer (some ⟨b,o,none⟩))) (hl:cs.length=sz) (hc:∀ j v,cs[j]?=some v->w.cell? ⟨b,o+j,none⟩=some v) (hd:Nat.blt d N=true)
  (k:∀ a',St N D w0 F G0 G L ((d,.agg cs.toArray) :: T) a' w->WL r P ops Q rest a' w):WL r P ops Q (⟨some d,.load t x,ty,pos,aL,g⟩ :: rest) a w:=by
 refine fI (v:=.agg cs.toArray) (w':=w) hw M ?_ (k _ (H.put hd _ H.hp))
 have h1:=run_loadCells (P:=P) b w cs o 0 #[] (fun j v hj=>by simpa using hc j v hj)
 simp only [Array.empty_append,hl] at h1
 simp [execOp,Instr.loadAt,Instr.sureAddr,loadVar,dP,H.ev hx,ht.TI,ht.Am,loadCells,h1]
theorem Hp.dG (h:Hp w0 F G0 G L w) (i:Nat) {b o:Nat} {c:List ah} {e:TypeId} {fz:Nat × Nat} {cs:List ah} (hi:L[i]?=some (b,.cells c.toArray e fz)) (hv:(c.drop o).take cs.length=cs):∀ j v,cs[j]?=some v->w.cell? ⟨b,o+j,none⟩=some v:=by
 intro j v hj
 refine h.uN i hi ?_
 rw [<- hv,uS] at hj
 split at hj
 ·rw [List.getElem?_drop] at hj
  simpa using hj
 ·cases hj
theorem aDE {b o:Nat} {c:Array ah} {e:TypeId} {fz:Nat × Nat} (h:w.heap[b]?=some (.cells c e fz)) (v:ah):vV b (.cells (c.setIfInBounds o v) e fz) w (w.setCell ⟨b,o,none⟩ v):=by
 refine ⟨M,M,M,by simp,?_,fun k hk=>Below.heap_setCell w _ v k hk⟩
 simp [World.setCell,Array.getElem?_modify,h]
theorem vV.trans {b:Nat} {o1 o2:Obj} {w1 w2 w3:World} (h:vV b o1 w1 w2) (k:vV b o2 w2 w3):vV b o2 w1 w3 :=
 ⟨k.os.trans h.os,k.tape.trans h.tape,k.output.trans h.output,k.size.trans h.size,k.this,fun j hj=>(k.others j hj).trans (h.others j hj)⟩
theorem vV.refl {b:Nat} {o:Obj} {w:World} (h:w.heap[b]?=some o):vV b o w w:=⟨M,M,M,M,h,fun _ _=>rfl⟩
def oneCell':ah->Bool
 | .agg _|.tuple _=>false
 | _=>true
def setRow (c:List ah):Nat->List ah->List ah
 | _,[]=>c
 | o,v :: vs=>setRow (c.set o v) (o+1) vs
theorem aBH {b o:Nat} {c:Array ah} {e:TypeId} {v:ah} (hb:w.heap[b]?=some (.cells c e (0,0))) (ho:o < c.size) (hv:oneCell' v=true) :
  (store ⟨b,o,none⟩ v).run P w=.ok () (w.setCell ⟨b,o,none⟩ v):=by
 have h1:w.cell? ⟨b,o,none⟩=some c[o]:=by simp [World.cell?,hb,ho]
 have h2:w.frozen? ⟨b,o,none⟩=false:=by simp [World.frozen?,hb]
 unfold store
 cases v <;> first|(simp [oneCell'] at hv;done)|(simp only [Sem.run,h1,h2];rfl)
theorem aal (b:Nat) (e:TypeId) (o0:Nat):∀ (vs:List ah) (i:Nat) (c:List ah) (w:World),w.heap[b]?=some (.cells c.toArray e (0,0))->o0+i+vs.length<=c.length->(∀ v∈vs,oneCell' v=true) ->
  ∃ w',(storeCells ⟨b,o0,none⟩ vs i).run P w=.ok () w'∧vV b (.cells (setRow c (o0+i) vs).toArray e (0,0)) w w'
 | [],i,c,w,hb,_,_=>⟨w,by simp [storeCells,Sem.run],vV.refl hb⟩
 | v :: vs,i,c,w,hb,hl,hv=>by
  simp only [kR] at hl
  have hr:=aBH (P:=P) (o:=o0+i) (v:=v) hb (by simp;omega) (hv v (by simp))
  have hu:=aDE (o:=o0+i) hb v
  have hb':=hu.this
  simp only [List.setIfInBounds_toArray] at hb' hu
  obtain ⟨w2,h2,u2⟩:=aal b e o0 vs (i+1) (c.set (o0+i) v) _ hb' (by simp;omega) (fun u hu=>hv u (by simp [hu]))
  refine ⟨w2,?_,?_⟩
  ·simp only [storeCells,dP,add_lit,hr,nY,h2]
  ·exact hu.trans u2
theorem Mt {t:TypeId} {sz bytes:Nat} {zero:List ah} {agg:Bool} (ht:Ty P t sz bytes zero agg) {x y:Operand} (i:Nat) {b o:Nat} {c:List ah} {e:TypeId} {v:ah} {vs:List ah} (c':List ah) (H:St N D w0 F G0 G L T a w) (hw:Region.wanted ⟨none,.store t x y,ty,pos,aL,g⟩ (yielded ops a.tmps)=true)
  (hx:ev T x=some (.pointer (some ⟨b,o,none⟩))) (hi:L[i]?=some (b,.cells c.toArray e (0,0))) (hy:ev T y=some v) (hvs:v.cells=vs.toArray) (hl:Nat.beq vs.length sz=true) (h1:vs.all oneCell'=true) (hle:Nat.ble (o+vs.length) c.length=true) (hset:setRow c o vs=c')
  (k:∀ w',St N D w0 F G0 G (L.set i (b,.cells c'.toArray e (0,0))) T a w'->WL r P ops Q rest a w'):WL r P ops Q (⟨none,.store t x y,ty,pos,aL,g⟩ :: rest) a w:=by
 have hb:=H.hp.own _ (lZ hi)
 obtain ⟨w2,h2,u2⟩:=aal (P:=P) b e o vs 0 c w hb (by simpa using Nat.le_of_ble_eq_true hle) (fun u hu=>jR.1 h1 u hu)
 simp only [sJ,hset] at u2
 refine aaZ (w':=w2) hw M ?_ (k w2 (H.move (H.hp.upd hi u2)))
 have hl':vs.length=sz:=Ci hl
 simp [execOp,Instr.storeAt,Instr.sureAddr,storeVar,dP,H.ev hx,H.ev hy,ht.Am,hvs,hl',h2]
class dR (P:Program) (s n:Nat) (off:outParam Nat):Prop where
 h:(match P.underlying s with|some (.struct fs)=>(fs[n]?).bind fun f=>(P.info? f.type).map fun i=>(f.offset,i.size == 0)|_=>none)=some (off,false)
theorem dR.parts {s n off:Nat} (h:dR P s n off):∃ fs fl i,P.underlying s=some (.struct fs)∧fs[n]?=some fl∧P.info? fl.type=some i∧fl.offset=off∧i.size≠0:=by
 obtain ⟨h⟩:=h
 split at h
 ·rename_i fs hs
  obtain ⟨fl,hf,h2⟩:=Option.bind_eq_some_iff.1 h
  obtain ⟨i,hi,h3⟩:=oO.1 h2
  simp only [iX,beq_eq_false_iff_ne] at h3
  exact ⟨fs,fl,i,hs,hf,hi,h3.1,h3.2⟩
 ·cases h
theorem Ms {s:TypeId} {x:Operand} {n b o off:Nat} (hs:dR P s n off) (H:St N D w0 F G0 G L T a w) (hw:Region.wanted ⟨some d,.fieldAddr s x n,ty,pos,aL,g⟩ (yielded ops a.tmps)=true)
  (hx:ev T x=some (.pointer (some ⟨b,o,none⟩))) (hd:Nat.blt d N=true)
  (k:∀ a',St N D w0 F G0 G L ((d,.pointer (some ⟨b,o+off,none⟩)) :: T) a' w->WL r P ops Q rest a' w):WL r P ops Q (⟨some d,.fieldAddr s x n,ty,pos,aL,g⟩ :: rest) a w:=by
 obtain ⟨fs,fl,i,h1,h2,h3,h4,h5⟩:=hs.parts
 refine fI (v:=.pointer (some ⟨b,o+off,none⟩)) (w':=w) hw M ?_ (k _ (H.put hd _ H.hp))
 simp only [execOp,Instr.fieldAt,Instr.sureAddr,dP,H.ev hx,nu h1,h2,nY,rR,fieldPlace,sizeOf,Gm h3,au h5,add_lit,h4]
theorem yG {s e:TypeId} {sz bytes:Nat} {zero:List ah} {agg:Bool} (hs:P.underlying s=some (.slice e)) (ht:Ty P e sz bytes zero agg) {x y:Operand} {b o n c:Nat} {kd:IntKind} {z:Int} (i:Nat) (H:St N D w0 F G0 G L T a w) (hw:Region.wanted ⟨some d,.indexAddr s x y,ty,pos,aL,g⟩ (yielded ops a.tmps)=true)
  (hx:ev T x=some (.slice (some ⟨b,o,none⟩) n c)) (hy:ev T y=some (.int kd z)) (hz:z=(i:Int)) (hn:i < n) (hd:Nat.blt d N=true)
  (k:∀ a',St N D w0 F G0 G L ((d,.pointer (some ⟨b,o+i*sz,none⟩)) :: T) a' w->WL r P ops Q rest a' w):WL r P ops Q (⟨some d,.indexAddr s x y,ty,pos,aL,g⟩ :: rest) a w:=by
 subst hz
 refine fI (v:=.pointer (some ⟨b,o+i*sz,none⟩)) (w':=w) hw M ?_ (k _ (H.put hd _ H.hp))
 have hr:(0:Int)<=i∧(i:Int) < (n:Int):=by omega
 simp only [execOp,Instr.indexAt,asIntOf,dP,H.ev hx,H.ev hy,nu hs,nY,rR,ay hr,ht.Am,add_lit,Int.toNat_natCast]
theorem lJ {x:Operand} {n:Nat} {vs:List ah} {v:ah} (H:St N D w0 F G0 G L T a w) (hw:Region.wanted ⟨some d,.extract x n,ty,pos,aL,g⟩ (yielded ops a.tmps)=true) (hx:ev T x=some (.tuple vs.toArray)) (hv:vs[n]?=some v) (hd:Nat.blt d N=true)
  (k:∀ a',St N D w0 F G0 G L ((d,v) :: T) a' w->WL r P ops Q rest a' w):WL r P ops Q (⟨some d,.extract x n,ty,pos,aL,g⟩ :: rest) a w :=
 fI (v:=v) (w':=w) hw M (by simp [execOp,Instr.extract,H.ev hx,hv]) (k _ (H.put hd _ H.hp))
theorem zH {x:Operand} {p:Addr} (H:St N D w0 F G0 G L T a w) (hw:Region.wanted ⟨some d,.nilCheck x,ty,pos,aL,g⟩ (yielded ops a.tmps)=true) (hx:ev T x=some (.pointer (some p))) (hd:Nat.blt d N=true)
  (k:∀ a',St N D w0 F G0 G L ((d,.pointer (some p)) :: T) a' w->WL r P ops Q rest a' w):WL r P ops Q (⟨some d,.nilCheck x,ty,pos,aL,g⟩ :: rest) a w :=
 fI (v:=.pointer (some p)) (w':=w) hw M (by simp [execOp,H.ev hx]) (k _ (H.put hd _ H.hp))
theorem vG {fn:Fn} {xs:List Operand} {vs:List ah} (H:St N D w0 F G0 G L T a w) (hw:Region.wanted ⟨some d,.makeFunc fn #[] xs.toArray,ty,pos,aL,g⟩ (yielded ops a.tmps)=true) (hx:evs T xs=some vs) (hd:Nat.blt d N=true)
  (k:∀ a',St N D w0 F G0 G L ((d,.func fn #[] vs.toArray) :: T) a' w->WL r P ops Q rest a' w):WL r P ops Q (⟨some d,.makeFunc fn #[] xs.toArray,ty,pos,aL,g⟩ :: rest) a w :=
 fI (v:=.func fn #[] vs.toArray) (w':=w) hw M (by simp [execOp,Instr.makeFunc,H.evs hx]) (k _ (H.put hd _ H.hp))
def Cv (pl:List (Nat × Nat)):List ah->List (Nat × List ah)->Option (List ah)
 | c,[]=>some c
 | c,(i,vs) :: rest=>match pl[i]? with
  | none=>none
  | some (off,size)=>bif Nat.beq vs.length size && Nat.ble (off+vs.length) c.length then Cv pl (setRow c off vs) rest else none
theorem aax:∀ (vs:List ah) (o:Nat) (c:List ah),(setRow c o vs).length=c.length
 | [],_,_=>rfl
 | v :: vs,o,c=>by simp [setRow,aax vs]
theorem agL (off:Nat):∀ (vs:List ah) (j:Nat) (c:List ah),
  ((vs.zipIdx j).toArray).foldl (fun cs (x:ah × Nat)=>cs.setIfInBounds (off+x.2) x.1) c.toArray=(setRow c (off+j) vs).toArray
 | [],j,c=>by simp [setRow]
 | v :: vs,j,c=>by
  have ih:=agL off vs (j+1) (c.set (off+j) v)
  simp only [List.zipIdx_cons,List.foldl_toArray'] at *
  simp only [List.foldl_cons,List.setIfInBounds_toArray]
  exact ih
theorem fill_eq (place:Nat->Option (Nat × Nat)) (pl:List (Nat × Nat)) (hp:∀ i q,pl[i]?=some q->place i=some q):∀ (parts:List (Nat × ah)) (Ta:List (Nat × List ah)) (c c':List ah),
  parts.map (fun x=>(x.1,x.2.cells.toList))=Ta->Cv pl c Ta=some c'->Instr.fill place c.toArray parts=some c'.toArray
 | [],Ta,c,c',hm,h=>by subst hm;simp [Cv] at h;subst h;rfl
 | (i,v) :: parts,Ta,c,c',hm,h=>by
  subst hm
  simp only [dO,Cv] at h
  split at h
  ·cases h
  ·rename_i off size hq
   cases hcond:(Nat.beq v.cells.toList.length size && Nat.ble (off+v.cells.toList.length) c.length) with
   | false=>rw [hcond] at h;cases h
   | true =>
    rw [hcond] at h
    simp only [iC] at hcond
    have e1:=Ci hcond.1
    have e2:=Nat.le_of_ble_eq_true hcond.2
    have ih:=fill_eq place pl hp parts _ (setRow c off v.cells.toList) c' M h
    have hf:=agL off v.cells.toList 0 c
    simp only [sJ] at hf
    simp only [pY] at e1 e2
    unfold Instr.fill
    rw [hp i _ hq]
    have hz:(v.cells.zipIdx:Array (ah × Nat))=((v.cells.toList.zipIdx 0).toArray):=by
     apply Array.ext';simp
    simp only [e1,ne_eq,not_true_eq_false,Hl,decide_false,Bool.false_or,List.size_toArray]
    rw [au (by simp;omega),hz,hf]
    exact ih
structure qV (P:Program) (t:TypeId) (pl:List (Nat × Nat)) (zero:List ah):Prop where
 h:(match P.underlying t with|some (.struct fs)=>some (fs.toList.map fun f=>(f.offset,(P.info? f.type).map (·.size)))|_=>none)=some (pl.map fun q=>(q.1,some q.2))
 z:(P.info? t).map (fun i=>i.zero.map fun z=>z.cells.toList)=some (some zero)
end steps
end
section
section steps
variable {N:Nat} {D:List Deferred} {w0:World} {F:Nat->Prop} {G0 G:GH} {L:List (Nat × Obj)} {T:List (Nat × ah)}
variable {r:Option Nat} {P:Program} {ops:Array Oper} {Q:Exit->Act->World->Prop} {rest:List Oper} {a:Act} {w:World}
variable {d:Nat} {ty:TypeId} {pos:String} {aL:Array Edge} {g:Option (Nat × Bool)}
theorem qV.parts {t:TypeId} {pl:List (Nat × Nat)} {zero:List ah} (h:qV P t pl zero):∃ fs i z,P.underlying t=some (.struct fs)∧P.info? t=some i∧i.zero=some z∧z.cells=zero.toArray ∧
  fs.toList.map (fun f=>(f.offset,(P.info? f.type).map (·.size)))=pl.map fun q=>(q.1,some q.2):=by
 obtain ⟨h,hz⟩:=h
 obtain ⟨i,hi,hx⟩:=oO.1 hz
 obtain ⟨z,hz1,hz2⟩:=oO.1 hx
 split at h
 ·rename_i fs hs
  exact ⟨fs,i,z,hs,hi,hz1,by rw [<- hz2],by simpa using h⟩
 ·cases h
theorem akK (w:World):∀ (fs:List Field) (pl:List (Nat × Nat)),fs.map (fun f=>(f.offset,(P.info? f.type).map (·.size)))=pl.map (fun q=>(q.1,some q.2)) ->
  (fs.mapM (fun f=>(do pure (f.offset,<- sizeOf f.type):Sem (Nat × Nat)))).run P w=.ok pl w
 | [],[],_=>by simp [Sem.run]
 | [],q :: pl,h=>by simp at h
 | f :: fs,[],h=>by simp at h
 | f :: fs,q :: pl,h=>by
  simp only [dO,List.cons.injEq,iX] at h
  obtain ⟨⟨h1,h2⟩,h3⟩:=h
  obtain ⟨i,hi,hs⟩:=oO.1 h2
  have ih:=akK w fs pl h3
  have hsz:(sizeOf f.type).run P w=.ok q.2 w:=by simp only [sizeOf,dP,Gm hi,nY,rR,hs]
  simp only [List.mapM_cons,dP,hsz,nY,rR,ih,h1]
theorem run_build {t:TypeId} {pl:List (Nat × Nat)} {zero:List ah} (h:qV P t pl zero) {parts:Array (Nat × ah)} {cs:List ah}
  (hf:Cv pl zero (parts.toList.map fun x=>(x.1,x.2.cells.toList))=some cs) (w:World):(Instr.build t parts).run P w=.ok (.agg cs.toArray) w:=by
 obtain ⟨fs,i,z,h1,h2,h3,h4,h5⟩:=h.parts
 have hm:=akK (P:=P) w fs.toList pl h5
 have hm':(fs.mapM (fun f=>(do pure (f.offset,<- sizeOf f.type):Sem (Nat × Nat)))).run P w=.ok pl.toArray w:=by
  rw [Array.mapM_eq_mapM_toList]
  simp only [map_eq_pure_bind,dP,hm,nY,rR]
 have Yh:=fill_eq (fun i=>pl.toArray[i]?) pl (fun i q hq=>by simpa using hq) parts.toList _ zero cs M hf
 simp only [Instr.build,zeroValue,dP,Gm h2,h3,nY,rR,h4,nu h1,hm',Yh]
def pts (T:List (Nat × ah)):List (Nat × Operand)->Option (List (Nat × ah))
 | []=>some []
 | (i,x) :: q=>match ev T x,pts T q with|some v,some vs=>some ((i,v) :: vs)|_,_=>none
theorem St.pts (H:St N D w0 F G0 G L T a w):∀ {xs:List (Nat × Operand)} {vs:List (Nat × ah)},Proofs.YtdiflmikikiedaaGreat.pts T xs=some vs->xs.map (fun x=>(x.1,a.eval x.2))=vs
 | [],vs,hx=>by simp [Proofs.YtdiflmikikiedaaGreat.pts] at hx;subst hx;rfl
 | (i,x) :: xs,vs,hx=>by
  unfold Proofs.YtdiflmikikiedaaGreat.pts at hx
  split at hx
  ·rename_i v vs' h1 h2
   simp only [pX] at hx
   subst hx
   rw [dO,H.ev h1,H.pts h2]
  ·cases hx
theorem jM {t:TypeId} {pl:List (Nat × Nat)} {zero:List ah} (ht:qV P t pl zero) {xs:List (Nat × Operand)} {vs:List (Nat × ah)} {vs':List (Nat × List ah)} (cs:List ah) (H:St N D w0 F G0 G L T a w) (hw:Region.wanted ⟨some d,.build t xs.toArray,ty,pos,aL,g⟩ (yielded ops a.tmps)=true)
  (hx:pts T xs=some vs) (hv:vs.map (fun x=>(x.1,x.2.cells.toList))=vs') (hf:Cv pl zero vs'=some cs) (hd:Nat.blt d N=true)
  (k:∀ a',St N D w0 F G0 G L ((d,.agg cs.toArray) :: T) a' w->WL r P ops Q rest a' w):WL r P ops Q (⟨some d,.build t xs.toArray,ty,pos,aL,g⟩ :: rest) a w:=by
 refine fI (v:=.agg cs.toArray) (w':=w) hw M ?_ (k _ (H.put hd _ H.hp))
 have h1:=run_build ht (parts:=(vs.toArray)) (cs:=cs) (by simpa [hv] using hf) w
 simp only [execOp,List.map_toArray,H.pts hx,dP,h1,nY,rR]
theorem iV {t e:TypeId} {sz bytes:Nat} {zero:List ah} {agg:Bool} (hs:P.underlying t=some (.slice e)) (ht:Ty P e sz bytes zero agg) {n:Nat} {xs:List (Nat × Operand)} {vs:List (Nat × ah)} {vs':List (Nat × List ah)} (z:List ah) (cs:List ah) (H:St N D w0 F G0 G L T a w) (hw:Region.wanted ⟨some d,.buildSlice t n xs.toArray,ty,pos,aL,g⟩ (yielded ops a.tmps)=true)
  (hx:pts T xs=some vs) (hv:vs.map (fun x=>(x.1,x.2.cells.toList))=vs') (hn:Nat.ble (n*sz) 1000=true) (hn0:Nat.beq (n*sz) 0=false) (hz:(List.range (n*sz)).map (fun i=>zero[i % zero.length]!)=z) (hpl:∀ i q,((List.range n).map fun i=>(i*sz,sz))[i]?=some q->(some (i*sz,sz):Option (Nat × Nat))=some q)
  (hf:Cv ((List.range n).map fun i=>(i*sz,sz)) z vs'=some cs) (hd:Nat.blt d N=true)
  (k:∀ b a' w',w0.heap.size<=b->St N D w0 F G0 G ((b,.cells cs.toArray e (0,0)) :: L) ((d,.slice (some ⟨b,0,none⟩) n n) :: T) a' w'->WL r P ops Q rest a' w'):WL r P ops Q (⟨some d,.buildSlice t n xs.toArray,ty,pos,aL,g⟩ :: rest) a w:=by
 refine fI (v:=.slice (some ⟨w.heap.size,0,none⟩) n n) (w':=w.alloc (.cells cs.toArray e (0,0))) hw M ?_ (k _ _ _ H.hp.size (H.put hd _ (H.hp.alloc _)))
 obtain ⟨z0,hz0,hzc⟩:=ht.akL w
 have h16:¬ n*sz > 2 ^ 24:=by have:=Nat.le_of_ble_eq_true hn;simp;omega
 have h0:¬ n*sz=0:=by intro e;rw [e] at hn0;cases hn0
 have Yh:=fill_eq (fun i=>some (i*sz,sz)) _ hpl vs vs' z cs hv hf
 have hz':(Array.range (n*sz)).map (fun x=>zero.toArray[x % zero.toArray.size]!)=z.toArray:=by
  rw [<- hz];apply Array.ext';simp
 simp only [execOp,List.map_toArray,H.pts hx,Instr.buildSlice,dP,nu hs,nY,ht.Am,au h16,au h0,hz0,hzc,rR,hz',Yh,newRow,newObj,Sem.run]
 rfl
theorem I9 {z:Int} (h1:-9223372036854775808<=z) (h2:z < 9223372036854775808):IntKind.i64.wrap z=z:=by
 unfold IntKind.wrap
 have e:(2:Int) ^ 64=18446744073709551616:=by decide
 have e':(2:Int) ^ (64 - 1)=9223372036854775808:=by decide
 simp only [IntKind.bits,IntKind.signed,E9,e,e',lD]
 split <;> omega
theorem O1 {x y:Operand} {t yt:TypeId} {p q:Int} (z:Int) (H:St N D w0 F G0 G L T a w) (hw:Region.wanted ⟨some d,.binOp .add t x y yt,ty,pos,aL,g⟩ (yielded ops a.tmps)=true) (hx:ev T x=some (.int .i64 p)) (hy:ev T y=some (.int .i64 q)) (hz:p+q=z) (h1:-9223372036854775808<=z) (h2:z < 9223372036854775808) (hd:Nat.blt d N=true)
  (k:∀ a',St N D w0 F G0 G L ((d,.int .i64 z) :: T) a' w->WL r P ops Q rest a' w):WL r P ops Q (⟨some d,.binOp .add t x y yt,ty,pos,aL,g⟩ :: rest) a w :=
 fI (v:=.int .i64 z) (w':=w) hw M (by simp [execOp,eqGuard,binOp,Op.intArith,H.ev hx,H.ev hy,dP,hz,I9 h1 h2]) (k _ (H.put hd _ H.hp))
theorem Dj {x y:Operand} {t yt:TypeId} {p q:Int} (z:Int) (H:St N D w0 F G0 G L T a w) (hw:Region.wanted ⟨some d,.binOp .sub t x y yt,ty,pos,aL,g⟩ (yielded ops a.tmps)=true) (hx:ev T x=some (.int .i64 p)) (hy:ev T y=some (.int .i64 q)) (hz:p - q=z) (h1:-9223372036854775808<=z) (h2:z < 9223372036854775808) (hd:Nat.blt d N=true)
  (k:∀ a',St N D w0 F G0 G L ((d,.int .i64 z) :: T) a' w->WL r P ops Q rest a' w):WL r P ops Q (⟨some d,.binOp .sub t x y yt,ty,pos,aL,g⟩ :: rest) a w :=
 fI (v:=.int .i64 z) (w':=w) hw M (by simp [execOp,eqGuard,binOp,Op.intArith,H.ev hx,H.ev hy,dP,hz,I9 h1 h2]) (k _ (H.put hd _ H.hp))
def Nn:BinOp->Int->Int->Option Bool
 | .eql,x,y=>some (decide (x=y))
 | .neq,x,y=>some (decide (¬ x=y))
 | .lss,x,y=>some (decide (x < y))
 | .leq,x,y=>some (decide (x<=y))
 | .gtr,x,y=>some (decide (y < x))
 | .geq,x,y=>some (decide (y<=x))
 | _,_,_=>none
theorem aBD {op:BinOp} {kd:IntKind} {x y:Int} {b:Bool} (h:Nn op x y=some b) (t:TypeId) (X Y:Operand) (w:World):(do eqGuard op t X Y (.int kd x) (.int kd y);binOp op t (.int kd x) (.int kd y):Sem ah).run P w=.ok (.bool b) w:=by
 cases op <;> simp only [Nn,pX,reduceCtorEq] at h <;> subst h <;> simp [eqGuard,binOp,Op.intCmp,dP]
 ·rfl
 ·rfl
theorem Jv {op:BinOp} {x y:Operand} {t yt:TypeId} {kd:IntKind} {p q:Int} {b:Bool} (H:St N D w0 F G0 G L T a w) (hw:Region.wanted ⟨some d,.binOp op t x y yt,ty,pos,aL,g⟩ (yielded ops a.tmps)=true) (hx:ev T x=some (.int kd p)) (hy:ev T y=some (.int kd q)) (hb:Nn op p q=some b) (hd:Nat.blt d N=true)
  (k:∀ a',St N D w0 F G0 G L ((d,.bool b) :: T) a' w->WL r P ops Q rest a' w):WL r P ops Q (⟨some d,.binOp op t x y yt,ty,pos,aL,g⟩ :: rest) a w:=by
 refine fI (v:=.bool b) (w':=w) hw M ?_ (k _ (H.put hd _ H.hp))
 have h1:=aBD (P:=P) (kd:=kd) hb t x y w
 simp only [execOp,H.ev hx,H.ev hy]
 rw [dP,h1]
 rfl
theorem akX {x:Operand} {t:TypeId} {b:Bool} (H:St N D w0 F G0 G L T a w) (hw:Region.wanted ⟨some d,.unOp .not t x,ty,pos,aL,g⟩ (yielded ops a.tmps)=true) (hx:ev T x=some (.bool b)) (hd:Nat.blt d N=true)
  (k:∀ a',St N D w0 F G0 G L ((d,.bool (!b)) :: T) a' w->WL r P ops Q rest a' w):WL r P ops Q (⟨some d,.unOp .not t x,ty,pos,aL,g⟩ :: rest) a w :=
 fI (v:=.bool (!b)) (w':=w) hw M (by simp [execOp,Op.unary,H.ev hx,dP]) (k _ (H.put hd _ H.hp))
def tJ (op:BinOp) (k:IntKind) (x y:Int):Int :=
 let a:=BitVec.ofInt k.bits x
 let b:=BitVec.ofInt k.bits y
 k.wrap (match op with|.and=>(a &&& b).toNat|.or=>(a ||| b).toNat|.xor=>(a ^^^ b).toNat|_=>(a &&& ~~~b).toNat)
theorem TK {op:BinOp} {x y:Operand} {t yt:TypeId} {kd:IntKind} {p q:Int} (hop:(match op with|.and|.or|.xor|.andNot=>true|_=>false)=true) (H:St N D w0 F G0 G L T a w) (hw:Region.wanted ⟨some d,.binOp op t x y yt,ty,pos,aL,g⟩ (yielded ops a.tmps)=true) (hx:ev T x=some (.int kd p)) (hy:ev T y=some (.int kd q)) (hd:Nat.blt d N=true)
  (k:∀ a',St N D w0 F G0 G L ((d,.int kd (tJ op kd p q)) :: T) a' w->WL r P ops Q rest a' w):WL r P ops Q (⟨some d,.binOp op t x y yt,ty,pos,aL,g⟩ :: rest) a w:=by
 refine fI (v:=.int kd (tJ op kd p q)) (w':=w) hw M ?_ (k _ (H.put hd _ H.hp))
 cases op <;> simp only [Hl] at hop <;> simp [execOp,eqGuard,binOp,Op.intBits,H.ev hx,H.ev hy,tJ]
theorem aB1 {x y:Operand} {t yt:TypeId} {kd ky:IntKind} {p q:Int} (n:Nat) (H:St N D w0 F G0 G L T a w) (hw:Region.wanted ⟨some d,.binOp .shl t x y yt,ty,pos,aL,g⟩ (yielded ops a.tmps)=true) (hx:ev T x=some (.int kd p)) (hy:ev T y=some (.int ky q)) (hq:q=(n:Int)) (hn:n<=kd.bits) (hd:Nat.blt d N=true)
  (k:∀ a',St N D w0 F G0 G L ((d,.int kd (kd.wrap (p*2 ^ n))) :: T) a' w->WL r P ops Q rest a' w):WL r P ops Q (⟨some d,.binOp .shl t x y yt,ty,pos,aL,g⟩ :: rest) a w:=by
 subst hq
 refine fI (v:=.int kd (kd.wrap (p*2 ^ n))) (w':=w) hw M ?_ (k _ (H.put hd _ H.hp))
 have h0:¬ ((n:Int) < 0):=by omega
 have h1:min n kd.bits=n:=by omega
 simp [execOp,eqGuard,binOp,Op.shift,H.ev hx,H.ev hy,h0,h1]
theorem TQ {x y:Operand} {t yt:TypeId} {kd ky:IntKind} {p q:Int} (n:Nat) (H:St N D w0 F G0 G L T a w) (hw:Region.wanted ⟨some d,.binOp .shr t x y yt,ty,pos,aL,g⟩ (yielded ops a.tmps)=true) (hx:ev T x=some (.int kd p)) (hy:ev T y=some (.int ky q)) (hq:q=(n:Int)) (hn:n<=kd.bits) (hd:Nat.blt d N=true)
  (k:∀ a',St N D w0 F G0 G L ((d,.int kd (p.fdiv (2 ^ n))) :: T) a' w->WL r P ops Q rest a' w):WL r P ops Q (⟨some d,.binOp .shr t x y yt,ty,pos,aL,g⟩ :: rest) a w:=by
 subst hq
 refine fI (v:=.int kd (p.fdiv (2 ^ n))) (w':=w) hw M ?_ (k _ (H.put hd _ H.hp))
 have h0:¬ ((n:Int) < 0):=by omega
 have h1:min n kd.bits=n:=by omega
 simp [execOp,eqGuard,binOp,Op.shift,H.ev hx,H.ev hy,h0,h1]
theorem Df {x:Operand} {t u:TypeId} {kd ks:IntKind} {p:Int} {su:TypeDesc} (z:Int) (hu:P.underlying u=some (.int kd)) (ht:P.underlying t=some su) (H:St N D w0 F G0 G L T a w) (hw:Region.wanted ⟨some d,.convert t u x,ty,pos,aL,g⟩ (yielded ops a.tmps)=true) (hx:ev T x=some (.int ks p)) (hz:kd.wrap p=z) (hd:Nat.blt d N=true)
  (k:∀ a',St N D w0 F G0 G L ((d,.int kd z) :: T) a' w->WL r P ops Q rest a' w):WL r P ops Q (⟨some d,.convert t u x,ty,pos,aL,g⟩ :: rest) a w:=by
 refine fI (v:=.int kd z) (w':=w) hw M ?_ (k _ (H.put hd _ H.hp))
 simp [execOp,convert,nu hu,nu ht,H.ev hx,dP,Conv.intToInt,hz]
theorem rO {x y:Operand} {t:TypeId} {s:ByteArray} {kd:IntKind} {z:Int} (i:Nat) (ht:P.underlying t=some .string) (H:St N D w0 F G0 G L T a w) (hw:Region.wanted ⟨some d,.index t x y,ty,pos,aL,g⟩ (yielded ops a.tmps)=true) (hx:ev T x=some (.string s)) (hy:ev T y=some (.int kd z)) (hz:z=(i:Int)) (hi:i < s.size) (hd:Nat.blt d N=true)
  (k:∀ a',St N D w0 F G0 G L ((d,.int .u8 (s[i].toNat:Int)) :: T) a' w->WL r P ops Q rest a' w):WL r P ops Q (⟨some d,.index t x y,ty,pos,aL,g⟩ :: rest) a w:=by
 subst hz
 refine fI (v:=.int .u8 (s[i].toNat:Int)) (w':=w) hw M ?_ (k _ (H.put hd _ H.hp))
 simp [execOp,Instr.index,asIntOf,nu ht,H.ev hx,H.ev hy,dP,hi]
theorem akS {x:Operand} {t e:TypeId} {A:Option Addr} {n c:Nat} (hs:P.underlying t=some (.slice e)) (H:St N D w0 F G0 G L T a w) (hw:Region.wanted ⟨some d,.call { callee:=.builtin .len,args:=#[x],argTypes:=#[t] },ty,pos,aL,g⟩ (yielded ops a.tmps)=true) (hx:ev T x=some (.slice A n c)) (hd:Nat.blt d N=true)
  (k:∀ a',St N D w0 F G0 G L ((d,.int .i64 n) :: T) a' w->WL r P ops Q rest a' w):WL r P ops Q (⟨some d,.call { callee:=.builtin .len,args:=#[x],argTypes:=#[t] },ty,pos,aL,g⟩ :: rest) a w :=
 fI (v:=.int .i64 n) (w':=w) hw M (by simp [execOp,resolve,invoke,builtin,Builtin.len_,H.ev hx,dP,nu hs,goInt]) (k _ (H.put hd _ H.hp))
theorem Gq {x:Operand} {t:TypeId} {s:ByteArray} (hs:P.underlying t=some .string) (H:St N D w0 F G0 G L T a w) (hw:Region.wanted ⟨some d,.call { callee:=.builtin .len,args:=#[x],argTypes:=#[t] },ty,pos,aL,g⟩ (yielded ops a.tmps)=true) (hx:ev T x=some (.string s)) (hd:Nat.blt d N=true)
  (k:∀ a',St N D w0 F G0 G L ((d,.int .i64 s.size) :: T) a' w->WL r P ops Q rest a' w):WL r P ops Q (⟨some d,.call { callee:=.builtin .len,args:=#[x],argTypes:=#[t] },ty,pos,aL,g⟩ :: rest) a w :=
 fI (v:=.int .i64 s.size) (w':=w) hw M (by simp [execOp,resolve,invoke,builtin,Builtin.len_,H.ev hx,dP,nu hs,goInt]) (k _ (H.put hd _ H.hp))
theorem TN {x y:Operand} {t t':TypeId} {kd:IntKind} {p q:Int} (H:St N D w0 F G0 G L T a w) (hw:Region.wanted ⟨some d,.call { callee:=.builtin .max,args:=#[x,y],argTypes:=#[t,t'] },ty,pos,aL,g⟩ (yielded ops a.tmps)=true) (hx:ev T x=some (.int kd p)) (hy:ev T y=some (.int kd q)) (hd:Nat.blt d N=true)
  (k:∀ a',St N D w0 F G0 G L ((d,.int kd (max p q)) :: T) a' w->WL r P ops Q rest a' w):WL r P ops Q (⟨some d,.call { callee:=.builtin .max,args:=#[x,y],argTypes:=#[t,t'] },ty,pos,aL,g⟩ :: rest) a w:=by
 refine fI (v:=.int kd (max p q)) (w':=w) hw M ?_ (k _ (H.put hd _ H.hp))
 have e:(if q > p then q else p)=max p q:=by omega
 simp [execOp,resolve,invoke,builtin,Builtin.max_,Builtin.max2,H.ev hx,H.ev hy,dP,e]
theorem aBW {x y:Operand} {t t':TypeId} {kd:IntKind} {p q:Int} (H:St N D w0 F G0 G L T a w) (hw:Region.wanted ⟨some d,.call { callee:=.builtin .min,args:=#[x,y],argTypes:=#[t,t'] },ty,pos,aL,g⟩ (yielded ops a.tmps)=true) (hx:ev T x=some (.int kd p)) (hy:ev T y=some (.int kd q)) (hd:Nat.blt d N=true)
  (k:∀ a',St N D w0 F G0 G L ((d,.int kd (min p q)) :: T) a' w->WL r P ops Q rest a' w):WL r P ops Q (⟨some d,.call { callee:=.builtin .min,args:=#[x,y],argTypes:=#[t,t'] },ty,pos,aL,g⟩ :: rest) a w:=by
 refine fI (v:=.int kd (min p q)) (w':=w) hw M ?_ (k _ (H.put hd _ H.hp))
 have e:(if q < p then q else p)=min p q:=by omega
 simp [execOp,resolve,invoke,builtin,Builtin.min_,Builtin.min2,H.ev hx,H.ev hy,dP,e]
def bE (w:World) (G:GH) (R:ah->GH->Prop):Ending->World->Prop:=fun e w'=>∃ v G',e=.returned v∧Below w.heap.size w w'∧Ext w.heap.size G G' w'∧R v G'
def Hold (G:GH) (w:World):Prop:=∀ k o,G k=some o->w.heap[k]?=some o
theorem s_call {f:FuncId} {xs:List Operand} {vs:List ah} {ts:Array TypeId} {R:ah->GH->Prop} (en:∀ args w,(callFunc f args).run P w=.ok (.enter f args) w) (H:St N D w0 F G0 G L T a w) (hw:Region.wanted ⟨some d,.call { callee:=.value (.func f),args:=xs.toArray,argTypes:=ts },ty,pos,aL,g⟩ (yielded ops a.tmps)=true)
  (hx:evs T xs=some vs) (hc:Calls P f vs.toArray w (bE w G R)) (hd:Nat.blt d N=true)
  (k:∀ v G' a' w',R v G'->(∀ k o,G k=some o->G' k=some o)->St N D w0 F G0 G' L ((d,v) :: T) a' w'->WL r P ops Q rest a' w'):WL r P ops Q (⟨some d,.call { callee:=.value (.func f),args:=xs.toArray,argTypes:=ts },ty,pos,aL,g⟩ :: rest) a w:=by
 refine aaX (nx:=.ok (.enter f vs.toArray) w) (R:=bE w G R) hw M ?_ hc ?_
 ·have h1:=H.evs hx
  simp [execOp,resolve,Act.eval,Deferred.ofValue,invoke,dP,h1,en]
 ·rintro e w' ⟨v,G',rfl,hb,hX,hR⟩
  exact ⟨v,M,k v G' _ w' hR hX.1 (H.put hd v (H.hp.abJ hb hX))⟩
theorem bL {x y:Code} (h:∀ K:Act->World->Prop,(∀ a w,WP r P y Q a w->K a w)->WP r P x (Exit.then K Q) a w):WP r P (.seq x y) Q a w:=wpIn_seq_k h
theorem oQ {id:Nat} {l:List Oper} (h:WL r P l.toArray Q l a w):WP r P (.region id l.toArray false) Q a w:=wpIn_region_lit h
theorem cZ {id:Nat} {l:List Oper} {y:Code} (h:∀ K:Act->World->Prop,(∀ a w,WP r P y Q a w->WL r P l.toArray (Exit.then K Q) [] a w)->WL r P l.toArray (Exit.then K Q) l a w):WP r P (.seq (.region id l.toArray false) y) Q a w:=bL fun K hK=>oQ (h K fun a w h=>aD (hK a w h))
theorem iD (h:Q .normal a w):WP r P .skip Q a w:=wpIn_skip h
theorem eP (h:Q .ret a w):WP r P .ret Q a w:=wpIn_ret h
theorem dY {id:Nat} (h:Q (.exit id) a w):WP r P (.exit id) Q a w:=wpIn_exit h
theorem AY {id:Nat} {c:Code} (h:WP r P c (Exit.inBlock id Q) a w):WP r P (.block id c) Q a w:=wpIn_block h
theorem jL {c:Operand} {x y:Code} {b:Bool} (H:St N D w0 F G0 G L T a w) (hc:ev T c=some (.bool b)) (h1:b=true->WP r P x Q a w) (h0:b=false->WP r P y Q a w):WP r P (.cond c x y) Q a w :=
 wpIn_cond_split (H.ev hc) h1 h0
theorem Cq {c:Operand} {x y:Code} {b:Bool} (H:St N D w0 F G0 G L T a w) (hc:ev T c=some (.bool b)) (hb:b=true) (h1:WP r P x Q a w):WP r P (.cond c x y) Q a w :=
 wpIn_cond_true (by rw [H.ev hc,hb]) h1
theorem sM {c:Operand} {x y:Code} {b:Bool} (H:St N D w0 F G0 G L T a w) (hc:ev T c=some (.bool b)) (hb:b=false) (h1:WP r P y Q a w):WP r P (.cond c x y) Q a w :=
 wpIn_cond_false (by rw [H.ev hc,hb]) h1
theorem aeu {ι:Type} {c:Code} (I:ι->Act->World->Prop) (m:ι->Nat) (i0:ι) (h0:I i0 a w)
  (round:∀ i a w,I i a w->WP r P c (Exit.then (fun a' w'=>∃ i',I i' a' w'∧m i' < m i) Q) a w):WP r P (.loop c) Q a w:=by
 intro b k cs hro hb hr
 have key:∀ j i a w,m i=j->I i a w ->
   ∃ e a' w',Q e a' w'∧ArrivesIn (Machine.fenced P (FW r)) P (lone (b.atR a (.code c :: .inLoop c :: k)) cs w) b k cs e a' w':=by
  intro j
  induction j using Nat.strongRecOn with
  | _ j ih =>
   intro i a w hn hI
   obtain ⟨e,a₁,w₁,hq,harr⟩:=round i a w hI b (.inLoop c :: k) cs hro hb hr
   cases e with
   | normal =>
    obtain ⟨i',hI₁,hlt⟩:=hq
    obtain ⟨e₂,a₂,w₂,hq₂,harr₂⟩:=ih (m i') (hn ▸ hlt) i' a₁ w₁ M hI₁
    exact ⟨e₂,a₂,w₂,hq₂,.of_steps (StepsIn.trans harr (.one (fenced_calm hb hr M) stepR_inLoop)) harr₂⟩
   | exit id=>exact ⟨_,a₁,w₁,hq,.pass (x:=.inLoop c) M (fun _ _=>.inl (by simp)) harr⟩
   | goto l=>exact ⟨_,a₁,w₁,hq,.pass (x:=.inLoop c) M (fun _ _=>.inl (by simp)) harr⟩
   | ret=>exact ⟨_,a₁,w₁,hq,.pass (x:=.inLoop c) M (fun _ _=>.inl (by simp)) harr⟩
   | panic ch=>exact ⟨_,a₁,w₁,hq,.pass (x:=.inLoop c) M (fun _ _=>.inl (by simp)) harr⟩
   | outgrown=>exact ⟨_,a₁,w₁,hq,.pass (x:=.inLoop c) M (fun _ _=>.inl (by simp)) harr⟩
 obtain ⟨e,a',w',hq,harr⟩:=key _ i0 a w M h0
 exact ⟨e,a',w',hq,.of_steps (.one (fenced_calm hb hr M) stepR_loop) harr⟩
theorem fD {ι:Type} {c:Code} {Tc:List (Nat × ah)} {Lc:List (Nat × Obj)} (Tv:ι->List (Nat × ah)) (Lv:ι->List (Nat × Obj)) (Gv:ι->GH) (Pr:ι->Prop) (m:ι->Nat) (i0:ι)
  (H:St N D w0 F G0 (Gv i0) (Lc++Lv i0) (Tv i0++Tc) a w) (hP:Pr i0)
  (round:∀ i a w,Pr i->St N D w0 F G0 (Gv i) (Lc++Lv i) (Tv i++Tc) a w ->
   WP r P c (Exit.then (fun a' w'=>∃ i',(St N D w0 F G0 (Gv i') (Lc++Lv i') (Tv i'++Tc) a' w'∧Pr i')∧m i' < m i) Q) a w):WP r P (.loop c) Q a w :=
 aeu (fun i a w=>St N D w0 F G0 (Gv i) (Lc++Lv i) (Tv i++Tc) a w∧Pr i) m i0 ⟨H,hP⟩ fun i a w hI=>round i a w hI.2 hI.1
theorem uo {ι:Type} {x y:Code} {Tc:List (Nat × ah)} {Lc Lr:List (Nat × Obj)} {Gh:GH} (Tv:ι->List (Nat × ah)) (Lv:ι->List (Nat × Obj)) (Gv:ι->GH) (Pr:ι->Prop)
  (_:St N D w0 F G0 Gh (Lc++Lr) Tc a w) (h1:WP r P x (Exit.then (fun a w=>∃ i,St N D w0 F G0 (Gv i) (Lc++Lv i) (Tv i++Tc) a w∧Pr i) Q) a w)
  (h2:∀ i a w,Pr i->St N D w0 F G0 (Gv i) (Lc++Lv i) (Tv i++Tc) a w->WP r P y Q a w):WP r P (.seq x y) Q a w :=
 wpIn_seq (wpIn_mono h1 fun e a w h=>by
  cases e with
  | normal=>obtain ⟨i,H,hP⟩:=h;exact h2 i a w hP H
  | _=>exact h)
theorem ZF {ι:Type} {Tc:List (Nat × ah)} {Lc:List (Nat × Obj)} {Tv:ι->List (Nat × ah)} {Lv:ι->List (Nat × Obj)} {Gv:ι->GH} {Pr:ι->Prop} {m:ι->Nat} {i:ι} (i':ι)
  (H:St N D w0 F G0 (Gv i') (Lc++Lv i') (Tv i'++Tc) a w) (hP:Pr i') (hm:m i' < m i) :
  ∃ i',(St N D w0 F G0 (Gv i') (Lc++Lv i') (Tv i'++Tc) a w∧Pr i')∧m i' < m i:=⟨i',⟨H,hP⟩,hm⟩
def Hr:Nat->List ah->List (Nat × ah)
 | _,[]=>[]
 | i,v :: vs=>(i,v) :: Hr (i+1) vs
theorem enters {f:FuncId} {fn:Func} {c:Code} (hf:P.funcs[f]?=some fn) (hb:fn.body=some c) (hname:(fn.name == "runtime.NumGoroutine")=false) (args:Array ah) (w:World):(callFunc f args).run P w=.ok (.enter f args) w:=by
 have h1:fn.name ≠ "runtime.NumGoroutine":=by simpa using hname
 simp [callFunc,hf,h1,hb,mark]
theorem enter {f:FuncId} {fn:Func} {c:Code} {vs:List ah} {R:Ending->World->Prop} (hf:P.funcs[f]?=some fn) (hb:fn.body=some c) (hN:fn.ntmps=N) (hle:Nat.ble vs.length N=true)
  (hT:Hr 0 vs=T) (hG:Hold G w) (hF:∀ k,F k->k < w.heap.size) (hL:∀ p∈L,w.heap[p.1]?=some p.2) (hLG:∀ p∈L,G p.1=none) (hLF:∀ p∈L,¬ F p.1) (hnd:L.Pairwise fun p q=>p.1≠q.1)
  (h:∀ a,St N [] w F G G L T a w->WP none P c (bodyPostM (FW none) 0 P fn R) a w):Calls P f vs.toArray w R:=by
 refine aoy (r:=none) (n:=0) (callsIn_of_wp_marks hf hb trivial (h _ ⟨?_,?_,M,⟨M,M,M,dS _,hF,fun _ _=>rfl,hG,fun _ _ h=>h,fun _ _ h=>.inl h,hL,hLG,hLF,hnd⟩⟩) M)
 ·have:=Nat.le_of_ble_eq_true hle
  simp [hN];omega
 ·intro t v ht
  have hlen:t < vs.length∧vs[t]?=some v:=by
   subst hT
   have key:∀ (vs:List ah) (s:Nat),lk (Hr s vs) t=some v->s<=t∧vs[t - s]?=some v:=by
    intro vs
    induction vs with
    | nil=>intro s h;simp [Hr,lk] at h
    | cons u vs ih =>
     intro s h
     simp only [Hr] at h
     by_cases e:s=t
     ·subst e;rw [yB] at h;simpa using h
     ·rw [xD e] at h
      obtain ⟨h1,h2⟩:=ih (s+1) h
      refine ⟨O,?_⟩
      have:t - s=(t - (s+1))+1:=by omega
      rw [this];simpa using h2
   have:=key vs 0 ht
   simp only [kY,Nat.sub_zero,true_and] at this
   exact ⟨(jZ.1 this).1,this⟩
  rw [Array.getElem?_append_left (by simpa using hlen.1)]
  simpa using hlen.2
def Mr (tmps:Array ah):ResultVar->Sem ah
 | .tmp t=>pure (tmps.getD t undef)
 | .cell a t=>do loadVar t (<- asAddr (tmps.getD a undef))
def RV (P:Program) (w:World) (tmps:Array ah) (rv:ResultVar) (v:ah):Prop:=(Mr tmps rv).run P w=.ok v w
theorem fB (H:St N D w0 F G0 G L T a w) {t:Nat} {v:ah} (h:lk T t=some v):RV P w a.tmps (.tmp t) v:=by
 have:=H.ev (x:=.tmp t) h
 simp only [Act.eval] at this
 simp [RV,Mr,this]
theorem qM {t:TypeId} {sz bytes:Nat} {zero:List ah} (ht:Ty P t sz bytes zero true) (H:St N D w0 F G0 G L T a w) {s b o:Nat} {cs:List ah} (h:lk T s=some (.pointer (some ⟨b,o,none⟩))) (hl:cs.length=sz) (hc:∀ j v,cs[j]?=some v->w.cell? ⟨b,o+j,none⟩=some v) :
  RV P w a.tmps (.cell s t) (.agg cs.toArray):=by
 have:=H.ev (x:=.tmp s) h
 simp only [Act.eval] at this
 have h1:=run_loadCells (P:=P) b w cs o 0 #[] (fun j v hj=>by simpa using hc j v hj)
 simp only [Array.empty_append,hl] at h1
 simp [RV,Mr,this,asAddr,loadVar,dP,ht.TI,ht.Am,loadCells,h1]
theorem Gn {t:TypeId} {sz bytes:Nat} {zero:List ah} (ht:Ty P t sz bytes zero false) (H:St N D w0 F G0 G L T a w) {s b o:Nat} {v:ah} (h:lk T s=some (.pointer (some ⟨b,o,none⟩))) (hc:w.cell? ⟨b,o,none⟩=some v) :
  RV P w a.tmps (.cell s t) v:=by
 have:=H.ev (x:=.tmp s) h
 simp only [Act.eval] at this
 simp only [RV,Mr,this,asAddr,loadVar,dP,ht.TI,nY,rR,Hl,if_false,aak hc]
inductive EX (P:Program) (w:World) (tmps:Array ah):List ResultVar->List ah->Prop
 | nil:EX P w tmps [] []
 | cons {rv rs v vs}:RV P w tmps rv v->EX P w tmps rs vs->EX P w tmps (rv :: rs) (v :: vs)
def ZU:List ah->ah
 | [v]=>v
 | vs=>.tuple vs.toArray
theorem aBG {fn:Func} {rs:List ResultVar} {vs:List ah} {tmps:Array ah} (hr:fn.results=rs.toArray) (h:EX P w tmps rs vs):(results fn tmps).run P w=.ok (ZU vs) w:=by
 have hm:∀ {rs:List ResultVar} {vs:List ah},EX P w tmps rs vs->(rs.mapM (Mr tmps)).run P w=.ok vs w:=by
  intro rs vs h
  induction h with
  | nil=>simp
  | cons h1 _ ih =>
   unfold RV at h1
   simp only [List.mapM_cons,dP,h1,nY,ih,rR]
 have hm':=hm h
 have hres:results fn tmps=(do let vs <- fn.results.mapM (Mr tmps);pure (if h:vs.size=1 then vs[0] else .tuple vs)):=rfl
 rw [hres,hr,Array.mapM_eq_mapM_toList]
 simp only [map_eq_pure_bind,dP,hm',nY,rR]
 match vs with
 | []=>rfl
 | [v]=>rfl
 | v :: u :: vs=>simp [ZU]
theorem leave {fn:Func} {rs:List ResultVar} {vs:List ah} {R:Ending->World->Prop} (v:ah) (H:St N [] w0 F G0 G L T a w) (hr:fn.results=rs.toArray) (h:EX P w a.tmps rs vs) (hv:ZU vs=v) (hR:R (.returned v) w) :
  bodyPostM (FW none) 0 P fn R .ret a w∧bodyPostM (FW none) 0 P fn R .normal a w:=by
 subst hv
 have h1:LeavesInM (FW none) 0 P fn a.tmps R a.defers .returning w:=by
  rw [H.vg]
  exact ⟨_,aBG hr h,hR⟩
 exact ⟨h1,h1⟩
theorem leave0 {fn:Func} {R:Ending->World->Prop} (H:St N [] w0 F G0 G L T a w) (hr:fn.results=#[]) (hR:R (.returned (.tuple #[])) w) :
  bodyPostM (FW none) 0 P fn R .ret a w∧bodyPostM (FW none) 0 P fn R .normal a w:=leave (rs:=[]) _ H hr .nil M hR
theorem leave1 {fn:Func} {rs:List ResultVar} {v:ah} {R:Ending->World->Prop} (H:St N [] w0 F G0 G L T a w) (hr:fn.results=rs.toArray) (h:EX P w a.tmps rs [v]) (hR:R (.returned v) w) :
  bodyPostM (FW none) 0 P fn R .ret a w∧bodyPostM (FW none) 0 P fn R .normal a w:=leave _ H hr h M hR
theorem kG {fn:Func} {rs:List ResultVar} {v u:ah} {vs:List ah} {R:Ending->World->Prop} (H:St N [] w0 F G0 G L T a w) (hr:fn.results=rs.toArray) (h:EX P w a.tmps rs (v :: u :: vs)) (hR:R (.returned (.tuple (v :: u :: vs).toArray)) w) :
  bodyPostM (FW none) 0 P fn R .ret a w∧bodyPostM (FW none) 0 P fn R .normal a w:=leave _ H hr h M hR
theorem Hp.ret {R:ah->GH->Prop} {v:ah} (h:Hp w0 (fun k=>k < w0.heap.size) G0 G L w) (hR:R v G):bE w0 G0 R (.returned v) w :=
 ⟨v,G,rfl,⟨h.os,h.tape,h.output,h.size,h.fr⟩,⟨h.gm,fun k o hk=>(h.gx k o hk).imp id (fun hn=>Nat.le_of_not_lt hn),h.ro⟩,hR⟩
end steps
end
section
abbrev OL:=List (Nat × Obj)
structure gq (G:GH) (L:OL) (w:World):Prop where
 ro:Hold G w
 own:∀ p∈L,w.heap[p.1]?=some p.2
 sep:∀ p∈L,G p.1=none
 nd:L.Pairwise fun p q=>p.1≠q.1
structure Change (w w':World) (G G':GH) (L L':OL):Prop where
 os:w'.os=w.os
 tape:w'.tape=w.tape
 output:w'.output=w.output
 size:w.heap.size<=w'.heap.size
 fr:∀ k,k < w.heap.size->(∀ p∈L,p.1≠k)->w'.heap[k]?=w.heap[k]?
 gm:∀ k o,G k=some o->G' k=some o
 gx:∀ k o,G' k=some o->G k=some o∨w.heap.size<=k∨∃ p∈L,p.1=k
 owns:gq G' L' w'
 lx:∀ p∈L',w.heap.size<=p.1∨∃ q∈L,q.1=p.1
def Fr (w:World) (L0:OL):Nat->Prop:=fun k=>k < w.heap.size∧∀ p∈L0,p.1≠k
section
variable {N:Nat} {D:List Deferred} {w0 w w':World} {F:Nat->Prop} {G0 G G':GH} {L L' Li L0:OL} {T:List (Nat × ah)} {a:Act}
theorem Hp.owns (h:Hp w0 F G0 G (Li++L) w):gq G L w :=
 ⟨h.ro,fun p hp=>h.own p (List.mem_append_right _ hp),fun p hp=>h.vI p (List.mem_append_right _ hp),(List.pairwise_append.1 h.nd).2.1⟩
theorem Hp.change (h:Hp w0 F G0 G (Li++L) w) (hc:Change w w' G G' L L'):Hp w0 F G0 G' (Li++L') w':=by
 have hnd:=List.pairwise_append.1 h.nd
 have XR:∀ k,F k->k < w.heap.size:=fun k hk=>Nat.lt_of_lt_of_le (h.wX k hk) h.size
 have KS:∀ p∈Li,p.1 < w.heap.size∧∀ q∈L,q.1≠p.1:=fun p hp=>⟨lt_of_heap (h.own p (List.mem_append_left _ hp)),fun q hq e=>hnd.2.2 p hp q hq e.symm⟩
 refine ⟨hc.os.trans h.os,hc.tape.trans h.tape,hc.output.trans h.output,Nat.le_trans h.size hc.size,h.wX,fun k hk=>?_,hc.owns.ro,fun k o hk=>hc.gm k o (h.gm k o hk),fun k o hk=>?_,fun p hp=>?_,fun p hp=>?_,fun p hp=>?_,?_⟩
 ·exact (hc.fr k (XR k hk) fun p hp e=>h.vH p (List.mem_append_right _ hp) (e ▸ hk)).trans (h.fr k hk)
 ·rcases hc.gx k o hk with hk|hk|⟨p,hp,rfl⟩
  ·exact h.gx k o hk
  ·exact .inr fun hf=>absurd (XR k hf) O
  ·exact .inr (h.vH p (List.mem_append_right _ hp))
 ·rcases kC.1 hp with hp|hp
  ·exact (hc.fr _ (KS p hp).1 (KS p hp).2).trans (h.own p (List.mem_append_left _ hp))
  ·exact hc.owns.own p hp
 ·rcases kC.1 hp with hp|hp
  ·cases hg:G' p.1 with
   | none=>rfl
   | some o =>
    rcases hc.gx _ o hg with hk|hk|⟨q,hq,e⟩
    ·rw [h.vI p (List.mem_append_left _ hp)] at hk;cases hk
    ·exact absurd (KS p hp).1 O
    ·exact absurd e ((KS p hp).2 q hq)
  ·exact hc.owns.sep p hp
 ·rcases kC.1 hp with hp|hp
  ·exact h.vH p (List.mem_append_left _ hp)
  ·rcases hc.lx p hp with hk|⟨q,hq,e⟩
   ·exact fun hf=>absurd (XR _ hf) O
   ·exact e ▸ h.vH q (List.mem_append_right _ hq)
 ·refine List.pairwise_append.2 ⟨hnd.1,hc.owns.nd,fun p hp q hq e=>?_⟩
  rcases hc.lx q hq with hk|⟨q',hq',e'⟩
  ·have:=(KS p hp).1;omega
  ·exact (KS p hp).2 q' hq' (e'.trans e.symm)
theorem Hp.alF (h:Hp w0 (Fr w0 L0) G0 G L w):Change w0 w G0 G L0 L:=by
 have hn:∀ k,¬ Fr w0 L0 k->w0.heap.size<=k∨∃ p∈L0,p.1=k:=by
  intro k hk
  by_cases hlt:k < w0.heap.size
  ·right
   apply Classical.byContradiction
   intro hno
   exact hk ⟨hlt,fun p hp e=>hno ⟨p,hp,e⟩⟩
  ·exact .inl O
 exact ⟨h.os,h.tape,h.output,h.size,fun k h1 h2=>h.fr k ⟨h1,h2⟩,h.gm,fun k o hk=>(h.gx k o hk).imp id (hn k),⟨h.ro,h.own,h.vI,h.nd⟩,fun p hp=>hn _ (h.vH p hp)⟩
theorem gq.hp (h:gq G L w):Hp w (Fr w L) G G L w :=
 ⟨rfl,rfl,rfl,dS _,fun _ hk=>hk.1,fun _ _=>rfl,h.ro,fun _ _ h=>h,fun _ _ h=>.inl h,h.own,h.sep,fun p hp hf=>hf.2 p hp M,h.nd⟩
theorem Change.trans {w2:World} {G2:GH} {L2:OL} (h1:Change w w' G G' L L') (h2:Change w' w2 G' G2 L' L2) (hG:Hold G w) (hL:∀ p∈L,p.1 < w.heap.size):Change w w2 G G2 L L2:=by
 refine ⟨h2.os.trans h1.os,h2.tape.trans h1.tape,h2.output.trans h1.output,Nat.le_trans h1.size h2.size,fun k hk hn=>?_,fun k o hk=>h2.gm k o (h1.gm k o hk),fun k o hk=>?_,h2.owns,fun p hp=>?_⟩
 ·refine (h2.fr k (Nat.lt_of_lt_of_le hk h1.size) fun p hp e=>?_).trans (h1.fr k hk hn)
  rcases h1.lx p hp with hk'|⟨q,hq,e'⟩
  ·omega
  ·exact hn q hq (e'.trans e)
 ·rcases h2.gx k o hk with hk|hk|⟨p,hp,rfl⟩
  ·exact h1.gx k o hk
  ·exact .inr (.inl (Nat.le_trans h1.size hk))
  ·rcases h1.lx p hp with hk'|⟨q,hq,e'⟩
   ·exact .inr (.inl hk')
   ·exact .inr (.inr ⟨q,hq,e'⟩)
 ·rcases h2.lx p hp with hk|⟨q,hq,e⟩
  ·exact .inl (Nat.le_trans h1.size hk)
  ·rcases h1.lx q hq with hk'|⟨q',hq',e'⟩
   ·exact .inl (e ▸ hk')
   ·exact .inr ⟨q',hq',e'.trans e⟩
theorem Hp.perm (h:Hp w0 F G0 G L w) (hp:L.Perm L'):Hp w0 F G0 G L' w :=
 ⟨h.os,h.tape,h.output,h.size,h.wX,h.fr,h.ro,h.gm,h.gx,fun p hq=>h.own p (hp.mem_iff.2 hq),fun p hq=>h.vI p (hp.mem_iff.2 hq),fun p hq=>h.vH p (hp.mem_iff.2 hq),(hp.pairwise_iff (fun {x y} (h:x.1≠y.1) e=>h e.symm)).1 h.nd⟩
theorem St.perm (h:St N D w0 F G0 G L T a w) (hp:L.Perm L'):St N D w0 F G0 G L' T a w:=⟨h.oP,h.get,h.vg,h.hp.perm hp⟩
def fM (w:World) (G:GH) (L:OL) (R:ah->GH->OL->Prop):Ending->World->Prop:=fun e w'=>∃ v G' L',e=.returned v∧Change w w' G G' L L'∧R v G' L'
theorem Hp.gQ {R:ah->GH->OL->Prop} {v:ah} (h:Hp w0 (Fr w0 L0) G0 G L w) (hR:R v G L):fM w0 G0 L0 R (.returned v) w:=⟨v,G,L,M,h.alF,hR⟩
end
section steps
variable {N:Nat} {D:List Deferred} {w0:World} {F:Nat->Prop} {G0 G:GH} {L Li L0:OL} {T:List (Nat × ah)}
variable {r:Option Nat} {P:Program} {ops:Array Oper} {Q:Exit->Act->World->Prop} {rest:List Oper} {a:Act} {w:World}
variable {d:Nat} {ty:TypeId} {pos:String} {aL:Array Edge} {g:Option (Nat × Bool)}
theorem kD {f:FuncId} {caps args:List ah} {R:Ending->World->Prop} (en:∀ args w,(callFunc f args).run P w=.ok (.enter f args) w) (h:Calls P f (args++caps).toArray w R):uh P (.func (.func f) #[] caps.toArray) args w R:=by
 refine ⟨?_⟩
 have e:(do let d <- Deferred.ofValue (.func (.func f) #[] caps.toArray) args.toArray;invoke d.target d.args:Sem Next).run P w=.ok (.enter f (args++caps).toArray) w:=by
  simp [Deferred.ofValue,dP,invoke,en]
 rw [e]
 exact h
theorem BL {x:Operand} {fv:ah} {xs:List Operand} {vs:List ah} {ts:Array TypeId} {R:ah->GH->OL->Prop} (H:St N D w0 F G0 G (Li++L) T a w) (hw:Region.wanted ⟨some d,.call { callee:=.value x,args:=xs.toArray,argTypes:=ts },ty,pos,aL,g⟩ (yielded ops a.tmps)=true)
  (hf:ev T x=some fv) (hx:evs T xs=some vs) (hc:uh P fv vs w (fM w G L R)) (hd:Nat.blt d N=true)
  (k:∀ v G' L' a' w',R v G' L'->(∀ k o,G k=some o->G' k=some o)->St N D w0 F G0 G' (Li++L') ((d,v) :: T) a' w'->WL r P ops Q rest a' w'):WL r P ops Q (⟨some d,.call { callee:=.value x,args:=xs.toArray,argTypes:=ts },ty,pos,aL,g⟩ :: rest) a w:=by
 refine aaX (nx:=_) (R:=fM w G L R) hw M M ?_ ?_
 ·have h1:=H.evs hx
  have e:(execOp a.eval ⟨some d,.call { callee:=.value x,args:=xs.toArray,argTypes:=ts },ty,pos,aL,g⟩)=(do let d <- Deferred.ofValue fv vs.toArray;invoke d.target d.args:Sem Next):=by
   simp only [execOp,resolve,H.ev hf,List.map_toArray,h1]
  rw [e]
  exact hc.go
 ·rintro e w' ⟨v,G',L',rfl,hb,hR⟩
  exact ⟨v,M,k v G' L' _ w' hR hb.gm (H.put hd v (H.hp.change hb))⟩
theorem gW {f:FuncId} {xs:List Operand} {vs:List ah} {ts:Array TypeId} {R:ah->GH->OL->Prop} (en:∀ args w,(callFunc f args).run P w=.ok (.enter f args) w) (H:St N D w0 F G0 G (Li++L) T a w) (hw:Region.wanted ⟨some d,.call { callee:=.value (.func f),args:=xs.toArray,argTypes:=ts },ty,pos,aL,g⟩ (yielded ops a.tmps)=true)
  (hx:evs T xs=some vs) (hc:Calls P f vs.toArray w (fM w G L R)) (hd:Nat.blt d N=true)
  (k:∀ v G' L' a' w',R v G' L'->(∀ k o,G k=some o->G' k=some o)->St N D w0 F G0 G' (Li++L') ((d,v) :: T) a' w'->WL r P ops Q rest a' w'):WL r P ops Q (⟨some d,.call { callee:=.value (.func f),args:=xs.toArray,argTypes:=ts },ty,pos,aL,g⟩ :: rest) a w:=by
 refine BL (fv:=.func (.func f) #[] #[]) H hw M hx ?_ hd k
 have h:=kD (caps:=[]) (args:=vs) en (by simpa using hc)
 exact h
abbrev AP:=List ah->GH->Prop
def xJ (xs:List AP) (k:Nat) (args:List ah) (g:GH):Prop:=∃ p,xs[k]?=some p∧p args g
def MJ (P:Program) (fv:ah) (Gi:GH) (xs:List AP) (J:Nat->GH->OL->Prop) (Jx:GH->OL->Prop):Prop :=
 ∀ k args G L w,xJ xs k args G->(∀ b o,Gi b=some o->G b=some o)->J k G L->gq G L w ->
  uh P fv args w (fM w G L fun v G' L'=>∃ b,v=.bool b∧(b=true->J (k+1) G' L')∧(b=false->Jx G' L'))
def ET (J:Nat->GH->OL->Prop):Prop:=∀ k (G G':GH) L,(∀ b o,G b=some o->G' b=some o)->J k G L->J k G' L
def J3 (J:GH->OL->Prop):Prop:=∀ (G G':GH) L,(∀ b o,G b=some o->G' b=some o)->J G L->J G' L
def Iter (P:Program) (Gi:GH) (gv:ah) (xs:List AP):Prop :=
 ∀ (J:Nat->GH->OL->Prop) (Jx:GH->OL->Prop) (fv:ah) (G:GH) (L:OL) (w:World),fv.cells=#[fv]->(∀ b o,Gi b=some o->G b=some o)->ET J->J3 Jx->J 0 G L->gq G L w->MJ P fv G xs J Jx ->
  uh P gv [fv] w (fM w G L fun _ G' L'=>J xs.length G' L'∨Jx G' L')
theorem Iter.mono {Gi ES:GH} {gv:ah} {xs:List AP} (h:Iter P Gi gv xs) (hm:∀ b o,Gi b=some o->ES b=some o):Iter P ES gv xs :=
 fun J Jx fv G L w h0 h1=>h J Jx fv G L w h0 fun b o hb=>h1 b o (hm b o hb)
def yP:List Nat->List ah->List (Nat × ah)->List (Nat × ah)
 | p :: ps,v :: vs,T=>yP ps vs ((p,v) :: T)
 | _,_,T=>T
theorem alu:∀ (ps:List Nat) (vs:List ah) (T:List (Nat × ah)) (tm:Array ah),tm.size=N->(∀ t v,lk T t=some v->tm[t]?=some v)->ps.all (Nat.blt · N)=true ->
  ((ps.zip vs).foldl (fun t (x:Nat × ah)=>t.setIfInBounds x.1 x.2) tm).size=N∧∀ t v,lk (yP ps vs T) t=some v->((ps.zip vs).foldl (fun t (x:Nat × ah)=>t.setIfInBounds x.1 x.2) tm)[t]?=some v
 | [],_,T,tm,h1,h2,_=>⟨h1,by simpa [yP] using h2⟩
 | p :: ps,[],T,tm,h1,h2,_=>⟨h1,by simpa [yP] using h2⟩
 | p :: ps,v :: vs,T,tm,h1,h2,h3=>by
  simp only [List.all_cons,iC] at h3
  have hp:p < tm.size:=by rw [h1];exact Eq.mp Nat.blt_eq h3.1
  simp only [List.zip_cons_cons,List.foldl_cons,yP]
  refine alu ps vs _ _ (by simpa using h1) (fun t u ht=>?_) h3.2
  rw [Array.getElem?_setIfInBounds]
  by_cases e:p=t
  ·subst e;rw [yB] at ht;simp [hp];simpa using ht
  ·rw [xD e] at ht;simp [e];exact h2 t u ht
structure Rec where
 fn:FuncId
 tmps:Array ah
 params:Array Tmp
 assign:Code
 body:Code
 defers:Nat
def Rec.at (q:Rec) (s:LoopState) (p:Option Code):Obj:=.loop { state:=s,pending:=p,fn:=q.fn,tmps:=q.tmps,params:=q.params,assign:=q.assign,body:=q.body,defers:=q.defers }
def CbR (w1:World) (G:GH) (L:OL) (Jn:GH->OL->Prop) (Jx:GH->OL->Prop):Ending->World->Prop:=fM w1 G L fun v G' L'=>∃ b,v=.bool b∧(b=true->Jn G' L')∧(b=false->Jx G' L')
theorem GI {b:Nat} {o:Obj} (o':Obj) (h:w.heap[b]?=some o):vV b o' w (w.putObj b o') :=
 ⟨rfl,rfl,rfl,World.putObj_size,World.putObj_heap_same (lt_of_heap h),fun _ hk=>World.putObj_heap_other hk⟩
theorem aer {l:Nat} {q:Rec} {c:Code} {R:Ending->World->Prop} (H:St N D w0 F G0 G ((l,q.at .ready none) :: L) T a w)
  (k:∀ w',St N D w0 F G0 G ((l,q.at .busy none) :: L) T a w'->WP (some l) P c (roundPost P l R) a w') :
  ∃ w₂,(Instr.beginRound l).run P w=.ok () w₂∧c.wpIn (FW (some l)) 0 P (roundPost P l R) a w₂:=by
 have hl:=H.hp.own _ (dV)
 refine ⟨_,run_beginRound hl M,k _ (H.move ?_)⟩
 exact H.hp.upd (i:=0) M (GI _ hl)
theorem Ml {l:Nat} {q:Rec} {w1:World} {G1:GH} {L1:OL} {Jn Jx:GH->OL->Prop} (jump:Option Code) (H:St N D w1 (Fr w1 L1) G1 G ((l,q.at .busy none) :: L) T a w)
  (h:match jump with|none=>Jn G ((l,q.at .ready none) :: L)|some c=>Jx G ((l,q.at .done (some c)) :: L)) :
  ∃ v w',(Instr.endRound l jump).run P w=.ok v w'∧CbR w1 G1 L1 Jn Jx (.returned v) w':=by
 have hl:=H.hp.own _ (dV)
 refine ⟨_,_,run_endRound jump hl,?_⟩
 cases jump with
 | none=>exact Hp.gQ (H.hp.upd (i:=0) M (GI _ hl)) ⟨true,M,fun _=>h,fun e=>by cases e⟩
 | some c=>exact Hp.gQ (H.hp.upd (i:=0) M (GI _ hl)) ⟨false,M,fun e=>(by cases e),fun _=>h⟩
def Jr (l:Nat) (q:Rec) (bk:OL) (J:GH->OL->Prop):GH->OL->Prop:=fun G L=>∃ Lu,L=(l,q.at .ready none) :: (bk++Lu)∧J G Lu
def PV (l:Nat) (q:Rec) (bk:OL) (Jx:Code->GH->OL->Prop):GH->OL->Prop:=fun G L=>∃ c Lu,L=(l,q.at .done (some c)) :: (bk++Lu)∧Jx c G Lu
def UU (P:Program) (N:Nat) (ps:List Nat) (assign body:Code) (T:List (Nat × ah)) (G:GH) (J:Nat->GH->OL->Prop) (Jx:Code->GH->OL->Prop) (xs:List AP):Prop :=
 ∀ (l:Nat) (q:Rec) (bk:OL) (k:Nat) (args:List ah) (G1:GH) (L1:OL) (w1:World) (a1:Act),xJ xs k args G1->(∀ b o,G b=some o->G1 b=some o)->J k G1 L1 ->
  St N [] w1 (Fr w1 ((l,q.at .ready none) :: (bk++L1))) G1 G1 ((l,q.at .ready none) :: (bk++L1)) (yP ps args T) a1 w1 ->
  WP (some l) P assign (Exit.then (fun a2 w2=>∃ w3,(Instr.beginRound l).run P w2=.ok () w3∧body.wpIn (FW (some l)) 0 P (roundPost P l (CbR w1 G1 ((l,q.at .ready none) :: (bk++L1)) (Jr l q bk (J (k+1))) (PV l q bk Jx))) a2 w3) (fun _ _ _=>False)) a1 w1
theorem aev {fn:FuncId} {tm:Array ah} {ps:List Nat} {assign body:Code} {df l:Nat} {bk:OL} {J:Nat->GH->OL->Prop} {Jx:Code->GH->OL->Prop} {xs:List AP} (h1:tm.size=N) (h2:∀ t v,lk T t=some v->tm[t]?=some v)
  (hps:ps.all (Nat.blt · N)=true) (hlen:∀ k args g,xJ xs k args g->args.length=ps.length) (hr:UU P N ps assign body T G J Jx xs) :
  MJ P (.func (.yield l) #[] #[]) G xs (fun k=>Jr l ⟨fn,tm,ps.toArray,assign,body,df⟩ bk (J k)) (PV l ⟨fn,tm,ps.toArray,assign,body,df⟩ bk Jx):=by
 intro k args G1 L1 w1 hk hm hJ ho
 obtain ⟨Lu,rfl,hJ⟩:=hJ
 have hl:=ho.own _ (dV)
 have hargs:args.toArray.size=ps.toArray.size:=by simpa using hlen k args _ hk
 have hy:=run_yield (P:=P) (args:=args.toArray) hl hargs
 have hz:(ps.toArray.zip args.toArray).foldl (fun tmps (x:Nat × ah)=>tmps.setIfInBounds x.1 x.2) tm=(ps.zip args).foldl (fun t (x:Nat × ah)=>t.setIfInBounds x.1 x.2) tm:=by
  simp [List.zip_toArray]
 obtain ⟨z1,z2⟩:=alu ps args T tm h1 h2 hps
 refine ⟨?_⟩
 have e:(do let d <- Deferred.ofValue (.func (.yield l) #[] #[]) args.toArray;invoke d.target d.args:Sem Next).run P w1=.ok (.round l fn ((ps.zip args).foldl (fun t (x:Nat × ah)=>t.setIfInBounds x.1 x.2) tm) assign body) w1:=by
  simp only [Deferred.ofValue,pure_bind,invoke,Array.empty_append]
  rw [<- hz]
  exact hy
 rw [e]
 refine roundIn_of_wpIn (F:=FW none) trivial ?_
 exact hr l _ bk k args G1 Lu w1 { tmps:=_,defers:=[] } hk hm hJ ⟨z1,z2,M,ho.hp⟩
theorem aov {Bf:Operand} {ps:List Nat} {assign body:Code} {gf:FuncId} {caps:List ah} {xs:List AP} {Gi:GH}
  (H:St N D w0 F G0 G L T a w) (hg:ev T Bf=some (.func (.func gf) #[] caps.toArray)) (en:∀ args w,(callFunc gf args).run P w=.ok (.enter gf args) w) (hit:Iter P Gi (.func (.func gf) #[] caps.toArray) xs) (hGi:∀ b o,Gi b=some o->G b=some o)
  (hps:ps.all (Nat.blt · N)=true) (hlen:∀ k args g,xJ xs k args g->args.length=ps.length)
  (J:Nat->GH->OL->Prop) (Jx:Code->GH->OL->Prop) (tT:ET J) (hJx:∀ c,J3 (Jx c)) (h0:J 0 G L) (YJ:UU P N ps assign body T G J Jx xs)
  (hdone:∀ Dk G1 L1 a1 w1,(∀ b o,G b=some o->G1 b=some o)->J xs.length G1 L1->St N ({ target:=.collected Dk,args:=#[] } :: D) w0 F G0 G1 ((Dk,.deferred (some [])) :: L1) T a1 w1->Q .normal a1 w1)
  (hstop:∀ Dk c G1 L1 a1 w1,(∀ b o,G b=some o->G1 b=some o)->Jx c G1 L1->St N ({ target:=.collected Dk,args:=#[] } :: D) w0 F G0 G1 ((Dk,.deferred (some [])) :: L1) T a1 w1->WP none P c Q a1 w1) :
  WP none P (.rangeFunc Bf ps.toArray assign body) Q a w:=by
 refine wpIn_rangeFunc ?_
 intro fn _
 have hev:=H.ev hg
 let q:Rec:=⟨fn,a.tmps,ps.toArray,assign,body,w.heap.size⟩
 obtain ⟨W1,hW1⟩:∃ W1,W1=(w.alloc (.deferred (some []))).alloc (q.at .ready none):=⟨_,M⟩
 have H1:Hp w0 F G0 G ((w.heap.size+1,q.at .ready none) :: (w.heap.size,.deferred (some [])) :: L) W1:=by
  have:=(H.hp.alloc (.deferred (some []))).alloc (q.at .ready none)
  rw [World.size_alloc] at this
  rw [hW1];exact this
 refine ⟨w.heap.size+1,[{ target:=.collected w.heap.size,args:=#[] }],W1,{ target:=.fn (.func gf) caps.toArray,args:=#[.func (.yield (w.heap.size+1)) #[] #[]] },W1,gf,
  #[.func (.yield (w.heap.size+1)) #[] #[]]++caps.toArray,W1,by rw [hW1];exact run_enterLoop_outer fn a.tmps ps.toArray assign body,?_,fun _ _=>trivial,?_,PK none,?_⟩
 ·simp only [resolve,rangeCall,hev]
  simp [Deferred.ofValue,Act.eval]
 ·simp [invoke,en]
 ·have hcv:=hit (fun k=>Jr (w.heap.size+1) q [(w.heap.size,.deferred (some []))] (J k)) (PV (w.heap.size+1) q [(w.heap.size,.deferred (some []))] Jx) (.func (.yield (w.heap.size+1)) #[] #[]) G
   ((w.heap.size+1,q.at .ready none) :: (w.heap.size,.deferred (some [])) :: L) W1 rfl hGi (fun k G G' L hm ⟨Lu,e,h⟩=>⟨Lu,e,tT k G G' Lu hm h⟩) (fun G G' L hm ⟨c,Lu,e,h⟩=>⟨c,Lu,e,hJx c G G' Lu hm h⟩) ⟨L,M,h0⟩ (Hp.owns (Li:=[]) H1) (aev H.oP H.get hps hlen YJ)
  replace hcv:=hcv.go
  have e:(do let d <- Deferred.ofValue (.func (.func gf) #[] caps.toArray) [Value.func (.yield (w.heap.size+1)) #[] #[]].toArray;invoke d.target d.args:Sem Next).run P W1=.ok (.enter gf (#[.func (.yield (w.heap.size+1)) #[] #[]]++caps.toArray)) W1:=by
   simp [Deferred.ofValue,invoke,en]
  rw [e] at hcv
  refine (V8 hcv).mono ?_
  rintro e w2 ⟨v,G2,L2,rfl,hch,hJ⟩
  have H2:=Hp.change (Li:=[]) H1 hch
  rcases hJ with ⟨Lu,rfl,hJ⟩|⟨c,Lu,rfl,hJ⟩
  ·have hl:=H2.own _ (dV)
   have H3:=(H2.upd (i:=0) M (GI (q.at .exhausted none) hl)).drop (DF _ _)
   exact ⟨none,_,run_endLoop hl (by simp),hdone _ G2 Lu _ _ hch.gm hJ ⟨H.oP,H.get,by simp [H.vg],H3⟩⟩
  ·have hl:=H2.own _ (dV)
   have H3:=(H2.upd (i:=0) M (GI (q.at .exhausted (some c)) hl)).drop (DF _ _)
   exact ⟨some c,_,run_endLoop hl (by simp),hstop _ c G2 Lu _ _ hch.gm hJ ⟨H.oP,H.get,by simp [H.vg],H3⟩⟩
theorem Je {fn:Func} {R:Ending->World->Prop} {b:Nat} (H:St N ({ target:=.collected b,args:=#[] } :: D) w0 F G0 G L T a w) (i:Nat) (hi:L[i]?=some (b,.deferred (some [])))
  (k:∀ a' w',St N D w0 F G0 G (L.eraseIdx i) T a' w'->bodyPostM (FW none) 0 P fn R .ret a' w'):bodyPostM (FW none) 0 P fn R .ret a w∧bodyPostM (FW none) 0 P fn R .normal a w:=by
 have hb:=H.hp.own _ (lZ hi)
 have H2:=(H.hp.upd hi (GI (.deferred none) hb)).drop (L':=L.eraseIdx i) (by
  have h1:(L.set i (b,.deferred none)).eraseIdx i=L.eraseIdx i:=by
   apply List.ext_getElem?
   intro j
   simp only [List.getElem?_eraseIdx,List.getElem?_set]
   split <;> split <;> first|rfl|omega
  rw [<- h1];exact List.eraseIdx_sublist _ _)
 have hk:=k { a with defers:=D } _ ⟨H.oP,H.get,M,H2⟩
 have h1:LeavesInM (FW none) 0 P fn a.tmps R a.defers .returning w:=by
  rw [H.vg]
  exact ⟨by simp,.inl ⟨b,_,M,run_takeDeferred hb,hk⟩⟩
 exact ⟨h1,h1⟩
theorem St.giveUp {b:Nat} {o:Obj} (h:St N D w0 F G0 G L T a w) (i:Nat) (hi:L[i]?=some (b,o)):St N D w0 F G0 (G.add b o) (L.eraseIdx i) T a w:=⟨h.oP,h.get,h.vg,h.hp.giveUp i hi⟩
theorem St.agY {b:Nat} {o:Obj} (h:St N D w0 F G0 G L T a w) (i:Nat) (hi:L[i]?=some (b,o)):G b=none:=h.hp.vI _ (lZ hi)
theorem jc {f:FuncId} {fn:Func} {c:Code} {vs:List ah} {R:Ending->World->Prop} (hf:P.funcs[f]?=some fn) (hb:fn.body=some c) (hN:fn.ntmps=N) (hle:Nat.ble vs.length N=true)
  (hT:Hr 0 vs=T) (ho:gq G L w) (h:∀ a,St N [] w (Fr w L) G G L T a w->WP none P c (bodyPostM (FW none) 0 P fn R) a w):Calls P f vs.toArray w R :=
 enter hf hb hN hle hT ho.ro (fun _ hk=>hk.1) ho.own ho.sep (fun p hp hf=>hf.2 p hp M) ho.nd h
end steps
end
inductive Dat where
 | lf (v:ah)
 | sl (sz:Nat) (rows:List (List Dat))
mutual
def av (G:GH):Dat->ah->Prop
 | .lf u,v=>v=u∧Value.oneCell' u=true
 | .sl sz rows,v=>∃ A c,v=.slice A rows.length c∧rows.length<=c∧c<=maxLen∧(rows≠[]->∃ b o,A=some ⟨b,o,none⟩∧oC G sz b o rows)
def oC (G:GH) (sz b:Nat):Nat->List (List Dat)->Prop
 | _,[]=>True
 | o,r :: rs=>(∃ cs,cs.length=sz∧(∀ j v,cs[j]?=some v->aI G b (o+j)=some v)∧aX G r cs)∧oC G sz b (o+sz) rs
def aX (G:GH):List Dat->List ah->Prop
 | [],cs=>cs=[]
 | d :: ds,cs=>∃ v vs,cs=v :: vs∧av G d v∧aX G ds vs
end
theorem aG {G G':GH} (hm:∀ k o,G k=some o->G' k=some o) {b o:Nat} {v:ah} (h:aI G b o=some v):aI G' b o=some v:=by
 unfold aI at h |-
 cases hg:G b with
 | none=>rw [hg] at h;cases h
 | some ob=>rw [hg] at h;rw [hm b ob hg];exact h
mutual
theorem av.mono {G G':GH} (hm:∀ k o,G k=some o->G' k=some o):∀ {d:Dat} {v:ah},av G d v->av G' d v
 | .lf u,v,h=>by simpa [av] using h
 | .sl sz rows,v,h=>by
  simp only [av] at h |-
  obtain ⟨A,c,h1,h2,h3,h4⟩:=h
  exact ⟨A,c,h1,h2,h3,fun hn=>let ⟨b,o,e,hr⟩:=h4 hn;⟨b,o,e,oC.mono hm hr⟩⟩
theorem oC.mono {G G':GH} (hm:∀ k o,G k=some o->G' k=some o) {sz b:Nat}:∀ {rows:List (List Dat)} {o:Nat},oC G sz b o rows->oC G' sz b o rows
 | [],o,_=>by simp [oC]
 | r :: rs,o,h=>by
  simp only [oC] at h |-
  obtain ⟨⟨cs,h1,h2,h3⟩,h4⟩:=h
  exact ⟨⟨cs,h1,fun j v hj=>aG hm (h2 j v hj),aX.mono hm h3⟩,oC.mono hm h4⟩
theorem aX.mono {G G':GH} (hm:∀ k o,G k=some o->G' k=some o):∀ {ds:List Dat} {cs:List ah},aX G ds cs->aX G' ds cs
 | [],cs,h=>by simpa [aX] using h
 | d :: ds,cs,h=>by
  simp only [aX] at h |-
  obtain ⟨v,vs,h1,h2,h3⟩:=h
  exact ⟨v,vs,h1,av.mono hm h2,aX.mono hm h3⟩
end
theorem oC.get {G:GH} {sz b:Nat}:∀ {rows:List (List Dat)} {o k:Nat} {r:List Dat},oC G sz b o rows->rows[k]?=some r->∃ cs,cs.length=sz∧(∀ j v,cs[j]?=some v->aI G b (o+k*sz+j)=some v)∧aX G r cs
 | [],_,_,_,_,h=>by simp at h
 | r :: rs,o,0,q,h,hk=>by
  simp only [Cj,pX] at hk
  subst hk
  simp only [oC] at h
  simpa using h.1
 | r :: rs,o,k+1,q,h,hk=>by
  simp only [List.getElem?_cons_succ] at hk
  simp only [oC] at h
  obtain ⟨cs,h1,h2,h3⟩:=oC.get h.2 hk
  exact ⟨cs,h1,fun j v hj=>by rw [<- h2 j v hj];congr 1;rw [Nat.succ_mul];omega,h3⟩
theorem av.slice {G:GH} {sz:Nat} {rows:List (List Dat)} {v:ah} (h:av G (.sl sz rows) v):∃ A c,v=.slice A rows.length c∧rows.length<=c∧c<=maxLen ∧
  ∀ k r,rows[k]?=some r->∃ b o cs,A=some ⟨b,o,none⟩∧cs.length=sz∧(∀ j u,cs[j]?=some u->aI G b (o+k*sz+j)=some u)∧aX G r cs:=by
 simp only [av] at h
 obtain ⟨A,c,h1,h2,h3,h4⟩:=h
 refine ⟨A,c,h1,h2,h3,fun k r hk=>?_⟩
 obtain ⟨b,o,e,hr⟩:=h4 (by rintro rfl;simp at hk)
 obtain ⟨cs,g1,g2,g3⟩:=hr.get hk
 exact ⟨b,o,cs,e,g1,g2,g3⟩
theorem oC.mk {G:GH} {sz b:Nat}:∀ {rows:List (List Dat)} {o:Nat},(∀ k r,rows[k]?=some r->∃ cs,cs.length=sz∧(∀ j u,cs[j]?=some u->aI G b (o+k*sz+j)=some u)∧aX G r cs)->oC G sz b o rows
 | [],o,_=>by simp [oC]
 | r :: rs,o,h=>by
  simp only [oC]
  refine ⟨by simpa using h 0 r M,oC.mk fun k q hk=>?_⟩
  obtain ⟨cs,h1,h2,h3⟩:=h (k+1) q (by simpa using hk)
  exact ⟨cs,h1,fun j v hj=>by rw [<- h2 j v hj];congr 1;rw [Nat.succ_mul];omega,h3⟩
abbrev vi (n:Int):ah:=.int .i64 n
structure aN where
 key:Int
 value:Int
structure gT where
 rev:Int
 move:Int
structure bW where
 rev:Int
 key:Int
 before:Int
 had:Bool
structure zQ where
 ins:Int
 move:Int
 bD:List gT
 layers:List bW
structure dD where
 props:List aN
 marks:zQ
mutual
inductive ak where
 | mk (kind code id:Int) (text:ByteArray) (head:dD) (flow:List ak) (rows:List aO)
inductive aO where
 | mk (head:dD) (cells:List aQ)
inductive aQ where
 | mk (id:Int) (head:dD) (flow:List ak)
end
namespace ak
def kind:ak->Int|.mk k _ _ _ _ _ _=>k
def code:ak->Int|.mk _ c _ _ _ _ _=>c
def id:ak->Int|.mk _ _ i _ _ _ _=>i
def text:ak->ByteArray|.mk _ _ _ t _ _ _=>t
def head:ak->dD|.mk _ _ _ _ h _ _=>h
def flow:ak->List ak|.mk _ _ _ _ _ f _=>f
def rows:ak->List aO|.mk _ _ _ _ _ _ r=>r
end ak
namespace aO
def head:aO->dD|.mk h _=>h
def cells:aO->List aQ|.mk _ c=>c
end aO
namespace aQ
def id:aQ->Int|.mk i _ _=>i
def head:aQ->dD|.mk _ h _=>h
def flow:aQ->List ak|.mk _ _ f=>f
end aQ
abbrev li (n:Int):Dat:=.lf (.int .i64 n)
def aN.dat (p:aN):List Dat:=[li p.key,li p.value]
def gT.dat (p:gT):List Dat:=[li p.rev,li p.move]
def bW.dat (p:bW):List Dat:=[li p.rev,li p.key,li p.before,.lf (.bool p.had)]
def zQ.dat (m:zQ):List Dat:=[li m.ins,li m.move,.sl 2 (m.bD.map gT.dat),.sl 4 (m.layers.map bW.dat)]
def dD.dat (h:dD):List Dat:=.sl 2 (h.props.map aN.dat) :: h.marks.dat
mutual
def ak.dat:ak->List Dat
 | .mk k c i t h f r=>li k :: li c :: li i :: .lf (.string t) :: (h.dat++[.sl 11 (KE f),.sl 6 (Nt r)])
def aO.dat:aO->List Dat
 | .mk h cs=>h.dat++[.sl 7 (Ns cs)]
def aQ.dat:aQ->List Dat
 | .mk i h f=>li i :: (h.dat++[.sl 11 (KE f)])
def KE:List ak->List (List Dat)
 | []=>[]
 | x :: r=>x.dat :: KE r
def Nt:List aO->List (List Dat)
 | []=>[]
 | x :: r=>x.dat :: Nt r
def Ns:List aQ->List (List Dat)
 | []=>[]
 | x :: r=>x.dat :: Ns r
end
theorem Wy:∀ l:List ak,KE l=l.map ak.dat
 | []=>by simp [KE]
 | x :: r=>by simp [KE,Wy r]
theorem aeZ:∀ l:List aO,Nt l=l.map aO.dat
 | []=>by simp [Nt]
 | x :: r=>by simp [Nt,aeZ r]
theorem aeY:∀ l:List aQ,Ns l=l.map aQ.dat
 | []=>by simp [Ns]
 | x :: r=>by simp [Ns,aeY r]
theorem ak.sN (x:ak):x.dat=li x.kind :: li x.code :: li x.id :: .lf (.string x.text) :: (x.head.dat++[.sl 11 (x.flow.map ak.dat),.sl 6 (x.rows.map aO.dat)]):=by
 cases x;simp [ak.dat,ak.kind,ak.code,ak.id,ak.text,ak.head,ak.flow,ak.rows,Wy,aeZ]
theorem aO.sN (x:aO):x.dat=x.head.dat++[.sl 7 (x.cells.map aQ.dat)]:=by
 cases x;simp [aO.dat,aO.head,aO.cells,aeY]
theorem aQ.sN (x:aQ):x.dat=li x.id :: (x.head.dat++[.sl 11 (x.flow.map ak.dat)]):=by
 cases x;simp [aQ.dat,aQ.id,aQ.head,aQ.flow,Wy]
structure jG (G:GH) (x:dD) (p d l:ah):Prop where
 props:av G (.sl 2 (x.props.map aN.dat)) p
 bD:av G (.sl 2 (x.marks.bD.map gT.dat)) d
 layers:av G (.sl 4 (x.marks.layers.map bW.dat)) l
theorem jG.mono {G G':GH} (hm:∀ k o,G k=some o->G' k=some o) {x:dD} {p d l:ah} (h:jG G x p d l):jG G' x p d l:=⟨h.props.mono hm,h.bD.mono hm,h.layers.mono hm⟩
theorem av.form {G:GH} {sz:Nat} {rows:List (List Dat)} {v:ah} (h:av G (.sl sz rows) v):∃ A n c,v=.slice A n c:=by
 obtain ⟨A,c,h,_⟩:=h.slice
 exact ⟨A,_,c,h⟩
theorem aX.item {G:GH} {x:ak} {cs:List ah} (h:aX G x.dat cs):∃ pA pn pc dA dn dc lA ln lc fA fn fc rA rn rc,cs=[vi x.kind,vi x.code,vi x.id,.string x.text,.slice pA pn pc,vi x.head.marks.ins,vi x.head.marks.move,.slice dA dn dc,.slice lA ln lc,.slice fA fn fc,.slice rA rn rc] ∧
  jG G x.head (.slice pA pn pc) (.slice dA dn dc) (.slice lA ln lc)∧av G (.sl 11 (x.flow.map ak.dat)) (.slice fA fn fc)∧av G (.sl 6 (x.rows.map aO.dat)) (.slice rA rn rc):=by
 rw [ak.sN] at h
 simp only [dD.dat,zQ.dat,pR,jA,aX] at h
 obtain ⟨v1,_,rfl,h1,v2,_,rfl,h2,v3,_,rfl,h3,v4,_,rfl,h4,p,_,rfl,hp,v5,_,rfl,h5,v6,_,rfl,h6,d,_,rfl,hd,l,_,rfl,hl,f,_,rfl,hf,r,_,rfl,hr,rfl⟩:=h
 obtain ⟨pA,pn,pc,rfl⟩:=hp.form
 obtain ⟨dA,dn,dc,rfl⟩:=hd.form
 obtain ⟨lA,ln,lc,rfl⟩:=hl.form
 obtain ⟨fA,fn,fc,rfl⟩:=hf.form
 obtain ⟨rA,rn,rc,rfl⟩:=hr.form
 simp only [av] at h1 h2 h3 h4 h5 h6
 obtain ⟨rfl,-⟩:=h1;obtain ⟨rfl,-⟩:=h2;obtain ⟨rfl,-⟩:=h3;obtain ⟨rfl,-⟩:=h4;obtain ⟨rfl,-⟩:=h5;obtain ⟨rfl,-⟩:=h6
 exact ⟨pA,pn,pc,dA,dn,dc,lA,ln,lc,fA,fn,fc,rA,rn,rc,M,⟨hp,hd,hl⟩,hf,hr⟩
theorem aX.row {G:GH} {x:aO} {cs:List ah} (h:aX G x.dat cs):∃ pA pn pc dA dn dc lA ln lc cA cn cc,cs=[.slice pA pn pc,vi x.head.marks.ins,vi x.head.marks.move,.slice dA dn dc,.slice lA ln lc,.slice cA cn cc]∧jG G x.head (.slice pA pn pc) (.slice dA dn dc) (.slice lA ln lc)∧av G (.sl 7 (x.cells.map aQ.dat)) (.slice cA cn cc):=by
 rw [aO.sN] at h
 simp only [dD.dat,zQ.dat,pR,jA,aX] at h
 obtain ⟨p,_,rfl,hp,v5,_,rfl,h5,v6,_,rfl,h6,d,_,rfl,hd,l,_,rfl,hl,f,_,rfl,hf,rfl⟩:=h
 obtain ⟨pA,pn,pc,rfl⟩:=hp.form
 obtain ⟨dA,dn,dc,rfl⟩:=hd.form
 obtain ⟨lA,ln,lc,rfl⟩:=hl.form
 obtain ⟨fA,fn,fc,rfl⟩:=hf.form
 simp only [av] at h5 h6
 obtain ⟨rfl,-⟩:=h5;obtain ⟨rfl,-⟩:=h6
 exact ⟨pA,pn,pc,dA,dn,dc,lA,ln,lc,fA,fn,fc,M,⟨hp,hd,hl⟩,hf⟩
theorem aX.cell {G:GH} {x:aQ} {cs:List ah} (h:aX G x.dat cs):∃ pA pn pc dA dn dc lA ln lc fA fn fc,cs=[vi x.id,.slice pA pn pc,vi x.head.marks.ins,vi x.head.marks.move,.slice dA dn dc,.slice lA ln lc,.slice fA fn fc]∧jG G x.head (.slice pA pn pc) (.slice dA dn dc) (.slice lA ln lc)∧av G (.sl 11 (x.flow.map ak.dat)) (.slice fA fn fc):=by
 rw [aQ.sN] at h
 simp only [dD.dat,zQ.dat,pR,jA,aX] at h
 obtain ⟨v1,_,rfl,h1,p,_,rfl,hp,v5,_,rfl,h5,v6,_,rfl,h6,d,_,rfl,hd,l,_,rfl,hl,f,_,rfl,hf,rfl⟩:=h
 obtain ⟨pA,pn,pc,rfl⟩:=hp.form
 obtain ⟨dA,dn,dc,rfl⟩:=hd.form
 obtain ⟨lA,ln,lc,rfl⟩:=hl.form
 obtain ⟨fA,fn,fc,rfl⟩:=hf.form
 simp only [av] at h1 h5 h6
 obtain ⟨rfl,-⟩:=h1;obtain ⟨rfl,-⟩:=h5;obtain ⟨rfl,-⟩:=h6
 exact ⟨pA,pn,pc,dA,dn,dc,lA,ln,lc,fA,fn,fc,M,⟨hp,hd,hl⟩,hf⟩
theorem av.one {G:GH}:∀ {d:Dat} {v:ah},av G d v->Value.oneCell' v=true
 | .lf u,v,h=>by simp only [av] at h;rw [h.1];exact h.2
 | .sl sz rows,v,h=>by obtain ⟨A,n,c,rfl⟩:=h.form;rfl
theorem aX.one {G:GH}:∀ {ds:List Dat} {cs:List ah},aX G ds cs->cs.all Value.oneCell'=true
 | [],cs,h=>by simp only [aX] at h;subst h;rfl
 | d :: ds,cs,h=>by
  simp only [aX] at h
  obtain ⟨v,vs,rfl,h1,h2⟩:=h
  simp only [List.all_cons,h1.one,h2.one,Bool.and_self]
theorem aX.length {G:GH}:∀ {ds:List Dat} {cs:List ah},aX G ds cs->cs.length=ds.length
 | [],cs,h=>by simp only [aX] at h;subst h;rfl
 | d :: ds,cs,h=>by
  simp only [aX] at h
  obtain ⟨v,vs,rfl,h1,h2⟩:=h
  simp [h2.length]
theorem aX.mkItem {G:GH} {x:ak} {p d l f r:ah} (hh:jG G x.head p d l) (hf:av G (.sl 11 (x.flow.map ak.dat)) f) (hr:av G (.sl 6 (x.rows.map aO.dat)) r) :
  aX G x.dat [vi x.kind,vi x.code,vi x.id,.string x.text,p,vi x.head.marks.ins,vi x.head.marks.move,d,l,f,r]:=by
 rw [ak.sN]
 simp only [dD.dat,zQ.dat,pR,jA,aX]
 exact ⟨_,_,M,by simp [av,Value.oneCell'],_,_,M,by simp [av,Value.oneCell'],_,_,M,by simp [av,Value.oneCell'],_,_,M,by simp [av,Value.oneCell'],_,_,M,hh.props,_,_,M,by simp [av,Value.oneCell'],_,_,M,by simp [av,Value.oneCell'],_,_,M,hh.bD,_,_,M,hh.layers,_,_,M,hf,_,_,M,hr,M⟩
theorem aX.SH {G:GH} {x:aO} {p d l c:ah} (hh:jG G x.head p d l) (hc:av G (.sl 7 (x.cells.map aQ.dat)) c) :
  aX G x.dat [p,vi x.head.marks.ins,vi x.head.marks.move,d,l,c]:=by
 rw [aO.sN]
 simp only [dD.dat,zQ.dat,pR,jA,aX]
 exact ⟨_,_,M,hh.props,_,_,M,by simp [av,Value.oneCell'],_,_,M,by simp [av,Value.oneCell'],_,_,M,hh.bD,_,_,M,hh.layers,_,_,M,hc,M⟩
theorem aX.SG {G:GH} {x:aQ} {p d l f:ah} (hh:jG G x.head p d l) (hf:av G (.sl 11 (x.flow.map ak.dat)) f) :
  aX G x.dat [vi x.id,p,vi x.head.marks.ins,vi x.head.marks.move,d,l,f]:=by
 rw [aQ.sN]
 simp only [dD.dat,zQ.dat,pR,jA,aX]
 exact ⟨_,_,M,by simp [av,Value.oneCell'],_,_,M,hh.props,_,_,M,by simp [av,Value.oneCell'],_,_,M,by simp [av,Value.oneCell'],_,_,M,hh.bD,_,_,M,hh.layers,_,_,M,hf,M⟩
mutual
def nU:Dat->Nat
 | .lf v=>(match v with|.string s=>s.size|_=>0)+1
 | .sl _ rows=>1+dM rows
def dM:List (List Dat)->Nat
 | []=>0
 | r :: rs=>1+bX r+dM rs
def bX:List Dat->Nat
 | []=>0
 | d :: ds=>nU d+bX ds
end
theorem Dp (a b:List (List Dat)):dM (a++b)=dM a+dM b:=by
 induction a with
 | nil=>simp [dM]
 | cons x a ih=>simp only [pR,dM,ih];omega
theorem aaF (a b:List Dat):bX (a++b)=bX a+bX b:=by
 induction a with
 | nil=>simp [bX]
 | cons x a ih=>simp only [pR,bX,ih];omega
theorem sG:∀ rows:List (List Dat),rows.length<=dM rows
 | []=>dS _
 | r :: rs=>by have:=sG rs;simp only [kR,dM];omega
theorem O8:∀ {rows:List (List Dat)} {k:Nat} {r:List Dat},rows[k]?=some r->bX r < dM rows
 | [],_,_,h=>by simp at h
 | q :: rs,0,r,h=>by simp only [Cj,pX] at h;subst h;simp only [dM];omega
 | q :: rs,k+1,r,h=>by have:=O8 (rows:=rs) (k:=k) (r:=r) (by simpa using h);simp only [dM];omega
abbrev bq (l:List ak):Nat:=dM (l.map ak.dat)
abbrev fQ (l:List aO):Nat:=dM (l.map aO.dat)
abbrev gH (l:List aQ):Nat:=dM (l.map aQ.dat)
abbrev nH (h:dD):Nat:=bX h.dat
theorem GJ (h:dD):nH h=dM (h.props.map aN.dat)+dM (h.marks.bD.map gT.dat)+dM (h.marks.layers.map bW.dat)+5:=by
 simp only [nH,dD.dat,zQ.dat,bX,nU];omega
theorem uP (x:ak):bX x.dat=x.text.size+nH x.head+bq x.flow+fQ x.rows+6:=by
 rw [ak.sN];simp only [bX,nU,aaF,nH,bq,fQ,gH];omega
theorem zP (x:aO):bX x.dat=nH x.head+gH x.cells+1:=by
 rw [aO.sN];simp only [bX,nU,aaF,nH,bq,fQ,gH];omega
theorem zO (x:aQ):bX x.dat=nH x.head+bq x.flow+2:=by
 rw [aQ.sN];simp only [bX,nU,aaF,nH,bq,fQ,gH];omega
theorem Uk {l:List ak} {k:Nat} (h:k < l.length):l[k].text.size+nH l[k].head+bq l[k].flow+fQ l[k].rows+6 < bq l:=by
 rw [<- uP];exact O8 (k:=k) (by simp [h])
theorem Ul {l:List aO} {k:Nat} (h:k < l.length):nH l[k].head+gH l[k].cells+1 < fQ l:=by
 rw [<- zP];exact O8 (k:=k) (by simp [h])
theorem Uj {l:List aQ} {k:Nat} (h:k < l.length):nH l[k].head+bq l[k].flow+2 < gH l:=by
 rw [<- zO];exact O8 (k:=k) (by simp [h])
theorem Dw (l:List ak):l.length<=bq l:=by have:=sG (l.map ak.dat);simpa using this
theorem JH (l:List aO):l.length<=fQ l:=by have:=sG (l.map aO.dat);simpa using this
theorem JG (l:List aQ):l.length<=gH l:=by have:=sG (l.map aQ.dat);simpa using this
theorem TU {r:List Dat}:∀ {rows:List (List Dat)},r∈rows->bX r < dM rows
 | [],h=>by cases h
 | q :: rs,h=>by
  rcases gu.1 h with rfl|h
  ·simp only [dM];omega
  ·have:=TU h;simp only [dM];omega
theorem abb {x:ak} {l:List ak} (h:x∈l):bX x.dat < bq l:=TU (List.mem_map_of_mem h)
theorem amE {x:aO} {l:List aO} (h:x∈l):bX x.dat < fQ l:=TU (List.mem_map_of_mem h)
theorem amA {x:aQ} {l:List aQ} (h:x∈l):bX x.dat < gH l:=TU (List.mem_map_of_mem h)
section
def yX (l:List Oper) (i:Nat):List Nat:=match l[i]? with|some o=>(o.after.toList.filter (Region.binds .any)).map (·.on)|none=>[]
def eX (l:List Oper) (i:Nat):Option Nat:=(l[i]?).bind (·.dst)
def Ab (l:List Oper) (bT:List (List Nat)):Bool :=
 (List.range l.length).all fun i=>(yX l i).all (fun j=>Nat.blt j i) && (bT.getD i []).all fun j=>(yX l i).contains j || (yX l i).any fun k=>Nat.blt k i && (bT.getD k []).contains j
def dL (S:Nat->Bool) (i:Nat):Nat->Bool:=fun j=>if j=i then true else S j
section
variable {r:Option Nat} {P:Program} {Q:Exit->Act->World->Prop} {l:List Oper} {bT:List (List Nat)} {a:Act} {w:World}
theorem aeH (hk:Ab l bT=true) {S:Nat->Bool} (hd:∀ i,S i=true->∀ j∈yX l i,S j=true):∀ i,i < l.length->(∀ j∈yX l i,S j=true)->∀ j∈bT.getD i [],S j=true:=by
 intro i
 induction i using Nat.strongRecOn with
 | _ i ih =>
  intro hi hdi j hj
  have h1:=jR.1 hk i (vW.2 hi)
  simp only [iC,jR] at h1
  have h2:=h1.2 j hj
  simp only [Bool.or_eq_true,qX,List.any_eq_true,iC] at h2
  rcases h2 with h2|⟨k,hk1,hk2,hk3⟩
  ·exact hdi j h2
  ·have hlt:k < i:=Eq.mp Nat.blt_eq hk2
   exact ih k hlt O (hd k (hdi k hk1)) j hk3
theorem aD6 {ops:Array Oper} {i:Nat} {o:Oper} {K:Act->World->Prop} (ho:ops[i]?=some o) (h:WL r P ops (fun e a' w'=>e=.normal∧K a' w') [o] a w):wpOpIn (FW r) 0 P ops Q i K a w:=by
 unfold wpOpIn
 simp only [ho]
 have h':wpListIn (FW r) 0 P ops (fun e a' w'=>e=.normal∧K a' w') [o] a w:=h
 unfold wpListIn at h'
 by_cases hw:Region.wanted o (yielded ops a.tmps)=true
 ·rw [ay hw] at h' |-
  refine ⟨fun _ _=>trivial,?_⟩
  have h2:=h'.2
  generalize (o.semAt (FW r).round a.eval).run P w=res at h2 |-
  cases res with
  | ok x w1 =>
   cases x with
   | value v=>exact h2.2
   | skip=>exact h2.2
   | defer d=>exact h2.2
   | enter f args=>exact ⟨h2.1,h2.2.mono fun e w2 he=>by
     cases e with
     | returned v=>exact he.2
     | panicked ch=>exact absurd he.1 (by simp)
     | outgrown=>obtain ⟨_,_,h3,_⟩:=he;exact absurd h3 (by simp)⟩
   | row rw_ args=>exact ⟨h2.1,h2.2.mono fun v w2 he=>he.2⟩
   | round l f t U5 b=>exact ⟨h2.1,h2.2.mono fun e w2 he=>by
     cases e with
     | returned v=>exact he.2
     | panicked ch=>exact absurd he.1 (by simp)
     | outgrown=>obtain ⟨_,_,h3,_⟩:=he;exact absurd h3 (by simp)⟩
   | _=>exact h2.elim
  | halt x w1 =>
   cases x with
   | panic v=>exact absurd h2.1 (by simp)
   | _=>exact h2.elim
 ·rw [au hw] at h' |-
  exact ⟨fun _ _=>trivial,h'.2.2⟩
theorem count_set {L:List Bool}:∀ {i:Nat},L[i]?=some false->(L.set i true).count false+1=L.count false:=by
 induction L with
 | nil=>intro i h;simp at h
 | cons b L ih =>
  intro i h
  cases i with
  | zero=>simp at h;subst h;simp
  | succ i =>
   simp only [List.getElem?_cons_succ] at h
   have:=ih h
   simp only [List.set_cons_succ,List.count_cons]
   omega
theorem aes {id:Nat} (hm:P.follows .mixedOrders=true) (bT:List (List Nat)) (hk:Ab l bT=true) (X:(Nat->Bool)->Act->World->Prop) (h0:X (fun _=>false) a w.drew)
  (hstep:∀ i o S a w,l[i]?=some o->X S a w->S i=false->(∀ j∈bT.getD i [],S j=true)->(∀ j,j < l.length->i∈bT.getD j []->S j=false)->WL r P l.toArray (fun e a' w'=>e=.normal∧X (dL S i) a' w') [o] a w)
  (hend:∀ S a w,(∀ i,i < l.length->S i=true)->X S a w->Q .normal a w):WP r P (.region id l.toArray true) Q a w:=by
 have key:∀ (fuel:Nat) (listed:Array Bool) (S:Nat->Bool) (a:Act) (w:World),listed.size=l.length->(∀ i,i < l.length->listed[i]?=some (S i))->listed.toList.count false<=fuel->(∀ i,i < l.length->S i=true->∀ j∈yX l i,S j=true)->(∀ i,l.length<=i->S i=false)->X S a w ->
   wpAnyIn (FW r) 0 P .any l.toArray Q fuel listed a w:=by
  intro fuel
  induction fuel with
  | zero =>
   intro listed S a w hsz hS hc hdn hbig hX
   have hall:∀ i,i < l.length->S i=true:=by
    intro i hi
    cases aK:S i with
    | true=>rfl
    | false =>
     have h1:=hS i hi
     rw [aK] at h1
     have:false∈listed.toList:=lZ (by simpa using h1)
     have:=List.count_pos_iff.2 this
     omega
   refine ⟨?_,hend S a w hall hX⟩
   apply List.eq_nil_iff_forall_not_mem.2
   intro i hi
   obtain ⟨h1,o,ho,-⟩:=mem_ready.1 hi
   have hil:i < l.length:=by simpa using (Array.getElem?_eq_some_iff.1 ho).1
   have h2:=hS i hil
   rw [hall i hil] at h2
   rw [Array.getD_eq_getD_getElem?,h2] at h1
   cases h1
  | succ fuel ih =>
   intro listed S a w hsz hS hc hdn hbig hX
   have hget:∀ i d,i < l.length->listed.getD i d=S i:=fun i d hi=>by rw [Array.getD_eq_getD_getElem?,hS i hi];rfl
   refine ⟨fun hnil=>?_,fun i hi=>?_⟩
   ·by_cases hall:∀ i,i < l.length->S i=true
    ·exact hend S a w hall hX
    ·exfalso
     have hex:∃ i,i < l.length∧S i=false:=by
      apply Classical.byContradiction
      intro hno
      apply hall
      intro i hi
      cases aK:S i with
      | true=>rfl
      | false=>exact absurd ⟨i,hi,aK⟩ hno
     obtain ⟨i,hi,aK,hmin⟩:∃ i,i < l.length∧S i=false∧∀ j,j < i->S j=true:=by
      obtain ⟨i0,hi0,hs0⟩:=hex
      clear hall
      induction i0 using Nat.strongRecOn with
      | _ i0 ihh =>
       by_cases hlt:∃ j,j < i0∧S j=false
       ·obtain ⟨j,hj,hsj⟩:=hlt
        exact ihh j hj O hsj
       ·refine ⟨i0,hi0,hs0,fun j hj=>?_⟩
        cases hSj:S j with
        | true=>rfl
        | false=>exact absurd ⟨j,hj,hSj⟩ hlt
     have hr:i∈Region.ready .any l.toArray listed:=by
      rw [mem_ready]
      refine ⟨by rw [hget i true hi,aK],l[i],by simp [hi],fun e he hb=>?_⟩
      have hk1:=jR.1 hk i (vW.2 hi)
      simp only [iC,jR] at hk1
      have hin:e.on∈yX l i:=by
       simp only [yX,eB hi,List.mem_map,List.mem_filter]
       exact ⟨e,⟨by simpa using he,hb⟩,M⟩
      have hlt:e.on < i:=Eq.mp Nat.blt_eq (hk1.1 _ hin)
      rw [hget _ _ O]
      exact hmin _ hlt
     rw [hnil] at hr
     cases hr
   ·obtain ⟨h1,o,ho,avW⟩:=mem_ready.1 hi
    have hil:i < l.length:=by simpa using (Array.getElem?_eq_some_iff.1 ho).1
    have ho':l[i]?=some o:=by simpa using ho
    have aK:S i=false:=by rw [<- hget i true hil];exact h1
    have hdi:∀ j∈yX l i,S j=true:=by
     intro j hj
     simp only [yX,ho',List.mem_map,List.mem_filter] at hj
     obtain ⟨e,⟨he,hb⟩,rfl⟩:=hj
     have h2:=avW e (by simpa using he) hb
     by_cases hjl:e.on < l.length
     ·rwa [hget _ _ hjl] at h2
     ·have hk1:=jR.1 hk i (vW.2 hil)
      simp only [iC,jR] at hk1
      have hin:e.on∈yX l i:=by
       simp only [yX,ho',List.mem_map,List.mem_filter]
       exact ⟨e,⟨he,hb⟩,M⟩
      have hlt:e.on < i:=Eq.mp Nat.blt_eq (hk1.1 _ hin)
      omega
    have ahB:∀ i,S i=true->∀ j∈yX l i,S j=true:=by
     intro k hk' j hj
     by_cases hkl:k < l.length
     ·exact hdn k hkl hk' j hj
     ·rw [hbig k O] at hk';cases hk'
    refine aD6 ho ?_
    have hs:=hstep i o S a w ho' hX aK (aeH hk ahB i hil hdi) (fun j hjl hj=>by
     cases hSj:S j with
     | false=>rfl
     | true=>have:=aeH hk ahB j hjl (hdn j hjl hSj) i hj;rw [this] at aK;cases aK)
    have hmono:∀ e a' w',(e=Exit.normal∧X (dL S i) a' w')->(e=Exit.normal∧wpAnyIn (FW r) 0 P .any l.toArray Q fuel (listed.setIfInBounds i true) a' w'):=by
     rintro e a' w' ⟨he,hX'⟩
     refine ⟨he,ih _ (dL S i) a' w' (by simpa using hsz) (fun j hj=>?_) ?_ (fun j hj hSj q hq=>?_) (fun j hj=>?_) hX'⟩
     ·rw [Array.getElem?_setIfInBounds]
      unfold dL
      by_cases e:i=j
      ·subst e;simp [hsz,hil]
      ·rw [au e,au (Ne.symm e)];exact hS j hj
     ·have h3:listed.toList[i]?=some false:=by have:=hS i hil;rw [aK] at this;simpa using this
      have:=count_set h3
      simp only [Array.toList_setIfInBounds]
      omega
     ·unfold dL at hSj |-
      split
      ·rfl
      ·split at hSj
       ·rename_i e;subst e;exact hdi q hq
       ·exact hdn j hj hSj q hq
     ·unfold dL
      rw [au O]
      exact hbig j hj
    have hs':wpListIn (FW r) 0 P l.toArray (fun e a' w'=>e=.normal∧X (dL S i) a' w') [o] a w:=hs
    show wpListIn (FW r) 0 P l.toArray _ [o] a w
    unfold wpListIn at hs' |-
    split
    ·rename_i hw
     rw [ay hw] at hs'
     refine ⟨fun _ _=>trivial,?_⟩
     have h2:=hs'.2
     generalize (o.semAt (FW r).round a.eval).run P w=res at h2 |-
     cases res with
     | ok x w1 =>
      cases x with
      | value v=>exact hmono _ _ _ h2
      | skip=>exact hmono _ _ _ h2
      | defer d=>exact hmono _ _ _ h2
      | enter f args=>exact ⟨h2.1,h2.2.mono fun e w2 he=>by
        cases e with
        | returned v=>exact hmono _ _ _ he
        | panicked ch=>exact absurd he.1 (by simp)
        | outgrown=>obtain ⟨_,_,h3,_⟩:=he;exact absurd h3 (by simp)⟩
      | row rw_ args=>exact ⟨h2.1,h2.2.mono fun v w2 he=>hmono _ _ _ he⟩
      | round l f t U5 b=>exact ⟨h2.1,h2.2.mono fun e w2 he=>by
        cases e with
        | returned v=>exact hmono _ _ _ he
        | panicked ch=>exact absurd he.1 (by simp)
        | outgrown=>obtain ⟨_,_,h3,_⟩:=he;exact absurd h3 (by simp)⟩
      | _=>exact h2.elim
     | halt x w1 =>
      cases x with
      | panic v=>exact absurd h2.1 (by simp)
      | _=>exact h2.elim
    ·rename_i hw
     rw [au hw] at hs'
     exact ⟨fun _ _=>trivial,hmono _ _ _ hs'.2⟩
 refine wpIn_region_any hm (key _ _ (fun _=>false) a w.drew (by simp) (fun i hi=>by simp [hi]) ?_ (fun _ _ h=>by cases h) (fun _ _=>rfl) h0)
 simp
end
def full (N:Nat) (a:Act):List (Nat × ah):=(List.range N).map fun t=>(t,a.tmps.getD t undef)
theorem Sz (T U:List (Nat × ah)) (t:Nat):lk (T++U) t=match lk T t with|some v=>some v|none=>lk U t:=by
 induction T with
 | nil=>rfl
 | cons p T ih =>
  obtain ⟨s,v⟩:=p
  by_cases e:s=t
  ·subst e;rw [pR,yB,yB]
  ·rw [pR,xD e,xD e,ih]
theorem ajm (f:Nat->ah):∀ (L:List Nat) (t:Nat),t∈L->lk (L.map fun t=>(t,f t)) t=some (f t)
 | [],_,h=>by cases h
 | s :: L,t,h=>by
  simp only [dO]
  by_cases e:s=t
  ·subst e;rw [yB]
  ·rw [xD e]
   exact ajm f L t ((gu.1 h).resolve_left (Ne.symm e))
theorem SA {N t:Nat} (a:Act) (h:t < N):lk (full N a) t=some (a.tmps.getD t undef):=ajm (fun t=>a.tmps.getD t undef) _ t (vW.2 h)
section
variable {N:Nat} {D:List Deferred} {w0:World} {F:Nat->Prop} {G0 G G1 G2:GH} {L L1 L2:OL} {T Xs:List (Nat × ah)}
variable {r:Option Nat} {P:Program} {Q:Exit->Act->World->Prop} {l:List Oper} {a a':Act} {w w':World}
theorem St.full (H:St N D w0 F G0 G L T a w):St N D w0 F G0 G L (T++full N a) a w:=by
 refine ⟨H.oP,fun t v ht=>?_,H.vg,H.hp⟩
 rw [Sz] at ht
 cases hT:lk T t with
 | some u=>rw [hT] at ht;simp only [pX] at ht;subst ht;exact H.get t u hT
 | none =>
  rw [hT] at ht
  by_cases hlt:t < N
  ·rw [SA a hlt] at ht
   simp only [pX] at ht
   have h2:t < a.tmps.size:=by rw [H.oP];exact hlt
   rw [<- ht,Array.getD_eq_getD_getElem?,Array.getElem?_eq_getElem h2]
   rfl
  ·exfalso
   have:∀ (L:List Nat),t∉L->lk (L.map fun t=>(t,a.tmps.getD t undef)) t=none:=by
    intro L
    induction L with
    | nil=>intro _;rfl
    | cons s L ih=>intro h;simp only [dO];rw [xD (fun e=>h (by simp [e])),ih (fun h'=>h (by simp [h']))]
   rw [show lk (Proofs.YtdiflmikikiedaaGreat.full N a) t=none from this _ (by simp;omega)] at ht
   cases ht
theorem St.gU (H:St N D w0 F G0 G L T a w) {t:Nat} {v:ah} (h:a.tmps[t]?=some v):St N D w0 F G0 G L ((t,v) :: T) a w :=
 ⟨H.oP,fun s u hs=>by
  by_cases e:t=s
  ·subst e;rw [yB] at hs;simp only [pX] at hs;subst hs;exact h
  ·rw [xD e] at hs;exact H.get s u hs,H.vg,H.hp⟩
def DX (N:Nat) (D:List Deferred) (w0:World) (F:Nat->Prop) (G0 G:GH) (L:OL) (T:List (Nat × ah)) (l:List Oper) (pr:Nat->ah->GH->Prop) (S:Nat->Bool) (a:Act) (w:World):Prop :=
 ∃ G1,(∀ k o,G k=some o->G1 k=some o)∧St N D w0 F G0 G1 L T a w∧∀ i d,S i=true->eX l i=some d->∃ v,a.tmps[d]?=some v∧pr i v G1
def qb (l:List Oper) (T:List (Nat × ah)) (i:Nat):Bool :=
 match eX l i with|none=>true|some d=>(lk T d).isNone && (List.range l.length).all fun j=>bif Nat.beq i j then true else !(eX l j == some d)
def aqf (l:List Oper) (T:List (Nat × ah)):Bool :=
 (List.range l.length).all (qb l T)
theorem oV {pr:Nat->ah->GH->Prop} {S:Nat->Bool} {i d:Nat} {v:ah} (hok:qb l T i=true) (kU:∀ i v (G G':GH),(∀ k o,G k=some o->G' k=some o)->pr i v G->pr i v G') (hi:eX l i=some d) (hdl:Nat.blt i l.length=true)
  (HT:St N D w0 F G0 G1 L T a w) (Hb:St N D w0 F G0 G1 L (Xs++full N a) a w) (hG:∀ k o,G k=some o->G1 k=some o) (hv:∀ i d,S i=true->eX l i=some d->∃ v,a.tmps[d]?=some v∧pr i v G1)
  (hG2:∀ k o,G1 k=some o->G2 k=some o) (hp:pr i v G2) (H:St N D w0 F G0 G2 L ((d,v) :: (Xs++full N a)) a' w'):DX N D w0 F G0 G L T l pr (dL S i) a' w':=by
 have hil:i < l.length:=Eq.mp Nat.blt_eq hdl
 have hok1:=hok
 rw [qb,hi] at hok1
 simp only [iC,Option.isNone_iff_eq_none,jR,vW] at hok1
 have hsame:∀ t,t≠d->a'.tmps[t]?=a.tmps[t]?:=by
  intro t ht
  by_cases hlt:t < N
  ·have h1:∃ u,lk (Xs++full N a) t=some u:=by
    rw [Sz]
    cases lk Xs t with
    | some u=>exact ⟨u,M⟩
    | none=>exact ⟨_,SA a hlt⟩
   obtain ⟨u,hu⟩:=h1
   rw [Hb.get t u hu,H.get t u (by rw [xD (Ne.symm ht)];exact hu)]
  ·rw [Array.getElem?_eq_none (by rw [H.oP];omega),Array.getElem?_eq_none (by rw [Hb.oP];omega)]
 refine ⟨G2,fun k o hk=>hG2 k o (hG k o hk),⟨H.oP,fun t u ht=>?_,H.vg,H.hp⟩,fun j e hj he=>?_⟩
 ·rw [hsame t (fun e=>by rw [e,hok1.1] at ht;cases ht)]
  exact HT.get t u ht
 ·by_cases hji:j=i
  ·subst hji
   rw [hi] at he
   simp only [pX] at he
   subst he
   exact ⟨v,H.get d v (yB _ _ _),hp⟩
  ·have hSj:S j=true:=by unfold dL at hj;rwa [au hji] at hj
   obtain ⟨u,hu1,hu2⟩:=hv j e hSj he
   have hjl:j < l.length:=by
    unfold eX at he
    by_cases hl:j < l.length
    ·exact hl
    ·rw [List.getElem?_eq_none O] at he;cases he
   have hne:e≠d:=by
    intro e'
    subst e'
    have h2:=hok1.2 j hjl
    have hb:Nat.beq i j=false:=by
     cases h:Nat.beq i j with
     | false=>rfl
     | true=>exact absurd (Ci h).symm hji
    rw [hb,he] at h2
    simp at h2
   exact ⟨u,by rw [hsame e hne];exact hu1,kU j u _ _ hG2 hu2⟩
def yJ (l:List Oper) (bT:List (List Nat)) (B:List Nat):Bool :=
 (List.range B.length).all (fun p=>match B[p]? with|none=>false|some b=>Nat.blt b l.length && (List.range l.length).all fun i=>B.contains i && !(B.take p).contains i || (bT.getD b []).contains i) &&
 (List.range l.length).all fun i=>B.contains i || (bT.getD i []).all fun j=>!B.contains j
def rH (l:List Oper):List Nat->List Oper
 | []=>[]
 | b :: B=>match l[b]? with|some o=>o :: rH l B|none=>rH l B
theorem qy {ops:Array Oper} {Q':Exit->Act->World->Prop} (hq:∀ e a w,Q e a w->Q' e a w):∀ {L:List Oper} {a:Act} {w:World},WL r P ops Q L a w->WL r P ops Q' L a w
 | [],a,w,h=>hq _ _ _ h
 | o :: L,a,w,h=>by
  have h':wpListIn (FW r) 0 P ops Q (o :: L) a w:=h
  show wpListIn (FW r) 0 P ops Q' (o :: L) a w
  unfold wpListIn at h' |-
  split
  ·rename_i hw
   rw [ay hw] at h'
   refine ⟨h'.1,?_⟩
   have h2:=h'.2
   generalize (o.semAt (FW r).round a.eval).run P w=res at h2 |-
   cases res with
   | ok x w1 =>
    cases x with
    | value v=>exact qy hq h2
    | skip=>exact qy hq h2
    | defer d=>exact qy hq h2
    | enter f args=>exact ⟨h2.1,h2.2.mono fun e w2 he=>by
      cases e with
      | returned v=>exact qy hq he
      | panicked ch=>exact hq _ _ _ he
      | outgrown=>obtain ⟨x,y,h3⟩:=he;exact ⟨x,y,hq _ _ _ h3⟩⟩
    | row rw_ args=>exact ⟨h2.1,h2.2.mono fun v w2 he=>qy hq he⟩
    | round l f t U5 b=>exact ⟨h2.1,h2.2.mono fun e w2 he=>by
      cases e with
      | returned v=>exact qy hq he
      | panicked ch=>exact hq _ _ _ he
      | outgrown=>obtain ⟨x,y,h3⟩:=he;exact ⟨x,y,hq _ _ _ h3⟩⟩
    | _=>exact h2.elim
   | halt x w1 =>
    cases x with
    | panic v=>exact hq _ _ _ h2
    | _=>exact h2.elim
  ·rename_i hw
   rw [au hw] at h'
   exact ⟨h'.1,qy hq h'.2⟩
theorem amv {ops:Array Oper} {o:Oper} {L:List Oper} {K:Act->World->Prop} (hK:∀ a w,WL r P ops (fun e a w=>e=.normal∧Q .normal a w) L a w->K a w) (h:WL r P ops (fun e a w=>e=.normal∧Q .normal a w) (o :: L) a w):WL r P ops (fun e a' w'=>e=.normal∧K a' w') [o] a w:=by
 have h':wpListIn (FW r) 0 P ops (fun e a w=>e=.normal∧Q .normal a w) (o :: L) a w:=h
 show wpListIn (FW r) 0 P ops _ [o] a w
 unfold wpListIn at h' |-
 split
 ·rename_i hw
  rw [ay hw] at h'
  refine ⟨h'.1,?_⟩
  have h2:=h'.2
  generalize (o.semAt (FW r).round a.eval).run P w=res at h2 |-
  cases res with
  | ok x w1 =>
   cases x with
   | value v=>exact ⟨M,hK _ _ h2⟩
   | skip=>exact ⟨M,hK _ _ h2⟩
   | defer d=>exact ⟨M,hK _ _ h2⟩
   | enter f args=>exact ⟨h2.1,h2.2.mono fun e w2 he=>by
     cases e with
     | returned v=>exact ⟨M,hK _ _ he⟩
     | panicked ch=>exact absurd he.1 (by simp)
     | outgrown=>obtain ⟨_,_,h3,_⟩:=he;exact absurd h3 (by simp)⟩
   | row rw_ args=>exact ⟨h2.1,h2.2.mono fun v w2 he=>⟨M,hK _ _ he⟩⟩
   | round l f t U5 b=>exact ⟨h2.1,h2.2.mono fun e w2 he=>by
     cases e with
     | returned v=>exact ⟨M,hK _ _ he⟩
     | panicked ch=>exact absurd he.1 (by simp)
     | outgrown=>obtain ⟨_,_,h3,_⟩:=he;exact absurd h3 (by simp)⟩
   | _=>exact h2.elim
  | halt x w1 =>
   cases x with
   | panic v=>exact absurd h2.1 (by simp)
   | _=>exact h2.elim
 ·rename_i hw
  rw [au hw] at h'
  exact ⟨h'.1,M,hK _ _ h'.2⟩
theorem aos {id:Nat} (hm:P.follows .mixedOrders=true) (bT:List (List Nat)) (B:List Nat) (hk:Ab l bT=true) (hB:yJ l bT B=true) (pr:Nat->ah->GH->Prop) (kU:∀ i v (G G':GH),(∀ k o,G k=some o->G' k=some o)->pr i v G->pr i v G')
  (H:St N D w0 F G0 G L T a w)
  (hstep:∀ i o S a w G1,l[i]?=some o->B.contains i=false->S i=false->(∀ j∈bT.getD i [],S j=true)->(∀ k o,G k=some o->G1 k=some o)->St N D w0 F G0 G1 L T a w->(∀ i d,S i=true->eX l i=some d->∃ v,a.tmps[d]?=some v∧pr i v G1) ->
   WL r P l.toArray (fun e a' w'=>e=.normal∧DX N D w0 F G0 G L T l pr (dL S i) a' w') [o] a w)
  (hend:∀ a w G1,(∀ k o,G k=some o->G1 k=some o)->St N D w0 F G0 G1 L T a w->(∀ i d,B.contains i=false->eX l i=some d->∃ v,a.tmps[d]?=some v∧pr i v G1)->WL r P l.toArray (fun e a w=>e=.normal∧Q .normal a w) (rH l B) a w):WP r P (.region id l.toArray true) Q a w:=by
 have hB1:∀ p b,B[p]?=some b->b < l.length∧∀ i,i < l.length->(B.contains i=false∨(B.take p).contains i=true)->i∈bT.getD b []:=by
  intro p b hp
  simp only [yJ,iC] at hB
  have h1:=jR.1 hB.1 p (vW.2 (jZ.1 hp).1)
  rw [hp] at h1
  simp only [iC,jR,vW] at h1
  refine ⟨Eq.mp Nat.blt_eq h1.1,fun i hi hor=>?_⟩
  have h2:=h1.2 i hi
  rcases hor with h3|h3
  ·have h4:i∉B:=by simpa using h3
   simpa [h4] using h2
  ·have h4:i∈B.take p:=by simpa using h3
   simpa [h4] using h2
 have hB2:∀ i,i < l.length->B.contains i=false->∀ j∈bT.getD i [],B.contains j=false:=by
  intro i hi hb j hj
  simp only [yJ,iC] at hB
  have h1:=jR.1 hB.2 i (vW.2 hi)
  rw [hb] at h1
  simp only [Bool.false_or,jR] at h1
  simpa using h1 j hj
 refine aes hm bT hk (fun S a w=>((∀ i,B.contains i=true->S i=false)∧DX N D w0 F G0 G L T l pr S a w) ∨
   ∃ p,(∀ i,i < l.length->B.contains i=false->S i=true)∧(∀ i,(B.take p).contains i=true->S i=true)∧(∀ q b,B[q]?=some b->p<=q->S b=false)∧WL r P l.toArray (fun e a w=>e=.normal∧Q .normal a w) (rH l (B.drop p)) a w)
  (.inl ⟨fun _ _=>rfl,G,fun _ _ h=>h,H.move H.hp.drew,fun _ _ h=>by cases h⟩) ?_ ?_
 ·intro i o S a w ho hX aK mg hdesc
  have hil:i < l.length:=(jZ.1 ho).1
  by_cases hbi:B.contains i=true
  ·-- an operation of the tail: all that stands ahead of it is done
   obtain ⟨p0,hp0⟩:=List.getElem?_of_mem (by simpa using hbi:i∈B)
   have hall:∀ j,j < l.length->B.contains j=false->S j=true:=fun j hj hb=>mg j ((hB1 p0 i hp0).2 j hj (.inl hb))
   have YE:∃ p,(∀ i,(B.take p).contains i=true->S i=true)∧(∀ q b,B[q]?=some b->p<=q->S b=false)∧WL r P l.toArray (fun e a w=>e=.normal∧Q .normal a w) (rH l (B.drop p)) a w:=by
    rcases hX with ⟨h1,G1,hG,HS,hv⟩|⟨p,_,h2,h3,h4⟩
    ·refine ⟨0,by simp,fun q b hq _=>h1 b (by simpa using lZ hq),?_⟩
     refine hend a w G1 hG HS fun j e hb he=>?_
     have hjl:j < l.length:=by
      unfold eX at he
      by_cases hl:j < l.length
      ·exact hl
      ·rw [List.getElem?_eq_none O] at he;cases he
     exact hv j e (hall j hjl hb) he
    ·exact ⟨p,h2,h3,h4⟩
   obtain ⟨p,h2,h3,h4⟩:=YE
   -- i is the next one
   have hpp:p<=p0:=by
    rcases Nat.lt_or_ge p0 p with hlt|hge
    ·have:(B.take p).contains i=true:=by
      simp only [qX]
      exact lZ (i:=p0) (by rw [uS,ay hlt];exact hp0)
     rw [h2 i this] at aK;cases aK
    ·exact hge
   have IW:p < B.length:=by have:=(jZ.1 hp0).1;omega
   have hbp:B[p]?=some B[p]:=eB IW
   have heq:B[p]=i:=by
    rcases Nat.lt_or_ge p p0 with hlt|hge
    ·exfalso
     have hin:B[p]∈bT.getD i []:=(hB1 p0 i hp0).2 _ (hB1 p _ hbp).1 (.inr (by
      simp only [qX]
      exact lZ (i:=p) (by rw [uS,ay hlt];exact hbp)))
     have:=mg _ hin
     rw [h3 p _ hbp (dS _)] at this;cases this
    ·have:p=p0:=by omega
     subst this
     rw [hbp] at hp0;simpa using hp0
   have hdrop:B.drop p=i :: B.drop (p+1):=by rw [nK IW,heq]
   have hops:rH l (B.drop p)=o :: rH l (B.drop (p+1)):=by rw [hdrop];simp [rH,ho]
   rw [hops] at h4
   refine amv (fun a' w' h5=>.inr ⟨p+1,fun j hj hb=>?_,fun j hj=>?_,fun q b hq hpq=>?_,h5⟩) h4
   ·unfold dL;split
    ·rfl
    ·exact hall j hj hb
   ·unfold dL;split
    ·rfl
    ·rename_i hne
     refine h2 j ?_
     simp only [qX] at hj |-
     rw [jK IW,kC] at hj
     rcases hj with hj|hj
     ·exact hj
     ·simp only [qY] at hj;exact absurd (hj.trans heq) hne
   ·unfold dL
    rw [au ?_]
    ·exact h3 q b hq O
    ·rintro rfl
     -- i would stand twice in B: it would come ahead of itself
     have h6:=(hB1 q b hq).2 b (hB1 q b hq).1 (.inr (by
      simp only [qX]
      exact lZ (i:=p) (by rw [uS,ay O];rw [hbp,heq])))
     rw [mg _ h6] at aK;cases aK
  ·have IG:B.contains i=false:=by cases h:B.contains i with|false=>rfl|true=>exact absurd h hbi
   rcases hX with ⟨h1,G1,hG,HS,hv⟩|⟨p,h0,_,_,_⟩
   ·refine qy (fun e a' w' ⟨he,hD⟩=>⟨he,.inl ⟨fun j hj=>?_,hD⟩⟩) (hstep i o S a w G1 ho IG aK mg hG HS hv)
    unfold dL
    rw [au (by rintro rfl;rw [IG] at hj;cases hj)]
    exact h1 j hj
   ·rw [h0 i hil IG] at aK;cases aK
 ·intro S a w hall hX
  rcases hX with ⟨h1,G1,hG,HS,hv⟩|⟨p,_,_,h3,h4⟩
  ·have hnil:B=[]:=by
    cases B with
    | nil=>rfl
    | cons b B=>have h5:=h1 b (by simp);rw [hall b (hB1 0 b M).1] at h5;cases h5
   subst hnil
   have h6:=hend a w G1 hG HS fun j e _ he=>by
    have hjl:j < l.length:=by
     unfold eX at he
     by_cases hl:j < l.length
     ·exact hl
     ·rw [List.getElem?_eq_none O] at he;cases he
    exact hv j e (hall j hjl) he
   exact h6.2
  ·have hnil:B.drop p=[]:=by
    cases hd:B.drop p with
    | nil=>rfl
    | cons b B' =>
     have hb:B[p]?=some b:=by
      have:=cO (fun x:List Nat=>x[0]?) hd
      simpa using this
     have h5:=h3 p b hb (dS _)
     rw [hall b (hB1 p b hb).1] at h5;cases h5
   rw [hnil] at h4
   exact h4.2
def allI (φ:Nat->Oper->Prop):Nat->List Oper->Prop
 | _,[]=>True
 | i,o :: r=>φ i o∧allI φ (i+1) r
theorem dz {φ:Nat->Oper->Prop} {i:Nat}:allI φ i []:=trivial
theorem bN {φ:Nat->Oper->Prop} {i:Nat} {o:Oper} {r:List Oper} (h:φ i o) (t:allI φ (i+1) r):allI φ i (o :: r):=⟨h,t⟩
theorem AU {φ:Nat->Oper->Prop}:∀ {l:List Oper} {s:Nat},allI φ s l->∀ i o,l[i]?=some o->φ (s+i) o
 | [],s,_,i,o,h=>by simp at h
 | x :: l,s,h,0,o,ho=>by simp at ho;subst ho;exact h.1
 | x :: l,s,h,i+1,o,ho=>by
  have:=AU h.2 i o (by simpa using ho)
  rwa [show s+1+i=s+(i+1) by omega] at this
theorem yU {id:Nat} (hm:P.follows .mixedOrders=true) (bT:List (List Nat)) (B:List Nat) (hk:Ab l bT=true) (hB:yJ l bT B=true) (pr:Nat->ah->GH->Prop) (kU:∀ i v (G G':GH),(∀ k o,G k=some o->G' k=some o)->pr i v G->pr i v G')
  (H:St N D w0 F G0 G L T a w)
  (hstep:allI (fun i o=>∀ S a w G1,B.contains i=false->S i=false->(∀ j∈bT.getD i [],S j=true)->(∀ k o,G k=some o->G1 k=some o)->St N D w0 F G0 G1 L T a w->(∀ i d,S i=true->eX l i=some d->∃ v,a.tmps[d]?=some v∧pr i v G1) ->
   WL r P l.toArray (fun e a' w'=>e=.normal∧DX N D w0 F G0 G L T l pr (dL S i) a' w') [o] a w) 0 l)
  (hend:∀ a w G1,(∀ k o,G k=some o->G1 k=some o)->St N D w0 F G0 G1 L T a w->(∀ i d,B.contains i=false->eX l i=some d->∃ v,a.tmps[d]?=some v∧pr i v G1)->WL r P l.toArray (fun e a w=>e=.normal∧Q .normal a w) (rH l B) a w):WP r P (.region id l.toArray true) Q a w :=
 aos hm bT B hk hB pr kU H (fun i o S a w G1 ho hb hs hc hg HS hv=>by
  have:=AU hstep i o ho
  rw [gZ] at this
  exact this S a w G1 hb hs hc hg HS hv) hend
theorem aCN {pr:Nat->ah->GH->Prop} {i d j t:Nat} {op:Op} {ty:TypeId} {pos:String} {aL:Array Edge} {want b:Bool} {bT:List (List Nat)} {B:List Nat} (hok:qb l T i=true) (kU:∀ i v (G G':GH),(∀ k o,G k=some o->G' k=some o)->pr i v G->pr i v G')
  (hi:eX l i=some d) (hdl:Nat.blt i l.length=true) (hjd:eX l j=some t) (hjc:(bT.getD i []).contains j=true) (hd:Nat.blt d N=true) (hb:∀ v G,pr j v G->v=.bool b) (hbw:b=!want) (hu:∀ G,pr i undef G) :
  ∀ S a w G1,B.contains i=false->S i=false->(∀ j∈bT.getD i [],S j=true)->(∀ k o,G k=some o->G1 k=some o)->St N D w0 F G0 G1 L T a w->(∀ i d,S i=true->eX l i=some d->∃ v,a.tmps[d]?=some v∧pr i v G1) ->
   WL r P l.toArray (fun e a' w'=>e=.normal∧DX N D w0 F G0 G L T l pr (dL S i) a' w') [⟨some d,op,ty,pos,aL,some (j,want)⟩] a w:=by
 intro S a w G1 _ _ hc hG HT hv
 obtain ⟨u,hu1,hu2⟩:=hv j t (hc j (qX.1 hjc)) hjd
 obtain rfl:=hb _ _ hu2
 have H:=(HT.gU hu1).full
 refine akY H (by unfold eX at hjd;simpa using hjd) (show lk ((t,Value.bool b) :: (T++full N a)) t=_ by simp [lk]) hbw hd ?_
 intro a' H'
 refine aD ⟨M,?_⟩
 exact oV (Xs:=(t,.bool b) :: T) hok kU hi hdl HT H hG hv (fun _ _ h=>h) (hu G1) H'
def U4 (pr:Nat->ah->GH->Prop):List (Nat × Nat × ah)->Prop
 | []=>True
 | (j,_,u) :: r=>(∀ v G,pr j v G->v=u)∧U4 pr r
def Dn (us:List (Nat × Nat × ah)) (T:List (Nat × ah)):List (Nat × ah):=us.foldl (fun T x=>(x.2.1,x.2.2) :: T) T
theorem abC {pr:Nat->ah->GH->Prop} {S:Nat->Bool} {ds:List Nat}:∀ {us:List (Nat × Nat × ah)} {T:List (Nat × ah)},us.all (fun x=>ds.contains x.1 && (eX l x.1 == some x.2.1))=true->U4 pr us->(∀ j∈ds,S j=true)->(∀ i d,S i=true->eX l i=some d->∃ v,a.tmps[d]?=some v∧pr i v G1)->St N D w0 F G0 G1 L T a w->St N D w0 F G0 G1 L (Dn us T) a w
 | [],_,_,_,_,_,H=>H
 | (j,t,u) :: r,T,h,hu,hc,hv,H=>by
  simp only [List.all_cons,iC,beq_iff_eq] at h
  obtain ⟨v,hv1,hv2⟩:=hv j t (hc j (qX.1 h.1.1)) h.1.2
  obtain rfl:=hu.1 v _ hv2
  exact abC (us:=r) h.2 hu.2 hc hv (H.gU hv1)
theorem eY {pr:Nat->ah->GH->Prop} {i d:Nat} {o:Oper} {bT:List (List Nat)} {B:List Nat} (us:List (Nat × Nat × ah)) (hus:us.all (fun x=>(bT.getD i []).contains x.1 && (eX l x.1 == some x.2.1))=true) (hu:U4 pr us) (hok:qb l T i=true) (kU:∀ i v (G G':GH),(∀ k o,G k=some o->G' k=some o)->pr i v G->pr i v G')
  (hi:eX l i=some d) (hdl:Nat.blt i l.length=true)
  (k:∀ S a w G1,(∀ k o,G k=some o->G1 k=some o)->St N D w0 F G0 G1 L T a w->St N D w0 F G0 G1 L (Dn us T++full N a) a w ->
   (∀ {a' w' G2 v},St N D w0 F G0 G2 L ((d,v) :: (Dn us T++full N a)) a' w'->(∀ k o,G1 k=some o->G2 k=some o)->pr i v G2->WL r P l.toArray (fun e a' w'=>e=.normal∧DX N D w0 F G0 G L T l pr (dL S i) a' w') [] a' w')->WL r P l.toArray (fun e a' w'=>e=.normal∧DX N D w0 F G0 G L T l pr (dL S i) a' w') [o] a w) :
  ∀ S a w G1,B.contains i=false->S i=false->(∀ j∈bT.getD i [],S j=true)->(∀ k o,G k=some o->G1 k=some o)->St N D w0 F G0 G1 L T a w->(∀ i d,S i=true->eX l i=some d->∃ v,a.tmps[d]?=some v∧pr i v G1) ->
   WL r P l.toArray (fun e a' w'=>e=.normal∧DX N D w0 F G0 G L T l pr (dL S i) a' w') [o] a w:=by
 intro S a w G1 _ _ hc hG HT hv
 have H:=abC hus hu hc hv HT
 exact k S a w G1 hG HT H.full fun H' hG2 hp=>aD ⟨M,oV (Xs:=Dn us T) hok kU hi hdl HT H.full hG hv hG2 hp H'⟩
end
end
section
section
variable {N:Nat} {D:List Deferred} {w0:World} {F:Nat->Prop} {G0 G:GH} {L:List (Nat × Obj)} {T:List (Nat × ah)}
variable {r:Option Nat} {P:Program} {ops:Array Oper} {Q:Exit->Act->World->Prop} {rest:List Oper} {w:World}
variable {d:Nat} {ty:TypeId} {pos:String} {aL:Array Edge}
theorem kH {a:Act} {l:List Oper} (H:St N D w0 F G0 G L T a w) (k:∀ a,St N D w0 F G0 G L T a w->WL r P ops Q l a w):WL r P ops Q l a w:=k a H
theorem Rm {x:Operand} {v:ah} (h:(ev T x,Nat.blt d N)=(some v,true)) (k:∀ a',St N D w0 F G0 G L ((d,v) :: T) a' w->WL r P ops Q rest a' w) :
  ∀ a,St N D w0 F G0 G L T a w->WL r P ops Q (⟨some d,.move x,ty,pos,aL,none⟩ :: rest) a w:=fun _ H=>by
 simp only [iX] at h
 exact Jy H wn h.1 h.2 k
theorem Ra {x:Operand} {v:ah} (h:(ev T x,Nat.blt d N)=(some v,true)) (k:∀ a',St N D w0 F G0 G L ((d,v) :: T) a' w->WL r P ops Q rest a' w) :
  ∀ a,St N D w0 F G0 G L T a w->WL r P ops Q (⟨some d,.assign x,ty,pos,aL,none⟩ :: rest) a w:=fun _ H=>by
 simp only [iX] at h
 exact aBP H wn h.1 h.2 k
theorem Rc {op:BinOp} {x y:Operand} {t yt:TypeId} {kd:IntKind} {p q:Int} {b:Bool} (h:(ev T x,ev T y,Nn op p q,Nat.blt d N)=(some (.int kd p),some (.int kd q),some b,true)) (k:∀ a',St N D w0 F G0 G L ((d,.bool b) :: T) a' w->WL r P ops Q rest a' w) :
  ∀ a,St N D w0 F G0 G L T a w->WL r P ops Q (⟨some d,.binOp op t x y yt,ty,pos,aL,none⟩ :: rest) a w:=fun _ H=>by
 simp only [iX] at h
 exact Jv H wn h.1 h.2.1 h.2.2.1 h.2.2.2 k
theorem Rf {s:TypeId} {x:Operand} {n b o off:Nat} (hs:dR P s n off) (h:(ev T x,Nat.blt d N)=(some (.pointer (some ⟨b,o,none⟩)),true)) (k:∀ a',St N D w0 F G0 G L ((d,.pointer (some ⟨b,o+off,none⟩)) :: T) a' w->WL r P ops Q rest a' w) :
  ∀ a,St N D w0 F G0 G L T a w->WL r P ops Q (⟨some d,.fieldAddr s x n,ty,pos,aL,none⟩ :: rest) a w:=fun _ H=>by
 simp only [iX] at h
 exact Ms hs H wn h.1 h.2 k
theorem Rn {x:Operand} {t:TypeId} {b:Bool} (h:(ev T x,Nat.blt d N)=(some (.bool b),true)) (k:∀ a',St N D w0 F G0 G L ((d,.bool (!b)) :: T) a' w->WL r P ops Q rest a' w) :
  ∀ a,St N D w0 F G0 G L T a w->WL r P ops Q (⟨some d,.unOp .not t x,ty,pos,aL,none⟩ :: rest) a w:=fun _ H=>by
 simp only [iX] at h
 exact akX H wn h.1 h.2 k
theorem Rk {x:Operand} {p:Addr} (h:(ev T x,Nat.blt d N)=(some (.pointer (some p)),true)) (k:∀ a',St N D w0 F G0 G L ((d,.pointer (some p)) :: T) a' w->WL r P ops Q rest a' w) :
  ∀ a,St N D w0 F G0 G L T a w->WL r P ops Q (⟨some d,.nilCheck x,ty,pos,aL,none⟩ :: rest) a w:=fun _ H=>by
 simp only [iX] at h
 exact zH H wn h.1 h.2 k
theorem Rl {x:Operand} {t e:TypeId} {A:Option Addr} {n c:Nat} (hs:P.underlying t=some (.slice e)) (h:(ev T x,Nat.blt d N)=(some (.slice A n c),true)) (k:∀ a',St N D w0 F G0 G L ((d,.int .i64 n) :: T) a' w->WL r P ops Q rest a' w) :
  ∀ a,St N D w0 F G0 G L T a w->WL r P ops Q (⟨some d,.call { callee:=.builtin .len,args:=#[x],argTypes:=#[t] },ty,pos,aL,none⟩ :: rest) a w:=fun _ H=>by
 simp only [iX] at h
 exact akS hs H wn h.1 h.2 k
theorem Ro {t:TypeId} {sz bytes:Nat} {zero:List ah} (ht:Ty P t sz bytes zero false) (i:Nat) {x:Operand} {b o:Nat} {v:ah} {c:Array ah} {e:TypeId} {fz:Nat × Nat} (h:(ev T x,L[i]?,Nat.blt d N,c[o]?)=(some (.pointer (some ⟨b,o,none⟩)),some (b,.cells c e fz),true,some v))
  (k:∀ a',St N D w0 F G0 G L ((d,v) :: T) a' w->WL r P ops Q rest a' w) :
  ∀ a,St N D w0 F G0 G L T a w->WL r P ops Q (⟨some d,.load t x,ty,pos,aL,none⟩ :: rest) a w:=fun _ H=>by
 simp only [iX] at h
 exact sF ht H wn h.1 (H.hp.uN i h.2.1 h.2.2.2) h.2.2.1 k
theorem bC {d':Nat} {ty':TypeId} {pos':String} {ano:Array Edge} {s:TypeId} {x:Operand} {n b o off:Nat} (hs:dR P s n off) {t:TypeId} {sz bytes:Nat} {zero:List ah} (ht:Ty P t sz bytes zero false) (i:Nat) {v:ah} {c:Array ah} {e:TypeId} {fz:Nat × Nat}
  (h:(ev T x,Nat.blt d N)=(some (.pointer (some ⟨b,o,none⟩)),true)) (h':(L[i]?,Nat.blt d' N,c[o+off]?)=(some (b,.cells c e fz),true,some v))
  (k:∀ a',St N D w0 F G0 G L ((d',v) :: (d,.pointer (some ⟨b,o+off,none⟩)) :: T) a' w->WL r P ops Q rest a' w) :
  ∀ a,St N D w0 F G0 G L T a w->WL r P ops Q (⟨some d,.fieldAddr s x n,ty,pos,aL,none⟩ :: ⟨some d',.load t (.tmp d),ty',pos',ano,none⟩ :: rest) a w :=
 Rf hs h (Ro ht i (by simp only [iX] at h' |-;exact ⟨yB ..,h'.1,h'.2.1,h'.2.2⟩) k)
theorem lv {a:Act} {fn:Func} {t:Nat} {v:ah} {R:Ending->World->Prop} (H:St N [] w0 F G0 G L T a w) (hr:fn.results=#[.tmp t]) (h:lk T t=some v) (hR:R (.returned v) w):bodyPostM (FW none) 0 P fn R .ret a w :=
 (leave1 H (rs:=[.tmp t]) hr (.cons (fB H h) .nil) hR).1
theorem St.rt {a:Act} {R:ah->GH->Prop} {v:ah} (H:St N D w0 (fun k=>k < w0.heap.size) G0 G L T a w) (hR:R v G):bE w0 G0 R (.returned v) w:=H.hp.ret hR
theorem St.ro {a:Act} (H:St N D w0 F G0 G L T a w):∀ k o,G k=some o->w.heap[k]?=some o:=H.hp.ro
theorem iJ {H:GH}:∀ k o,H k=some o->H k=some o:=fun _ _ h=>h
end
theorem eN {N:Nat} {w:World} {G:GH} {P:Program} (T:List (Nat × ah)) {f:FuncId} {fn:Func} {c:Code} {vs:List ah} {R:Ending->World->Prop} (hf:P.funcs[f]?=some fn) (hb:fn.body=some c) (hN:fn.ntmps=N) (hle:Nat.ble vs.length N=true)
  (hT:Hr 0 vs=T) (hG:Hold G w) (h:∀ a,St N [] w (fun k=>k < w.heap.size) G G [] T a w->WP none P c (bodyPostM (FW none) 0 P fn R) a w):Calls P f vs.toArray w R :=
 enter hf hb hN hle hT hG (fun _ h=>h) (fun _ h=>by cases h) (fun _ h=>by cases h) (fun _ h=>by cases h) List.Pairwise.nil h
def pvW:List ah->Nat->ah->Prop
 | [],_,_=>True
 | x :: _,0,v=>v=x
 | _ :: l,i+1,v=>pvW l i v
def Z7 (vs:List ah) (i:Nat) (v:ah) (_:GH):Prop:=pvW vs i v
section
variable {N:Nat} {D:List Deferred} {w0:World} {F:Nat->Prop} {G0 G:GH} {L:OL} {T:List (Nat × ah)}
variable {P:Program} {l:List Oper} {r:Option Nat}
abbrev MR (N:Nat) (D:List Deferred) (w0:World) (F:Nat->Prop) (G0 G:GH) (L:OL) (T:List (Nat × ah)) (r:Option Nat) (P:Program) (l:List Oper) (pr:Nat->ah->GH->Prop) (i d:Nat) (o:Oper) (us:List (Nat × Nat × ah)):Prop :=
 ∀ S a w G1,(∀ k o,G k=some o->G1 k=some o)->St N D w0 F G0 G1 L T a w->St N D w0 F G0 G1 L (Dn us T++full N a) a w ->
   (∀ {a' w' G2 v},St N D w0 F G0 G2 L ((d,v) :: (Dn us T++full N a)) a' w'->(∀ k o,G1 k=some o->G2 k=some o)->pr i v G2->WL r P l.toArray (fun e a' w'=>e=.normal∧DX N D w0 F G0 G L T l pr (dL S i) a' w') [] a' w')->WL r P l.toArray (fun e a' w'=>e=.normal∧DX N D w0 F G0 G L T l pr (dL S i) a' w') [o] a w
abbrev xM (N:Nat) (D:List Deferred) (w0:World) (F:Nat->Prop) (G0 G:GH) (L:OL) (T:List (Nat × ah)) (r:Option Nat) (P:Program) (l:List Oper) (bT:List (List Nat)) (B:List Nat) (pr:Nat->ah->GH->Prop) (i:Nat) (o:Oper):Prop :=
 ∀ S a w G1,B.contains i=false->S i=false->(∀ j∈bT.getD i [],S j=true)->(∀ k o,G k=some o->G1 k=some o)->St N D w0 F G0 G1 L T a w->(∀ i d,S i=true->eX l i=some d->∃ v,a.tmps[d]?=some v∧pr i v G1) ->
   WL r P l.toArray (fun e a' w'=>e=.normal∧DX N D w0 F G0 G L T l pr (dL S i) a' w') [o] a w
variable {pr:Nat->ah->GH->Prop} {i d:Nat} {o:Oper} {bT:List (List Nat)} {B:List Nat}
theorem UR (h:(eX l i,Nat.blt i l.length)=(some d,true)) (k:MR N D w0 F G0 G L T r P l pr i d o [])
  (hok:qb l T i=true:=by kernel_rfl) (kU:∀ i v (G G':GH),(∀ k o,G k=some o->G' k=some o)->pr i v G->pr i v G':=by exact fun _ _ _ _ _ h=>h):xM N D w0 F G0 G L T r P l bT B pr i o:=by
 simp only [iX] at h
 exact eY [] M trivial hok kU h.1 h.2 k
theorem iO (j t:Nat) {x:ah} (h:(eX l i,Nat.blt i l.length,[(j,t,x)].all (fun x=>(bT.getD i []).contains x.1 && (eX l x.1 == some x.2.1)))=(some d,true,true)) (hu:pr j=fun v _=>v=x) (k:MR N D w0 F G0 G L T r P l pr i d o [(j,t,x)])
  (hok:qb l T i=true:=by kernel_rfl) (kU:∀ i v (G G':GH),(∀ k o,G k=some o->G' k=some o)->pr i v G->pr i v G':=by exact fun _ _ _ _ _ h=>h):xM N D w0 F G0 G L T r P l bT B pr i o:=by
 simp only [iX] at h
 exact eY _ h.2.2 ⟨fun v G h=>by rw [hu] at h;exact h,aC⟩ hok kU h.1 h.2.1 k
theorem eT (j t j' t':Nat) {x x':ah} (h:(eX l i,Nat.blt i l.length,[(j,t,x),(j',t',x')].all (fun x=>(bT.getD i []).contains x.1 && (eX l x.1 == some x.2.1)))=(some d,true,true)) (hu:(pr j,pr j')=(fun v _=>v=x,fun v _=>v=x')) (k:MR N D w0 F G0 G L T r P l pr i d o [(j,t,x),(j',t',x')])
  (hok:qb l T i=true:=by kernel_rfl) (kU:∀ i v (G G':GH),(∀ k o,G k=some o->G' k=some o)->pr i v G->pr i v G':=by exact fun _ _ _ _ _ h=>h):xM N D w0 F G0 G L T r P l bT B pr i o:=by
 simp only [iX] at h hu
 exact eY _ h.2.2 ⟨fun v G h=>by rw [hu.1] at h;exact h,fun v G h=>by rw [hu.2] at h;exact h,aC⟩ hok kU h.1 h.2.1 k
theorem zS (j t j' t' j2 t2:Nat) {x x' x2:ah} (h:(eX l i,Nat.blt i l.length,[(j,t,x),(j',t',x'),(j2,t2,x2)].all (fun x=>(bT.getD i []).contains x.1 && (eX l x.1 == some x.2.1)))=(some d,true,true)) (hu:(pr j,pr j',pr j2)=(fun v _=>v=x,fun v _=>v=x',fun v _=>v=x2)) (k:MR N D w0 F G0 G L T r P l pr i d o [(j,t,x),(j',t',x'),(j2,t2,x2)])
  (hok:qb l T i=true:=by kernel_rfl) (kU:∀ i v (G G':GH),(∀ k o,G k=some o->G' k=some o)->pr i v G->pr i v G':=by exact fun _ _ _ _ _ h=>h):xM N D w0 F G0 G L T r P l bT B pr i o:=by
 simp only [iX] at h hu
 exact eY _ h.2.2 ⟨fun v G h=>by rw [hu.1] at h;exact h,fun v G h=>by rw [hu.2.1] at h;exact h,fun v G h=>by rw [hu.2.2] at h;exact h,aC⟩ hok kU h.1 h.2.1 k
theorem aZ (j:Nat) {t:Nat} {op:Op} {ty:TypeId} {pos:String} {aL:Array Edge} {want b b':Bool} (he:b'=b) (h:(eX l i,Nat.blt i l.length,eX l j,(bT.getD i []).contains j,Nat.blt d N,b,b)=(some d,true,some t,true,true,!want,b)) (hv:pr j=fun v _=>v=.bool b')
  (hok:qb l T i=true:=by kernel_rfl) (kU:∀ i v (G G':GH),(∀ k o,G k=some o->G' k=some o)->pr i v G->pr i v G':=by exact fun _ _ _ _ _ h=>h) (hu:∀ G,pr i undef G:=by exact fun _=>rfl):xM N D w0 F G0 G L T r P l bT B pr i ⟨some d,op,ty,pos,aL,some (j,want)⟩:=by
 simp only [iX] at h
 exact aCN (b:=b) hok kU h.1 h.2.1 h.2.2.1 h.2.2.2.1 h.2.2.2.2.1 (fun v G g=>by rw [hv] at g;rw [<- he];exact g) h.2.2.2.2.2.1 hu
theorem bS {X:(Nat->Bool)->Act->World->GH->Prop} {b:Bool} (h:b=true):∀ S a w G1,b=false->X S a w G1:=fun _ _ _ _ hB=>by rw [h] at hB;cases hB
theorem aB {φ:Nat->Oper->Prop} {i:Nat} {o1 o2 o3 o4:Oper} {r:List Oper} (h1:φ i o1) (h2:φ (i+1) o2) (h3:φ (i+1+1) o3) (h4:φ (i+1+1+1) o4) (t:allI φ (i+1+1+1+1) r):allI φ i (o1 :: o2 :: o3 :: o4 :: r):=⟨h1,h2,h3,h4,t⟩
end
section
variable {N:Nat} {D:List Deferred} {w0:World} {F:Nat->Prop} {G0 G:GH} {L:List (Nat × Obj)} {T:List (Nat × ah)}
variable {r:Option Nat} {P:Program} {ops:Array Oper} {Q:Exit->Act->World->Prop} {rest:List Oper} {w:World}
variable {d:Nat} {ty:TypeId} {pos:String} {aL:Array Edge} {j t:Nat} {want b:Bool}
theorem YM {x:Operand} {v:ah} (hb:b=want) (h:((ops[j]?).bind (·.dst),lk T t,ev T x,Nat.blt d N)=(some t,some (.bool b),some v,true)) (k:∀ a',St N D w0 F G0 G L ((d,v) :: T) a' w->WL r P ops Q rest a' w) :
  ∀ a,St N D w0 F G0 G L T a w->WL r P ops Q (⟨some d,.move x,ty,pos,aL,some (j,want)⟩ :: rest) a w:=fun _ H=>by
 simp only [iX] at h
 exact Jy H (wg H h.1 h.2.1 hb) h.2.2.1 h.2.2.2 k
theorem YN {x:Operand} {y:TypeId} {v:Bool} (hb:b=want) (h:((ops[j]?).bind (·.dst),lk T t,ev T x,Nat.blt d N)=(some t,some (.bool b),some (.bool v),true)) (k:∀ a',St N D w0 F G0 G L ((d,.bool (!v)) :: T) a' w->WL r P ops Q rest a' w) :
  ∀ a,St N D w0 F G0 G L T a w->WL r P ops Q (⟨some d,.unOp .not y x,ty,pos,aL,some (j,want)⟩ :: rest) a w:=fun _ H=>by
 simp only [iX] at h
 exact akX H (wg H h.1 h.2.1 hb) h.2.2.1 h.2.2.2 k
theorem YC {op:BinOp} {x y:Operand} {u yt:TypeId} {kd:IntKind} {p q:Int} {c:Bool} (hb:b=want) (h:((ops[j]?).bind (·.dst),lk T t,ev T x,ev T y,Nn op p q,Nat.blt d N)=(some t,some (.bool b),some (.int kd p),some (.int kd q),some c,true)) (k:∀ a',St N D w0 F G0 G L ((d,.bool c) :: T) a' w->WL r P ops Q rest a' w) :
  ∀ a,St N D w0 F G0 G L T a w->WL r P ops Q (⟨some d,.binOp op u x y yt,ty,pos,aL,some (j,want)⟩ :: rest) a w:=fun _ H=>by
 simp only [iX] at h
 exact Jv H (wg H h.1 h.2.1 hb) h.2.2.1 h.2.2.2.1 h.2.2.2.2.1 h.2.2.2.2.2 k
theorem YF {s:TypeId} {x:Operand} {n e o off:Nat} (hs:dR P s n off) (hb:b=want) (h:((ops[j]?).bind (·.dst),lk T t,ev T x,Nat.blt d N)=(some t,some (.bool b),some (.pointer (some ⟨e,o,none⟩)),true)) (k:∀ a',St N D w0 F G0 G L ((d,.pointer (some ⟨e,o+off,none⟩)) :: T) a' w->WL r P ops Q rest a' w) :
  ∀ a,St N D w0 F G0 G L T a w->WL r P ops Q (⟨some d,.fieldAddr s x n,ty,pos,aL,some (j,want)⟩ :: rest) a w:=fun _ H=>by
 simp only [iX] at h
 exact Ms hs H (wg H h.1 h.2.1 hb) h.2.2.1 h.2.2.2 k
theorem YO {u:TypeId} {sz bytes:Nat} {zero:List ah} (ht:Ty P u sz bytes zero false) (i:Nat) {x:Operand} {e o:Nat} {v:ah} {c:Array ah} {y:TypeId} {fz:Nat × Nat} (hb:b=want) (h:((ops[j]?).bind (·.dst),lk T t,ev T x,L[i]?,Nat.blt d N,c[o]?)=(some t,some (.bool b),some (.pointer (some ⟨e,o,none⟩)),some (e,.cells c y fz),true,some v))
  (k:∀ a',St N D w0 F G0 G L ((d,v) :: T) a' w->WL r P ops Q rest a' w) :
  ∀ a,St N D w0 F G0 G L T a w->WL r P ops Q (⟨some d,.load u x,ty,pos,aL,some (j,want)⟩ :: rest) a w:=fun _ H=>by
 simp only [iX] at h
 exact sF ht H (wg H h.1 h.2.1 hb) h.2.2.1 (H.hp.uN i h.2.2.2.1 h.2.2.2.2.2) h.2.2.2.2.1 k
theorem YR {u:TypeId} {sz bytes:Nat} {zero:List ah} (ht:Ty P u sz bytes zero false) {x:Operand} {e o:Nat} {v:ah} (hb:b=want) (h:((ops[j]?).bind (·.dst),lk T t,ev T x,Nat.blt d N)=(some t,some (.bool b),some (.pointer (some ⟨e,o,none⟩)),true)) (hv:aI G e o=some v)
  (k:∀ a',St N D w0 F G0 G L ((d,v) :: T) a' w->WL r P ops Q rest a' w) :
  ∀ a,St N D w0 F G0 G L T a w->WL r P ops Q (⟨some d,.load u x,ty,pos,aL,some (j,want)⟩ :: rest) a w:=fun _ H=>by
 simp only [iX] at h
 exact sF ht H (wg H h.1 h.2.1 hb) h.2.2.1 (H.hp.aI hv) h.2.2.2 k
theorem Rg {u:TypeId} {sz bytes:Nat} {zero:List ah} (ht:Ty P u sz bytes zero false) {x:Operand} {e o:Nat} {v:ah} (h:(ev T x,Nat.blt d N)=(some (.pointer (some ⟨e,o,none⟩)),true)) (hv:aI G e o=some v)
  (k:∀ a',St N D w0 F G0 G L ((d,v) :: T) a' w->WL r P ops Q rest a' w) :
  ∀ a,St N D w0 F G0 G L T a w->WL r P ops Q (⟨some d,.load u x,ty,pos,aL,none⟩ :: rest) a w:=fun _ H=>by
 simp only [iX] at h
 exact sF ht H wn h.1 (H.hp.aI hv) h.2 k
theorem YL {x:Operand} {u e:TypeId} {A:Option Addr} {n c:Nat} (hs:P.underlying u=some (.slice e)) (hb:b=want) (h:((ops[j]?).bind (·.dst),lk T t,ev T x,Nat.blt d N)=(some t,some (.bool b),some (.slice A n c),true)) (k:∀ a',St N D w0 F G0 G L ((d,.int .i64 n) :: T) a' w->WL r P ops Q rest a' w) :
  ∀ a,St N D w0 F G0 G L T a w->WL r P ops Q (⟨some d,.call { callee:=.builtin .len,args:=#[x],argTypes:=#[u] },ty,pos,aL,some (j,want)⟩ :: rest) a w:=fun _ H=>by
 simp only [iX] at h
 exact akS hs H (wg H h.1 h.2.1 hb) h.2.2.1 h.2.2.2 k
theorem Ks {op:Op} (hb:b=!want) (h:((ops[j]?).bind (·.dst),lk T t,Nat.blt d N)=(some t,some (.bool b),true)) (k:∀ a',St N D w0 F G0 G L ((d,undef) :: T) a' w->WL r P ops Q rest a' w) :
  ∀ a,St N D w0 F G0 G L T a w->WL r P ops Q (⟨some d,op,ty,pos,aL,some (j,want)⟩ :: rest) a w:=fun _ H=>by
 simp only [iX] at h
 exact akY H h.1 h.2.1 hb h.2.2 k
theorem aU {d2:Nat} {o1 o2:Op} {ty2:TypeId} {pos2:String} {U3:Array Edge} (hb:b=!want) (h:((ops[j]?).bind (·.dst),lk T t,lk ((d,undef) :: T) t,Nat.blt d N,Nat.blt d2 N)=(some t,some (.bool b),some (.bool b),true,true)) (k:∀ a',St N D w0 F G0 G L ((d2,undef) :: (d,undef) :: T) a' w->WL r P ops Q rest a' w) :
  ∀ a,St N D w0 F G0 G L T a w->WL r P ops Q (⟨some d,o1,ty,pos,aL,some (j,want)⟩ :: ⟨some d2,o2,ty2,pos2,U3,some (j,want)⟩ :: rest) a w:=by
 simp only [iX] at h
 exact Ks hb (by rw [h.1,h.2.1,h.2.2.2.1]) (Ks hb (by rw [h.1,h.2.2.1,h.2.2.2.2]) k)
theorem bH {d2 d3:Nat} {o1 o2 o3:Op} {ty2 ty3:TypeId} {pos2 aAy:String} {U3 anp:Array Edge} (hb:b=!want) (h:((ops[j]?).bind (·.dst),lk T t,lk ((d,undef) :: T) t,lk ((d2,undef) :: (d,undef) :: T) t,Nat.blt d N,Nat.blt d2 N,Nat.blt d3 N)=(some t,some (.bool b),some (.bool b),some (.bool b),true,true,true)) (k:∀ a',St N D w0 F G0 G L ((d3,undef) :: (d2,undef) :: (d,undef) :: T) a' w->WL r P ops Q rest a' w) :
  ∀ a,St N D w0 F G0 G L T a w->WL r P ops Q (⟨some d,o1,ty,pos,aL,some (j,want)⟩ :: ⟨some d2,o2,ty2,pos2,U3,some (j,want)⟩ :: ⟨some d3,o3,ty3,aAy,anp,some (j,want)⟩ :: rest) a w:=by
 simp only [iX] at h
 exact Ks hb (by rw [h.1,h.2.1,h.2.2.2.2.1]) (aU hb (by rw [h.1,h.2.2.1,h.2.2.2.1,h.2.2.2.2.2.1,h.2.2.2.2.2.2]) k)
theorem Ku {op:Op} (h:((ops[j]?).bind (·.dst),lk T t,Nat.blt d N)=(some t,some undef,true)) (k:∀ a',St N D w0 F G0 G L ((d,undef) :: T) a' w->WL r P ops Q rest a' w) :
  ∀ a,St N D w0 F G0 G L T a w->WL r P ops Q (⟨some d,op,ty,pos,aL,some (j,want)⟩ :: rest) a w:=fun _ H=>by
 simp only [iX] at h
 exact aB2 H h.1 h.2.1 h.2.2 k
theorem Pt {c x y:Operand} {v:ah} (hb:b=true) (h:(ev T c,ev T x,Nat.blt d N)=(some (.bool b),some v,true)) (k:∀ a',St N D w0 F G0 G L ((d,v) :: T) a' w->WL r P ops Q rest a' w) :
  ∀ a,St N D w0 F G0 G L T a w->WL r P ops Q (⟨some d,.pick c x y,ty,pos,aL,none⟩ :: rest) a w:=fun _ H=>by
 simp only [iX] at h
 exact O4 H wn h.1 hb h.2.1 h.2.2 k
theorem Pf {c x y:Operand} {v:ah} (hb:b=false) (h:(ev T c,ev T y,Nat.blt d N)=(some (.bool b),some v,true)) (k:∀ a',St N D w0 F G0 G L ((d,v) :: T) a' w->WL r P ops Q rest a' w) :
  ∀ a,St N D w0 F G0 G L T a w->WL r P ops Q (⟨some d,.pick c x y,ty,pos,aL,none⟩ :: rest) a w:=fun _ H=>by
 simp only [iX] at h
 exact TP H wn h.1 hb h.2.1 h.2.2 k
theorem PT {c x y:Operand} {v:ah} {b':Bool} (hb:b=want) (hb':b'=true) (h:((ops[j]?).bind (·.dst),lk T t,ev T c,ev T x,Nat.blt d N)=(some t,some (.bool b),some (.bool b'),some v,true)) (k:∀ a',St N D w0 F G0 G L ((d,v) :: T) a' w->WL r P ops Q rest a' w) :
  ∀ a,St N D w0 F G0 G L T a w->WL r P ops Q (⟨some d,.pick c x y,ty,pos,aL,some (j,want)⟩ :: rest) a w:=fun _ H=>by
 simp only [iX] at h
 exact O4 H (wg H h.1 h.2.1 hb) h.2.2.1 hb' h.2.2.2.1 h.2.2.2.2 k
theorem PF {c x y:Operand} {v:ah} {b':Bool} (hb:b=want) (hb':b'=false) (h:((ops[j]?).bind (·.dst),lk T t,ev T c,ev T y,Nat.blt d N)=(some t,some (.bool b),some (.bool b'),some v,true)) (k:∀ a',St N D w0 F G0 G L ((d,v) :: T) a' w->WL r P ops Q rest a' w) :
  ∀ a,St N D w0 F G0 G L T a w->WL r P ops Q (⟨some d,.pick c x y,ty,pos,aL,some (j,want)⟩ :: rest) a w:=fun _ H=>by
 simp only [iX] at h
 exact TP H (wg H h.1 h.2.1 hb) h.2.2.1 hb' h.2.2.2.1 h.2.2.2.2 k
theorem Ri {s e:TypeId} {sz bytes:Nat} {zero:List ah} {agg:Bool} (hs:P.underlying s=some (.slice e)) (ht:Ty P e sz bytes zero agg) {x y:Operand} {q o n c:Nat} {kd:IntKind} {z:Int} {i:Nat}
  (h:(ev T x,ev T y,Nat.blt d N)=(some (.slice (some ⟨q,o,none⟩) n c),some (.int kd z),true)) (hz:z=(i:Int)) (k:∀ a',St N D w0 F G0 G L ((d,.pointer (some ⟨q,o+i*sz,none⟩)) :: T) a' w->WL r P ops Q rest a' w) (hn:i < n:=by first|assumption|omega) :
  ∀ a,St N D w0 F G0 G L T a w->WL r P ops Q (⟨some d,.indexAddr s x y,ty,pos,aL,none⟩ :: rest) a w:=fun _ H=>by
 simp only [iX] at h
 exact yG hs ht i H wn h.1 h.2.1 hz hn h.2.2 k
theorem YI {s e:TypeId} {sz bytes:Nat} {zero:List ah} {agg:Bool} (hs:P.underlying s=some (.slice e)) (ht:Ty P e sz bytes zero agg) {x y:Operand} {q o n c:Nat} {kd:IntKind} {z:Int} {i:Nat} (hb:b=want)
  (h:((ops[j]?).bind (·.dst),lk T t,ev T x,ev T y,Nat.blt d N)=(some t,some (.bool b),some (.slice (some ⟨q,o,none⟩) n c),some (.int kd z),true)) (hz:z=(i:Int)) (k:∀ a',St N D w0 F G0 G L ((d,.pointer (some ⟨q,o+i*sz,none⟩)) :: T) a' w->WL r P ops Q rest a' w) (hn:i < n:=by first|assumption|omega) :
  ∀ a,St N D w0 F G0 G L T a w->WL r P ops Q (⟨some d,.indexAddr s x y,ty,pos,aL,some (j,want)⟩ :: rest) a w:=fun _ H=>by
 simp only [iX] at h
 exact yG hs ht i H (wg H h.1 h.2.1 hb) h.2.2.1 h.2.2.2.1 hz hn h.2.2.2.2 k
theorem Rd {x y:Operand} {u yt:TypeId} {p q z:Int} (h:(ev T x,ev T y,p+q,Nat.blt d N)=(some (.int .i64 p),some (.int .i64 q),z,true)) (k:∀ a',St N D w0 F G0 G L ((d,.int .i64 z) :: T) a' w->WL r P ops Q rest a' w) (h1:-9223372036854775808<=z:=by omega) (h2:z < 9223372036854775808:=by omega) :
  ∀ a,St N D w0 F G0 G L T a w->WL r P ops Q (⟨some d,.binOp .add u x y yt,ty,pos,aL,none⟩ :: rest) a w:=fun _ H=>by
 simp only [iX] at h
 exact O1 z H wn h.1 h.2.1 h.2.2.1 h1 h2 h.2.2.2 k
theorem Rs {x y:Operand} {u yt:TypeId} {p q z:Int} (h:(ev T x,ev T y,p - q,Nat.blt d N)=(some (.int .i64 p),some (.int .i64 q),z,true)) (k:∀ a',St N D w0 F G0 G L ((d,.int .i64 z) :: T) a' w->WL r P ops Q rest a' w) (h1:-9223372036854775808<=z:=by omega) (h2:z < 9223372036854775808:=by omega) :
  ∀ a,St N D w0 F G0 G L T a w->WL r P ops Q (⟨some d,.binOp .sub u x y yt,ty,pos,aL,none⟩ :: rest) a w:=fun _ H=>by
 simp only [iX] at h
 exact Dj z H wn h.1 h.2.1 h.2.2.1 h1 h2 h.2.2.2 k
theorem Rv {x:Operand} {u:TypeId} {s:ByteArray} (hs:P.underlying u=some .string) (h:(ev T x,Nat.blt d N)=(some (.string s),true)) (k:∀ a',St N D w0 F G0 G L ((d,.int .i64 s.size) :: T) a' w->WL r P ops Q rest a' w) :
  ∀ a,St N D w0 F G0 G L T a w->WL r P ops Q (⟨some d,.call { callee:=.builtin .len,args:=#[x],argTypes:=#[u] },ty,pos,aL,none⟩ :: rest) a w:=fun _ H=>by
 simp only [iX] at h
 exact Gq hs H wn h.1 h.2 k
theorem Kz {X:Act->World->Prop} (hK:∀ a w,X a w->WL r P ops Q [] a w) (k:∀ a,St N D w0 F G0 G L T a w->X a w):∀ a,St N D w0 F G0 G L T a w->WL r P ops Q [] a w:=fun a H=>hK a w (k a H)
theorem Kn {X:Act->World->Prop} (hK:∀ a w,X a w->Q .normal a w) (k:∀ a,St N D w0 F G0 G L T a w->X a w):∀ a,St N D w0 F G0 G L T a w->WL r P ops Q [] a w:=fun a H=>aD (hK a w (k a H))
theorem aj {X:Act->World->Prop} {x:Operand} {v:ah} (hK:∀ a w,X a w->WL r P ops Q [] a w) (h:(ev T x,Nat.blt d N)=(some v,true)) (k:∀ a',St N D w0 F G0 G L ((d,v) :: T) a' w->X a' w):∀ a,St N D w0 F G0 G L T a w->WL r P ops Q [⟨some d,.assign x,ty,pos,aL,none⟩] a w:=Ra h (Kz hK k)
theorem bF {X:Act->World->Prop} {x:Operand} {v:ah} (hK:∀ a w,X a w->Q .normal a w) (h:(ev T x,Nat.blt d N)=(some v,true)) (k:∀ a',St N D w0 F G0 G L ((d,v) :: T) a' w->X a' w):∀ a,St N D w0 F G0 G L T a w->WL r P ops Q [⟨some d,.assign x,ty,pos,aL,none⟩] a w:=Ra h (Kn hK k)
theorem Kc {X:Act->World->Prop} (hK:∀ a w,X a w->Q .normal a w) (k:∀ a,St N D w0 F G0 G L T a w->X a w):∀ a,St N D w0 F G0 G L T a w->WP r P .skip Q a w:=fun a H=>iD (hK a w (k a H))
theorem SR {id:Nat} {l:List Oper} {y:Code} (h:∀ K:Act->World->Prop,(∀ a w,WP r P y Q a w->WL r P l.toArray (Exit.then K Q) [] a w)->∀ a,St N D w0 F G0 G L T a w->WL r P l.toArray (Exit.then K Q) l a w):∀ a,St N D w0 F G0 G L T a w->WP r P (.seq (.region id l.toArray false) y) Q a w:=fun a H=>cZ fun K hK=>h K hK a H
theorem SQ {x y:Code} (h:∀ K:Act->World->Prop,(∀ a w,WP r P y Q a w->K a w)->∀ a,St N D w0 F G0 G L T a w->WP r P x (Exit.then K Q) a w):∀ a,St N D w0 F G0 G L T a w->WP r P (.seq x y) Q a w:=fun a H=>bL fun K hK=>h K hK a H
theorem SC {id:Nat} {l:List Oper} (h:∀ a,St N D w0 F G0 G L T a w->WL r P l.toArray Q l a w):∀ a,St N D w0 F G0 G L T a w->WP r P (.region id l.toArray false) Q a w:=fun a H=>oQ (h a H)
theorem SB {id:Nat} {c:Code} (h:∀ a,St N D w0 F G0 G L T a w->WP r P c (Exit.inBlock id Q) a w):∀ a,St N D w0 F G0 G L T a w->WP r P (.block id c) Q a w:=fun a H=>AY (h a H)
theorem kP {a:Act} {c:Code} (H:St N D w0 F G0 G L T a w) (k:∀ a,St N D w0 F G0 G L T a w->WP r P c Q a w):WP r P c Q a w:=k a H
theorem lr {a:Act} {fn:Func} {v:ah} {R:Ending->World->Prop} (H:St N [] w0 F G0 G L T a w) (hr:fn.results=#[.tmp t]) (hQ:(lk T t,Q .ret a w)=(some v,bodyPostM (FW none) 0 P fn R .ret a w)) (hR:R (.returned v) w):WP none P .ret Q a w:=by
 simp only [iX] at hQ
 exact eP (by rw [hQ.2];exact lv H hr hQ.1 hR)
theorem dT {p:Prop} [Decidable p] (h:decide p=true):p:=rT h
theorem dF {p:Prop} [Decidable p] (h:decide p=false):¬p:=of_decide_eq_false h
end
section
variable {N:Nat} {D:List Deferred} {w0:World} {F:Nat->Prop} {G0 G:GH} {L:OL} {T:List (Nat × ah)}
variable {P:Program} {l:List Oper} {r:Option Nat} {pr:Nat->ah->GH->Prop} {i d:Nat} {o:Oper} {bT:List (List Nat)} {B:List Nat} {v:ah}
abbrev Ce (N:Nat) (D:List Deferred) (w0:World) (F:Nat->Prop) (G0 G:GH) (L:OL) (T:List (Nat × ah)) (r:Option Nat) (P:Program) (l:List Oper) (d:Nat) (v:ah) (o:Oper) (us:List (Nat × Nat × ah)):Prop :=
 ∀ {Q:Exit->Act->World->Prop} {a:Act} {w:World} {G1:GH} (_:∀ k o,G k=some o->G1 k=some o),(∀ a',St N D w0 F G0 G1 L ((d,v) :: (Dn us T++full N a)) a' w->WL r P l.toArray Q [] a' w)->∀ a',St N D w0 F G0 G1 L (Dn us T++full N a) a' w->WL r P l.toArray Q [o] a' w
abbrev P9 (N:Nat) (D:List Deferred) (w0:World) (F:Nat->Prop) (G0 G:GH) (L:OL) (T:List (Nat × ah)) (r:Option Nat) (P:Program) (l:List Oper) (d:Nat) (v:ah) (o:Oper) (us:List (Nat × Nat × ah)):Prop :=
 ∀ {Q:Exit->Act->World->Prop} {a:Act} {w:World} {G1:GH},(∀ a',St N D w0 F G0 G1 L ((d,v) :: (Dn us T++full N a)) a' w->WL r P l.toArray Q [] a' w)->∀ a',St N D w0 F G0 G1 L (Dn us T++full N a) a' w->WL r P l.toArray Q [o] a' w
theorem Ce.k {us:List (Nat × Nat × ah)} (hv:pr i=fun u _=>u=v) (k:Ce N D w0 F G0 G L T r P l d v o us):MR N D w0 F G0 G L T r P l pr i d o us :=
 fun _ a w G1 hG _ H fin=>k hG (fun _ H=>fin H (fun _ _ h=>h) (by rw [hv])) a H
theorem X0 (h:(eX l i,Nat.blt i l.length,pr i)=(some d,true,fun u _=>u=v)) (k:Ce N D w0 F G0 G L T r P l d v o [])
  (hok:qb l T i=true:=by kernel_rfl) (kU:∀ i v (G G':GH),(∀ k o,G k=some o->G' k=some o)->pr i v G->pr i v G':=by exact fun _ _ _ _ _ h=>h):xM N D w0 F G0 G L T r P l bT B pr i o:=by
 simp only [iX] at h
 exact UR (by rw [h.1,h.2.1]) (Ce.k h.2.2 k) hok kU
theorem X1 (j t:Nat) {x:ah} (h:(eX l i,Nat.blt i l.length,pr j,pr i,[(j,t,x)].all (fun x=>(bT.getD i []).contains x.1 && (eX l x.1 == some x.2.1)))=(some d,true,fun v _=>v=x,fun u _=>u=v,true)) (k:Ce N D w0 F G0 G L T r P l d v o [(j,t,x)])
  (hok:qb l T i=true:=by kernel_rfl) (kU:∀ i v (G G':GH),(∀ k o,G k=some o->G' k=some o)->pr i v G->pr i v G':=by exact fun _ _ _ _ _ h=>h):xM N D w0 F G0 G L T r P l bT B pr i o:=by
 simp only [iX] at h
 exact iO j t (by rw [h.1,h.2.1,h.2.2.2.2]) h.2.2.1 (Ce.k h.2.2.2.1 k) hok kU
theorem X2 (j t j' t':Nat) {x x':ah} (h:(eX l i,Nat.blt i l.length,pr j,pr j',pr i,[(j,t,x),(j',t',x')].all (fun x=>(bT.getD i []).contains x.1 && (eX l x.1 == some x.2.1)))=(some d,true,fun v _=>v=x,fun v _=>v=x',fun u _=>u=v,true)) (k:Ce N D w0 F G0 G L T r P l d v o [(j,t,x),(j',t',x')])
  (hok:qb l T i=true:=by kernel_rfl) (kU:∀ i v (G G':GH),(∀ k o,G k=some o->G' k=some o)->pr i v G->pr i v G':=by exact fun _ _ _ _ _ h=>h):xM N D w0 F G0 G L T r P l bT B pr i o:=by
 simp only [iX] at h
 exact eT j t j' t' (by rw [h.1,h.2.1,h.2.2.2.2.2]) (by rw [h.2.2.1,h.2.2.2.1]) (Ce.k h.2.2.2.2.1 k) hok kU
theorem X3 (j t j' t' j2 t2:Nat) {x x' x2:ah} (h:(eX l i,Nat.blt i l.length,pr j,pr j',pr j2,pr i,[(j,t,x),(j',t',x'),(j2,t2,x2)].all (fun x=>(bT.getD i []).contains x.1 && (eX l x.1 == some x.2.1)))=(some d,true,fun v _=>v=x,fun v _=>v=x',fun v _=>v=x2,fun u _=>u=v,true)) (k:Ce N D w0 F G0 G L T r P l d v o [(j,t,x),(j',t',x'),(j2,t2,x2)])
  (hok:qb l T i=true:=by kernel_rfl) (kU:∀ i v (G G':GH),(∀ k o,G k=some o->G' k=some o)->pr i v G->pr i v G':=by exact fun _ _ _ _ _ h=>h):xM N D w0 F G0 G L T r P l bT B pr i o:=by
 simp only [iX] at h
 exact zS j t j' t' j2 t2 (by rw [h.1,h.2.1,h.2.2.2.2.2.2]) (by rw [h.2.2.1,h.2.2.2.1,h.2.2.2.2.1]) (Ce.k h.2.2.2.2.2.1 k) hok kU
theorem Z0 (h:(eX l i,Nat.blt i l.length,pr i)=(some d,true,fun u _=>u=v)) (k:P9 N D w0 F G0 G L T r P l d v o [])
  (hok:qb l T i=true:=by kernel_rfl) (kU:∀ i v (G G':GH),(∀ k o,G k=some o->G' k=some o)->pr i v G->pr i v G':=by exact fun _ _ _ _ _ h=>h):xM N D w0 F G0 G L T r P l bT B pr i o:=X0 h (fun _=>k) hok kU
theorem Z1 (j t:Nat) {x:ah} (h:(eX l i,Nat.blt i l.length,pr j,pr i,[(j,t,x)].all (fun x=>(bT.getD i []).contains x.1 && (eX l x.1 == some x.2.1)))=(some d,true,fun v _=>v=x,fun u _=>u=v,true)) (k:P9 N D w0 F G0 G L T r P l d v o [(j,t,x)])
  (hok:qb l T i=true:=by kernel_rfl) (kU:∀ i v (G G':GH),(∀ k o,G k=some o->G' k=some o)->pr i v G->pr i v G':=by exact fun _ _ _ _ _ h=>h):xM N D w0 F G0 G L T r P l bT B pr i o:=X1 j t h (fun _=>k) hok kU
theorem Z2 (j t j' t':Nat) {x x':ah} (h:(eX l i,Nat.blt i l.length,pr j,pr j',pr i,[(j,t,x),(j',t',x')].all (fun x=>(bT.getD i []).contains x.1 && (eX l x.1 == some x.2.1)))=(some d,true,fun v _=>v=x,fun v _=>v=x',fun u _=>u=v,true)) (k:P9 N D w0 F G0 G L T r P l d v o [(j,t,x),(j',t',x')])
  (hok:qb l T i=true:=by kernel_rfl) (kU:∀ i v (G G':GH),(∀ k o,G k=some o->G' k=some o)->pr i v G->pr i v G':=by exact fun _ _ _ _ _ h=>h):xM N D w0 F G0 G L T r P l bT B pr i o:=X2 j t j' t' h (fun _=>k) hok kU
theorem Z3 (j t j' t' j2 t2:Nat) {x x' x2:ah} (h:(eX l i,Nat.blt i l.length,pr j,pr j',pr j2,pr i,[(j,t,x),(j',t',x'),(j2,t2,x2)].all (fun x=>(bT.getD i []).contains x.1 && (eX l x.1 == some x.2.1)))=(some d,true,fun v _=>v=x,fun v _=>v=x',fun v _=>v=x2,fun u _=>u=v,true)) (k:P9 N D w0 F G0 G L T r P l d v o [(j,t,x),(j',t',x'),(j2,t2,x2)])
  (hok:qb l T i=true:=by kernel_rfl) (kU:∀ i v (G G':GH),(∀ k o,G k=some o->G' k=some o)->pr i v G->pr i v G':=by exact fun _ _ _ _ _ h=>h):xM N D w0 F G0 G L T r P l bT B pr i o:=X3 j t j' t' j2 t2 h (fun _=>k) hok kU
theorem St.aM {a:Act} {w:World} {p:ah->Prop} (H:St N D w0 F G0 G L T a w) (h:∃ u,a.tmps[d]?=some u∧p u) (he:p=fun u=>u=v):St N D w0 F G0 G L ((d,v) :: T) a w:=by
 subst he
 obtain ⟨u,h1,h2⟩:=h
 exact H.gU (h2 ▸ h1)
theorem dI {a:Act} {w:World} {Q:Exit->Act->World->Prop} {id:Nat} (hm:P.follows .mixedOrders=true) (bT:List (List Nat)) (B:List Nat) (hk:(Ab l bT && yJ l bT B)=true) (vs:List ah) (H:St N D w0 F G0 G L T a w)
  (hstep:allI (fun i o=>xM N D w0 F G0 G L T r P l bT B (Z7 vs) i o) 0 l)
  (hend:∀ a w G1,(∀ k o,G k=some o->G1 k=some o)->St N D w0 F G0 G1 L T a w->(∀ i d,B.contains i=false->eX l i=some d->∃ v,a.tmps[d]?=some v∧Z7 vs i v G1)->WL r P l.toArray (fun e a w=>e=.normal∧Q .normal a w) (rH l B) a w):WP r P (.region id l.toArray true) Q a w:=by
 rw [iC] at hk
 exact yU hm bT B hk.1 hk.2 (Z7 vs) (fun _ _ _ _ _ h=>h) H hstep hend
variable {w:World} {ops:Array Oper} {Q:Exit->Act->World->Prop} {b:Bool} {t:Nat} {x:Operand} {c1 c2:Code}
theorem Cd (h:ev T x=some (.bool b)) (k1:b=true->∀ a,St N D w0 F G0 G L T a w->WP r P c1 Q a w) (k2:b=false->∀ a,St N D w0 F G0 G L T a w->WP r P c2 Q a w):∀ a,St N D w0 F G0 G L T a w->WP r P (.cond x c1 c2) Q a w:=fun a H=>jL H h (fun h=>k1 h a H) (fun h=>k2 h a H)
theorem Ct (h:ev T x=some (.bool b)) (hb:b=true) (k:∀ a,St N D w0 F G0 G L T a w->WP r P c1 Q a w):∀ a,St N D w0 F G0 G L T a w->WP r P (.cond x c1 c2) Q a w:=fun a H=>Cq H h hb (k a H)
theorem Cf (h:ev T x=some (.bool b)) (hb:b=false) (k:∀ a,St N D w0 F G0 G L T a w->WP r P c2 Q a w):∀ a,St N D w0 F G0 G L T a w->WP r P (.cond x c1 c2) Q a w:=fun a H=>sM H h hb (k a H)
theorem Sp {X:Act->Prop} (t:Nat) (h:lk T t=some (.bool b)) (k1:b=true->∀ a,St N D w0 F G0 G L T a w->X a) (k2:b=false->∀ a,St N D w0 F G0 G L T a w->X a):∀ a,St N D w0 F G0 G L T a w->X a:=fun a H=>aat H t h (fun h=>k1 h a H) (fun h=>k2 h a H)
theorem LR {fn:Func} {R:Ending->World->Prop} (hr:fn.results=#[.tmp t]) (hQ:(lk T t,Q .ret)=(some v,fun a w=>bodyPostM (FW none) 0 P fn R .ret a w)) (hR:∀ {a},St N [] w0 F G0 G L T a w->R (.returned v) w):∀ a,St N [] w0 F G0 G L T a w->WP none P .ret Q a w:=fun a H=>by
 simp only [iX] at hQ
 exact lr H hr (by rw [hQ.1,hQ.2]) (hR H)
end
def ra:Nat->Nat->List Nat
 | _,0=>[]
 | a,n+1=>a :: ra (a+1) n
theorem lca {α:Type} (a:α) (l m:List α):a :: l++m=a :: (l++m):=rfl
theorem bM {α:Type} (l:List α):[]++l=l:=rfl
theorem aJ {p:Prop} [Decidable p] (h:p):decide p=true:=mY h
theorem aY {p:Prop} [Decidable p] (h:¬p):decide p=false:=qE h
abbrev zR (pr:Nat->ah->GH->Prop):Prop:=∀ i v (G G':GH),(∀ k o,G k=some o->G' k=some o)->pr i v G->pr i v G'
abbrev P8 {α:Type} (pr:α->Nat->ah->GH->Prop):Prop:=∀ x i v (G G':GH),(∀ k o,G k=some o->G' k=some o)->pr x i v G->pr x i v G'
abbrev UQ {α β:Type} (pr:α->β->Nat->ah->GH->Prop):Prop:=∀ x y i v (G G':GH),(∀ k o,G k=some o->G' k=some o)->pr x y i v G->pr x y i v G'
theorem dQ {N:Nat} {D:List Deferred} {w0 w:World} {F:Nat->Prop} {G0:GH} {a:Act} {ι:Type} {Tc:List (Nat × ah)} {Lc:List (Nat × Obj)} {Tv:ι->List (Nat × ah)} {Lv:ι->List (Nat × Obj)} {Gv:ι->GH} {Pr:ι->Prop} {m:ι->Nat} {i:ι} (i':ι)
  (H:St N D w0 F G0 (Gv i') (Lc++Lv i') (Tv i'++Tc) a w) (hP:Pr i') (hm:m i' < m i:=by first|omega|(dsimp only;omega)) :
  ∃ i',(St N D w0 F G0 (Gv i') (Lc++Lv i') (Tv i'++Tc) a w∧Pr i')∧m i' < m i:=⟨i',⟨H,hP⟩,hm⟩
theorem aaw (x:ah):∀ (vs c:List ah) (o:Nat),setRow (x :: c) (o+1) vs=x :: setRow c o vs
 | [],_,_=>rfl
 | v :: vs,c,o=>by simp only [setRow,List.set_cons_succ];exact aaw x vs _ _
class JY (c:List ah) (o:Nat) (vs:List ah) (c':outParam (List ah)):Prop where
 h:setRow c o vs=c'
class Uv (a:Nat) (b:outParam Nat):Prop where
 h:a=b
instance {a:Nat}:Uv a a:=⟨M⟩
instance {c:List ah} {o:Nat}:JY c o [] c:=⟨M⟩
instance {x:ah} {c c' vs:List ah} {o o':Nat} [e:Uv o (o'+1)] [q:JY c o' vs c']:JY (x :: c) o vs (x :: c'):=⟨by rw [e.h,aaw,q.h]⟩
instance {x v:ah} {c c' vs:List ah} {o:Nat} [e:Uv o 0] [q:JY c 0 vs c']:JY (x :: c) o (v :: vs) (v :: c'):=⟨by rw [e.h];simp only [setRow,List.set_cons_zero];rw [aaw,q.h]⟩
class xP (L:List (Nat × Obj)) (i:Nat) (x:Nat × Obj) (L':outParam (List (Nat × Obj))):Prop where
 h:L.set i x=L'
instance {y x:Nat × Obj} {L:List (Nat × Obj)}:xP (y :: L) 0 x (x :: L):=⟨M⟩
instance {y x:Nat × Obj} {L L':List (Nat × Obj)} {i:Nat} [q:xP L i x L']:xP (y :: L) (i+1) x (y :: L'):=⟨by rw [List.set_cons_succ,q.h]⟩
instance {y x:Nat × Obj} {A B:List (Nat × Obj)}:xP ((y :: A).append B) 0 x (x :: A.append B):=⟨M⟩
instance {y x:Nat × Obj} {A B L':List (Nat × Obj)} {i:Nat} [q:xP (A.append B) i x L']:xP ((y :: A).append B) (i+1) x (y :: L'):=⟨by rw [<- q.h];rfl⟩
instance {x:Nat × Obj} {B L':List (Nat × Obj)} {i:Nat} [q:xP B i x L']:xP (List.append [] B) i x L':=⟨q.h⟩
instance {y x:Nat × Obj} {A B:List (Nat × Obj)}:xP ((y :: A)++B) 0 x (x :: (A++B)):=⟨M⟩
instance {y x:Nat × Obj} {A B L':List (Nat × Obj)} {i:Nat} [q:xP (A++B) i x L']:xP ((y :: A)++B) (i+1) x (y :: L'):=⟨by rw [<- q.h];rfl⟩
instance {x:Nat × Obj} {B L':List (Nat × Obj)} {i:Nat} [q:xP B i x L']:xP ([]++B) i x L':=⟨q.h⟩
theorem bU {c:Prop} {h:Decidable c} (hc:¬c:=by omega) {α:Sort _} {t e:α}:(if c then t else e)=e:=au hc
theorem jl {c:Prop} {h:Decidable c} (hc:c:=by omega) {α:Sort _} {t e:α}:(if c then t else e)=t:=ay hc
theorem aS {P:Program} {f:FuncId} {fn:Func} {c:Code} (hf:P.funcs[f]?=some fn) (hb:fn.body=some c) (hn:(fn.name == "runtime.NumGoroutine")=false:=by kernel_rfl):∀ (args:Array ah) (w:World),(callFunc f args).run P w=.ok (.enter f args) w:=enters hf hb hn
section
variable {N:Nat} {D:List Deferred} {w0:World} {F:Nat->Prop} {G0 G:GH} {L:List (Nat × Obj)} {T:List (Nat × ah)} {r:Option Nat} {P:Program} {ops:Array Oper} {Q:Exit->Act->World->Prop} {rest:List Oper} {a:Act} {w:World} {ty:TypeId} {pos:String} {aL:Array Edge} {g:Option (Nat × Bool)}
theorem bJ {t:TypeId} {sz bytes:Nat} {zero:List ah} {agg:Bool} (ht:Ty P t sz bytes zero agg) {x y:Operand} (i:Nat) {b o:Nat} {c:List ah} {e:TypeId} {v:ah} {vs:List ah} {c':List ah} {L':List (Nat × Obj)} (H:St N D w0 F G0 G L T a w) (hw:Region.wanted ⟨none,.store t x y,ty,pos,aL,g⟩ (yielded ops a.tmps)=true)
  (h:(ev T x,L[i]?,ev T y,v.cells,Nat.beq vs.length sz,vs.all oneCell',Nat.ble (o+vs.length) c.length)=(some (.pointer (some ⟨b,o,none⟩)),some (b,.cells c.toArray e (0,0)),some v,vs.toArray,true,true,true))
  [q1:JY c o vs c'] [q2:xP L i (b,.cells c'.toArray e (0,0)) L']
  (k:∀ w',St N D w0 F G0 G L' T a w'->WL r P ops Q rest a w'):WL r P ops Q (⟨none,.store t x y,ty,pos,aL,g⟩ :: rest) a w:=by
 simp only [iX] at h
 obtain ⟨hx,hi,hy,hvs,hl,h1,hle⟩:=h
 refine Mt ht i _ H hw hx hi hy hvs hl h1 hle q1.h (fun w' H=>k w' ?_)
 rw [q2.h] at H;exact H
end
section
variable {N:Nat} {D:List Deferred} {w0:World} {F:Nat->Prop} {G0 G G1:GH} {L:OL} {T Xs:List (Nat × ah)} {l:List Oper} {a a':Act} {w w':World}
theorem Ac {pr:Nat->ah->GH->Prop} {S:Nat->Bool} {i d:Nat} {v:ah} (HT:St N D w0 F G0 G1 L T a w) (Hb:St N D w0 F G0 G1 L (Xs++full N a) a w) (hG:∀ k o,G k=some o->G1 k=some o) (hv:∀ i d,S i=true->eX l i=some d->∃ v,a.tmps[d]?=some v∧pr i v G1)
  (kU:∀ i v (G G':GH),(∀ k o,G k=some o->G' k=some o)->pr i v G->pr i v G') (H:St N D w0 F G0 G1 L ((d,v) :: (Xs++full N a)) a' w') (hp:pr i v G1)
  (hok:qb l T i=true:=by kernel_rfl) (hi:eX l i=some d:=by exact rfl) (hdl:Nat.blt i l.length=true:=by exact rfl):DX N D w0 F G0 G L T l pr (dL S i) a' w' :=
 oV hok kU hi hdl HT Hb hG hv (fun _ _ h=>h) hp H
end
end
theorem mX:prog.underlying 3=some (.int .i64):=by kernel_rfl
theorem Pn:prog.underlying 5=some (.int .u8):=by kernel_rfl
theorem iW:prog.underlying 9=some .string:=by kernel_rfl
theorem asv:aR 268:=aS func268 M
theorem ase:aR 249:=aS func249 M
theorem arT:aR 225:=aS func225 M
theorem Nz:aR 193:=aS func193 M
def jJ (b:Int):Int × Int × Int :=
  (if b=224 then 160 else if b=240 then 144 else 128,if b=237 then 159 else if b=244 then 143 else 191,
   if b < 128 then 1 else if b < 194∨244 < b then 0 else if b < 224 then 2 else if b < 240 then 3 else 4)
theorem aaG (b:Int):0<=(jJ b).2.2∧(jJ b).2.2<=4:=by
 simp only [jJ];split
 ·omega
 split
 ·omega
 split
 ·omega
 split <;> omega
theorem U7 {p:Prop} (h:p:=by
 first|(exfalso;omega)|exact H.rt ⟨by simp only [jJ];repeat (first|rw [jl]|rw [bU]),M⟩):p:=h
theorem DJ {p:Prop} (h:p:=by
 intro a H;refine eP ?_;refine (kG H results268 (.cons (fB H M) (.cons (fB H M) (.cons (fB H M) .nil))) ?_).1
 exact U7):p:=h
theorem aoc {p:Prop} (h:p:=by
 refine eP ?_;refine (kG H results268 (.cons (fB H M) (.cons (fB H M) (.cons (fB H M) .nil))) ?_).1
 exact U7):p:=h
theorem sK {p:Prop} (h:p:=by
 intro a H;exact aoc):p:=h
theorem aDi (G:GH) (w0:World) (hG:Hold G w0) (b:Int) :
  Calls prog 268 #[.int .u8 b] w0 (bE w0 G fun v G'=>v=.tuple #[.int .u8 (jJ b).1,.int .u8 (jJ b).2.1,.int .i64 (jJ b).2.2]∧G=G'):=by
 refine eN [(0,_)] func268 M ntmps268 M M hG ?_;intro a H;refine kP H (SR fun _ K1=>Ra M (Ra M (aj K1 M (SR fun _ K2=>Ra M (aj K2 M (SQ fun _ K3=>SB (SR fun _ K4=>Rm M (Rc M (aj K4 M (Cd M ?_ ?_)))))))))) <;> clear H K1 K2 K4
 ·intro h5 a H
  try have p5:=dT h5
  refine kP H (SC (bF K3 M (SQ fun _ K5=>SR fun _ K6=>Rm M (Kz K6 (SB (SR fun _ K7=>Rc M (aj K7 M (Cd M ?_ ?_)))))))) <;> clear H K3 K6 K7
  ·intro h22 a H
   try have nk:=dT h22
   refine kP H (SC (bF K5 M (SR fun _ K8=>Rm M (Rm M (Rm M (Ra M (Ra M (aj K8 M ?_))))))));clear H K5 K8;exact sK
  intro h22 a H
  try have nk:=dF h22
  refine kP H (SR fun _ K9=>Rc M (aj K9 M (Cd M ?_ ?_))) <;> clear H K9
  ·intro fV a H
   try have pJ:=dT fV
   refine kP H (SC (bF K5 M (SR fun _ aT=>Rm M (Rm M (Rm M (Ra M (Ra M (aj aT M ?_))))))));clear H K5 aT;exact sK
  intro fV a H
  try have pJ:=dF fV
  refine kP H (SR fun _ bR=>Rc M (aj bR M (Cd M ?_ ?_))) <;> clear H bR
  ·intro ko a H
   try have p26:=dT ko
   refine kP H (SC (bF K5 M (SR fun _ cu=>Rm M (Rm M (Rm M (Ra M (Ra M (aj cu M ?_))))))));clear H K5 cu;exact sK
  intro ko a H
  try have p26:=dF ko
  refine kP H (SR fun _ dw=>Rc M (aj dw M (Cd M ?_ ?_))) <;> clear H dw
  ·intro gG a H
   try have p28:=dT gG
   refine kP H (SC (bF K5 M (SR fun _ dB=>Rm M (Rm M (Rm M (Ra M (Ra M (aj dB M ?_))))))));clear H K5 dB;exact sK
  intro gG a H
  try have p28:=dF gG
  refine kP H (Kc K5 (SR fun _ dX=>Rm M (Rm M (Rm M (Ra M (Ra M (aj dX M ?_)))))));clear H K5 dX;exact DJ
 intro h5 a H
 try have p5:=dF h5
 refine kP H (SR fun _ eu=>Rm M (Rc M (Rm M (Sp 11 M ?_ ?_)))) <;> clear H
 ·intro h11 a H
  try have rJ:=dT h11
  refine kH H (aU h11 M (Pt h11 M (aj eu M (Ct M M (SC (bF K3 M (SQ fun _ dN=>SR fun _ eO=>Rm M (Kz eO (SB (SR fun _ gD=>Rc M (aj gD M (Cd M ?_ ?_)))))))))))) <;> clear H eu K3 eO gD
  ·intro h22 a H
   try have nk:=dT h22
   refine kP H (SC (bF dN M (SR fun _ fF=>Rm M (Rm M (Rm M (Ra M (Ra M (aj fF M ?_))))))));clear H dN fF;exact sK
  intro h22 a H
  try have nk:=dF h22
  refine kP H (SR fun _ gK=>Rc M (aj gK M (Cd M ?_ ?_))) <;> clear H gK
  ·intro fV a H
   try have pJ:=dT fV
   refine kP H (SC (bF dN M (SR fun _ jg=>Rm M (Rm M (Rm M (Ra M (Ra M (aj jg M ?_))))))));clear H dN jg;exact sK
  intro fV a H
  try have pJ:=dF fV
  refine kP H (SR fun _ kX=>Rc M (aj kX M (Cd M ?_ ?_))) <;> clear H kX
  ·intro ko a H
   try have p26:=dT ko
   refine kP H (SC (bF dN M (SR fun _ kQ=>Rm M (Rm M (Rm M (Ra M (Ra M (aj kQ M ?_))))))));clear H dN kQ;exact sK
  intro ko a H
  try have p26:=dF ko
  refine kP H (SR fun _ jP=>Rc M (aj jP M (Cd M ?_ ?_))) <;> clear H jP
  ·intro gG a H
   try have p28:=dT gG
   refine kP H (SC (bF dN M (SR fun _ mE=>Rm M (Rm M (Rm M (Ra M (Ra M (aj mE M ?_))))))));clear H dN mE;exact sK
  intro gG a H
  try have p28:=dF gG
  refine kP H (Kc dN (SR fun _ mF=>Rm M (Rm M (Rm M (Ra M (Ra M (aj mF M ?_)))))));clear H dN mF;exact DJ
 intro h11 a H
 try have rJ:=dF h11
 refine kH H (YM h11 M (YC h11 M (Pf h11 M (aj eu M (Cd M ?_ ?_))))) <;> clear H eu
 ·intro h8 a H
  try have p8:=dT h8
  refine kP H (SC (bF K3 M (SQ fun _ jQ=>SR fun _ oM=>Rm M (Kz oM (SB (SR fun _ pQ=>Rc M (aj pQ M (Cd M ?_ ?_)))))))) <;> clear H K3 oM pQ
  ·intro h22 a H
   try have nk:=dT h22
   refine kP H (SC (bF jQ M (SR fun _ oN=>Rm M (Rm M (Rm M (Ra M (Ra M (aj oN M ?_))))))));clear H jQ oN;exact sK
  intro h22 a H
  try have nk:=dF h22
  refine kP H (SR fun _ qz=>Rc M (aj qz M (Cd M ?_ ?_))) <;> clear H qz
  ·intro fV a H
   try have pJ:=dT fV
   refine kP H (SC (bF jQ M (SR fun _ pW=>Rm M (Rm M (Rm M (Ra M (Ra M (aj pW M ?_))))))));clear H jQ pW;exact sK
  intro fV a H
  try have pJ:=dF fV
  refine kP H (SR fun _ qR=>Rc M (aj qR M (Cd M ?_ ?_))) <;> clear H qR
  ·intro ko a H
   try have p26:=dT ko
   refine kP H (SC (bF jQ M (SR fun _ vU=>Rm M (Rm M (Rm M (Ra M (Ra M (aj vU M ?_))))))));clear H jQ vU;exact sK
  intro ko a H
  try have p26:=dF ko
  refine kP H (SR fun _ tC=>Rc M (aj tC M (Cd M ?_ ?_))) <;> clear H tC
  ·intro gG a H
   try have p28:=dT gG
   refine kP H (SC (bF jQ M (SR fun _ xL=>Rm M (Rm M (Rm M (Ra M (Ra M (aj xL M ?_))))))));clear H jQ xL;exact sK
  intro gG a H
  try have p28:=dF gG
  refine kP H (Kc jQ (SR fun _ BX=>Rm M (Rm M (Rm M (Ra M (Ra M (aj BX M ?_)))))));clear H jQ BX;exact DJ
 intro h8 a H
 try have p8:=dF h8
 refine kP H (SR fun _ BZ=>Rm M (Rc M (aj BZ M (Cd M ?_ ?_)))) <;> clear H BZ
 ·intro jC a H
  try have sD:=dT jC
  refine kP H (SC (bF K3 M (SQ fun _ qU=>SR fun _ DC=>Rm M (Kz DC (SB (SR fun _ Ca=>Rc M (aj Ca M (Cd M ?_ ?_)))))))) <;> clear H K3 DC Ca
  ·intro h22 a H
   try have nk:=dT h22
   refine kP H (SC (bF qU M (SR fun _ GV=>Rm M (Rm M (Rm M (Ra M (Ra M (aj GV M ?_))))))));clear H qU GV;exact sK
  intro h22 a H
  try have nk:=dF h22
  refine kP H (SR fun _ EU=>Rc M (aj EU M (Cd M ?_ ?_))) <;> clear H EU
  ·intro fV a H
   try have pJ:=dT fV
   refine kP H (SC (bF qU M (SR fun _ GX=>Rm M (Rm M (Rm M (Ra M (Ra M (aj GX M ?_))))))));clear H qU GX;exact sK
  intro fV a H
  try have pJ:=dF fV
  refine kP H (SR fun _ EW=>Rc M (aj EW M (Cd M ?_ ?_))) <;> clear H EW
  ·intro ko a H
   try have p26:=dT ko
   refine kP H (SC (bF qU M (SR fun _ MN=>Rm M (Rm M (Rm M (Ra M (Ra M (aj MN M ?_))))))));clear H qU MN;exact sK
  intro ko a H
  try have p26:=dF ko
  refine kP H (SR fun _ PW=>Rc M (aj PW M (Cd M ?_ ?_))) <;> clear H PW
  ·intro gG a H
   try have p28:=dT gG
   refine kP H (SC (bF qU M (SR fun _ PX=>Rm M (Rm M (Rm M (Ra M (Ra M (aj PX M ?_))))))));clear H qU PX;exact sK
  intro gG a H
  try have p28:=dF gG
  refine kP H (Kc qU (SR fun _ K50=>Rm M (Rm M (Rm M (Ra M (Ra M (aj K50 M ?_)))))));clear H qU K50;exact DJ
 intro jC a H
 try have sD:=dF jC
 refine kP H (SR fun _ K51=>Rm M (Rc M (aj K51 M (Cd M ?_ ?_)))) <;> clear H K51
 ·intro h18 a H
  try have BH:=dT h18
  refine kP H (SC (bF K3 M (SQ fun _ Cb=>SR fun _ K53=>Rm M (Kz K53 (SB (SR fun _ K54=>Rc M (aj K54 M (Cd M ?_ ?_)))))))) <;> clear H K3 K53 K54
  ·intro h22 a H
   try have nk:=dT h22
   refine kP H (SC (bF Cb M (SR fun _ K55=>Rm M (Rm M (Rm M (Ra M (Ra M (aj K55 M ?_))))))));clear H Cb K55;exact sK
  intro h22 a H
  try have nk:=dF h22
  refine kP H (SR fun _ K56=>Rc M (aj K56 M (Cd M ?_ ?_))) <;> clear H K56
  ·intro fV a H
   try have pJ:=dT fV
   refine kP H (SC (bF Cb M (SR fun _ K57=>Rm M (Rm M (Rm M (Ra M (Ra M (aj K57 M ?_))))))));clear H Cb K57;exact sK
  intro fV a H
  try have pJ:=dF fV
  refine kP H (SR fun _ K58=>Rc M (aj K58 M (Cd M ?_ ?_))) <;> clear H K58
  ·intro ko a H
   try have p26:=dT ko
   refine kP H (SC (bF Cb M (SR fun _ K59=>Rm M (Rm M (Rm M (Ra M (Ra M (aj K59 M ?_))))))));clear H Cb K59;exact sK
  intro ko a H
  try have p26:=dF ko
  refine kP H (SR fun _ K60=>Rc M (aj K60 M (Cd M ?_ ?_))) <;> clear H K60
  ·intro gG a H
   try have p28:=dT gG
   refine kP H (SC (bF Cb M (SR fun _ K61=>Rm M (Rm M (Rm M (Ra M (Ra M (aj K61 M ?_))))))));clear H Cb K61;exact sK
  intro gG a H
  try have p28:=dF gG
  refine kP H (Kc Cb (SR fun _ K62=>Rm M (Rm M (Rm M (Ra M (Ra M (aj K62 M ?_)))))));clear H Cb K62;exact DJ
 intro h18 a H
 try have BH:=dF h18
 refine kP H (SC (bF K3 M (SQ fun _ Cc=>SR fun _ K64=>Rm M (Kz K64 (SB (SR fun _ K65=>Rc M (aj K65 M (Cd M ?_ ?_)))))))) <;> clear H K3 K64 K65
 ·intro h22 a H
  try have nk:=dT h22
  refine kP H (SC (bF Cc M (SR fun _ K66=>Rm M (Rm M (Rm M (Ra M (Ra M (aj K66 M ?_))))))));clear H Cc K66;exact DJ
 intro h22 a H
 try have nk:=dF h22
 refine kP H (SR fun _ K67=>Rc M (aj K67 M (Cd M ?_ ?_))) <;> clear H K67
 ·intro fV a H
  try have pJ:=dT fV
  refine kP H (SC (bF Cc M (SR fun _ K68=>Rm M (Rm M (Rm M (Ra M (Ra M (aj K68 M ?_))))))));clear H Cc K68;exact DJ
 intro fV a H
 try have pJ:=dF fV
 refine kP H (SR fun _ K69=>Rc M (aj K69 M (Cd M ?_ ?_))) <;> clear H K69
 ·intro ko a H
  try have p26:=dT ko
  refine kP H (SC (bF Cc M (SR fun _ K70=>Rm M (Rm M (Rm M (Ra M (Ra M (aj K70 M ?_))))))));clear H Cc K70;exact DJ
 intro ko a H
 try have p26:=dF ko
 refine kP H (SR fun _ K71=>Rc M (aj K71 M (Cd M ?_ ?_))) <;> clear H K71
 ·intro gG a H
  try have p28:=dT gG
  refine kP H (SC (bF Cc M (SR fun _ K72=>Rm M (Rm M (Rm M (Ra M (Ra M (aj K72 M ?_))))))));clear H Cc K72;exact DJ
 intro gG a H
 try have p28:=dF gG
 refine kP H (Kc Cc (SR fun _ K73=>Rm M (Rm M (Rm M (Ra M (Ra M (aj K73 M ?_)))))));clear H Cc K73;intro a H;refine eP ?_;refine (kG H results268 (.cons (fB H M) (.cons (fB H M) (.cons (fB H M) .nil))) ?_).1
 exact U7
def fC (s:ByteArray) (i:Nat):Int:=if h:i < s.size then (s[i].toNat:Int) else 0
theorem oF {s:ByteArray} {i:Nat} (h:i < s.size):fC s i=(s[i].toNat:Int):=by simp [fC,h]
def qF (s:ByteArray) (at_ n:Nat):(fuel k:Nat)->(low high p:Int)->Int × Nat × Bool
 | 0,k,_,_,p=>(p,k,true)
 | f+1,k,low,high,p =>
  if n<=k then (p,k,true)
  else if s.size<=at_+k∨fC s (at_+k) < low∨high < fC s (at_+k) then (0,k,false)
  else qF s at_ n f (k+1) 128 191 (tJ .or .i64 (IntKind.i64.wrap (p*2 ^ 6)) (tJ .and .i64 (fC s (at_+k)) 63))
def gM (s:ByteArray) (at_:Nat):Int × Nat × Bool :=
 let b:=fC s at_
 let t:=jJ b
 if t.2.2=0 then (0,0,false) else if t.2.2=1 then (b,1,true)
 else qF s at_ t.2.2.toNat 4 1 t.1 t.2.1 (tJ .and .i64 b ((127:Int).fdiv (2 ^ t.2.2.toNat)))
theorem aaN (n:UInt8):IntKind.i64.wrap (n.toNat:Int)=(n.toNat:Int):=I9 O (by have:=n.toNat_lt;omega)
theorem abK {p:Prop} (h:p:=by
 exact H.rt ⟨by rw [hfin];first|rw [jl]|rw [bU],M⟩):p:=h
theorem Vu {p:Prop} (h:p:=by
 intro a H;refine eP ?_
 have hfin:gM s i=(if n<=k then (p,k,true) else (0,k,false)):=by
  rw [hdec];have e:5 - k=(4 - k)+1:=by omega
  rw [e,qF]
  by_cases hk2:n<=k
  ·rw [ay hk2,ay hk2]
  rw [au hk2,au hk2,ay (by first|omega|(rw [oF O];omega))]
 refine (kG H results249 (.cons (fB H M) (.cons (fB H M) (.cons (fB H M) .nil))) ?_).1;exact abK):p:=h
set_option maxHeartbeats 1000000 in
theorem apV (G:GH) (w0:World) (hG:Hold G w0) (s:ByteArray) (i:Nat) (hi:i < s.size) (hs:s.size < 4611686018427387904) :
  Calls prog 249 #[.string s,.int .i64 i] w0 (bE w0 G fun v G'=>v=.tuple #[.int .i64 (gM s i).1,.int .i64 (gM s i).2.1,.bool (gM s i).2.2]∧G=G'):=by
 have hb:=oF hi;obtain ⟨n,hn⟩:∃ n:Nat,(jJ (fC s i)).2.2=(n:Int):=⟨(jJ (fC s i)).2.2.toNat,by have:=aaG (fC s i);omega⟩
 have hn4:n<=4:=by have:=aaG (fC s i);omega
 refine eN [(0,_),(1,_)] func249 M ntmps249 M M hG ?_;intro a H;refine kP H (SR fun _ K1=>Ra M (Ra M (aj K1 M (SR fun _ K2=>Rm M (Rm M ?_)))));clear H K1;intro a H;refine rO _ iW H wn M M M (by first|assumption|omega) rfl ?_;clear H;intro a H;refine kH H (Ra M ?_);clear H;intro a H;rw [<- hb] at H;refine K2 _ _ ?_;clear K2;refine kP H (SR fun _ K3=>Rm M ?_);clear H;intro a H;refine s_call asv H wn M (aDi _ _ H.ro _) M ?_;clear H;rintro v16 _ a w ⟨rfl,rfl⟩ - H;refine kH H (Rm M ?_);clear H;intro a H;(iterate 3 refine lJ H wn M M M ?_;clear H;intro a H);refine kH H (Ra M (Ra M (aj K3 M (SQ fun _ K4=>SR fun _ K5=>Rm M (Kz K5 (SB (SR fun _ K6=>Rc M (aj K6 M (Cd M ?_ ?_))))))))) <;> clear H K3 K5 K6
 ·intro h21 a H
  try have xG:=dT h21
  refine kP H (SR fun _ K7=>Ra M (Ra M (aj K7 M ?_)));clear H K7;intro a H;refine eP ?_;skip;refine (kG H results249 (.cons (fB H M) (.cons (fB H M) (.cons (fB H M) .nil))) ?_).1;exact H.rt ⟨by simp [gM,xG],M⟩
 intro h21 a H
 try have xG:=dF h21
 refine kP H (SR fun _ K8=>Rc M (aj K8 M (Cd M ?_ ?_))) <;> clear H K8
 ·intro h23 a H
  try have C9:=dT h23
  refine kP H (SR fun _ K9=>Rm M ?_);clear H;intro a H;refine Df (fC s i) mX Pn H wn M (by rw [hb];exact aaN _) M ?_;clear H;intro a H;refine kH H (Ra M (Ra M (aj K9 M ?_)));clear H K9;intro a H;refine eP ?_;skip;refine (kG H results249 (.cons (fB H M) (.cons (fB H M) (.cons (fB H M) .nil))) ?_).1;exact H.rt ⟨by simp [gM,xG,C9],M⟩
 intro h23 a H
 try have C9:=dF h23
 refine kP H (Kc K4 (SR fun _ aT=>Rm M ?_));clear H K4;intro a H;refine Df (fC s i) mX Pn H wn M (by rw [hb];exact aaN _) M ?_;clear H;intro a H;refine kH H (Rm M ?_);clear H;intro a H;refine TQ n H wn M M (by rw [hn]) (by show n<=64;omega) rfl ?_;clear H;intro a H;refine TK M H wn M M M ?_;clear H;intro a H;refine kH H (aj aT M (SQ fun _ bR=>SR fun _ cu=>aj cu M (SB ?_)));clear H aT cu;intro a H;skip;refine fD (ι:=Nat × Int × Int × Int) (Tc:=[(0,_),(1,_),(10,_)]) (Lc:=[]) (fun gh=>[(4,.int .i64 gh.2.2.2),(5,.int .i64 (gh.1:Int)),(8,.int .u8 gh.2.1),(9,.int .u8 gh.2.2.1)]) (fun gh=>[]) (fun gh=>G) (fun gh=>gh.1<=4∧gM s i=qF s i n (5 - gh.1) gh.1 gh.2.1 gh.2.2.1 gh.2.2.2) (fun gh=>5 - gh.1) ((1,_,_,_)) (by exact H.sub ⟨M,M,M,M,M,M,M,aC⟩) ?_ ?_
 ·refine ⟨O,?_⟩;simp only [gM,hn];rw [bU,bU];rfl
 clear H;rintro ⟨k,low,high,p⟩ a w hI H;dsimp only at hI H;obtain ⟨hk,hdec⟩:=hI;dsimp only [lca,bM] at H;refine kP H (SQ fun _ dw=>SR fun _ dB=>Rm M (Rm M (Rc M (Kz dB (Cd M ?_ ?_))))) <;> clear H dB
 ·intro gN a H
  try have p34:=dT gN
  refine kP H (Kc dw (SQ fun _ dX=>SB (SQ fun _ eu=>SR fun _ dN=>Rm M (Rm M (Rd M (Rm M (Rv iW M (Rc M (Rm M (Sp 43 M ?_ ?_)))))))))) <;> clear H dw
  ·intro h43 a H
   try have p43:=dT h43
   refine kH H (bH h43 M (aU h43 M (aU h43 M (Pt h43 M (Rm M (bH M M (aU M M (aU M M (Pt M M (Kz dN (Ct M M (SR fun _ eO=>Rm M (Ra M (Ra M (aj eO M ?_)))))))))))))));clear H dN eO;exact Vu
  intro h43 a H
  try have p43:=dF h43
  refine kH H (YM h43 M (YM h43 M (YM h43 M ?_)));clear H;intro a H;refine O1 _ H (wg H M M h43) M M M O O M ?_;clear H;intro a H;refine rO _ iW H (wg H M M h43) M M M (by first|assumption|omega) rfl ?_;clear H;intro a H;refine kH H (YM h43 M (YC h43 M (Pf h43 M (Rm M (Sp 52 M ?_ ?_))))) <;> clear H
  ·intro qK a H
   try have p52:=dT qK
   refine kH H (bH qK M (aU qK M (aU qK M (Pt qK M (Kz dN (Ct M M (SR fun _ gD=>Rm M (Ra M (Ra M (aj gD M ?_))))))))));clear H dN gD;exact Vu
  intro qK a H
  try have p52:=dF qK
  refine kH H (YM qK M (YM qK M (YM qK M ?_)));clear H;intro a H;refine O1 _ H (wg H M M qK) M M M O O M ?_;clear H;intro a H;refine rO _ iW H (wg H M M qK) M M M (by first|assumption|omega) rfl ?_;clear H;intro a H;refine kH H (YM qK M (YC qK M (Pf qK M (Kz dN (Cd M ?_ ?_))))) <;> clear H dN
  ·intro mP a H
   try have p60:=dT mP
   refine kP H (SR fun _ fF=>Rm M (Ra M (Ra M (aj fF M ?_))));clear H fF;exact Vu
  intro mP a H
  try have p60:=dF mP
  refine kP H (Kc eu (SR fun _ gK=>Rm M ?_));clear H eu;intro a H;refine aB1 _ H wn M M M Z M ?_;clear H;intro a H;refine kH H (Rm M (Rm M (Rm M (Rd M ?_))));clear H;intro a H;refine rO _ iW H wn M M M (by first|assumption|omega) rfl ?_;clear H;intro a H;refine Df (fC s (i+k)) mX Pn H wn M (by rw [oF O];exact aaN _) M ?_;clear H;intro a H;(iterate 2 refine TK M H wn M M M ?_;clear H;intro a H);refine kH H (aj gK M (SC (Ra M (bF dX M (SC (Rm M (Rd M (Ra M ?_))))))));clear H gK dX;intro a H;refine aD ?_;refine dQ ((k+1,128,191,tJ .or .i64 (IntKind.i64.wrap (p*2 ^ 6)) (tJ .and .i64 (fC s (i+k)) 63))) (by exact H.sub ⟨M,M,M,M,M,M,M,aC⟩) ?_
  (try dsimp only);refine ⟨O,?_⟩
  have e:5 - k=(5 - (k+1))+1:=by omega
  rw [hdec,e,qF,bU,oF O,bU]
 intro gN a H
 try have p34:=dF gN
 refine dY ?_;refine bR _ _ ?_;clear bR;refine kP H (SR fun _ jg=>Rm M (Rm M (Ra M (Ra M (aj jg M ?_)))));clear H jg;intro a H;refine eP ?_
 have hfin:gM s i=(if n<=k then (p,k,true) else (0,k,false)):=by
  rw [hdec];have e:5 - k=(4 - k)+1:=by omega
  rw [e,qF]
  by_cases hk2:n<=k
  ·rw [ay hk2,ay hk2]
  rw [au hk2,au hk2,ay (by first|omega|(rw [oF O];omega))]
 refine (kG H results249 (.cons (fB H M) (.cons (fB H M) (.cons (fB H M) .nil))) ?_).1;exact abK
theorem aff (s:ByteArray) (at_ n:Nat):∀ (f k:Nat) (low high p:Int),n<=k+f->k<=n->k<=(qF s at_ n f k low high p).2.1∧(qF s at_ n f k low high p).2.1<=n∧((qF s at_ n f k low high p).2.2=true->at_+k<=s.size->at_+(qF s at_ n f k low high p).2.1<=s.size)
 | 0,k,low,high,p,h1,h2=>by simp only [qF];omega
 | f+1,k,low,high,p,h1,h2=>by
  unfold qF
  split
  ·simp only [];omega
  split
  ·simp only [];omega
  have ih:=aff s at_ n f (k+1) 128 191 (tJ .or .i64 (IntKind.i64.wrap (p*2 ^ 6)) (tJ .and .i64 (fC s (at_+k)) 63)) O O;refine ⟨by have:=ih.1;omega,ih.2.1,fun h3 h4=>ih.2.2 h3 O⟩
theorem Nw (s:ByteArray) (i:Nat) (hi:i < s.size):(gM s i).2.1<=4∧((gM s i).2.2=true->1<=(gM s i).2.1∧i+(gM s i).2.1<=s.size):=by
 have ht:=aaG (fC s i)
 unfold gM
 simp only []
 split
 ·simp
 split
 ·simp;omega
 have:=aff s i (jJ (fC s i)).2.2.toNat 4 1 (jJ (fC s i)).1 (jJ (fC s i)).2.1 (tJ .and .i64 (fC s i) ((127:Int).fdiv (2 ^ (jJ (fC s i)).2.2.toNat))) O O;refine ⟨O,fun h=>⟨O,this.2.2 h O⟩⟩
def nL (s:ByteArray) (i:Nat):Int :=
 if h:i < s.size then (if h2:(gM s i).2.2=true then nL s (i+(gM s i).2.1) else i) else -1
 termination_by s.size - i
 decreasing_by have:=(Nw s i h).2 h2;omega
theorem atW (G:GH) (w0:World) (hG:Hold G w0) (s:ByteArray) (hs:s.size < 4611686018427387904) :
  Calls prog 225 #[.string s] w0 (bE w0 G fun v G'=>v=.int .i64 (nL s 0)∧G=G'):=by
 refine eN [(0,_)] func225 M ntmps225 M M hG ?_;intro a H;refine kP H (SR fun _ K1=>aj K1 M (SQ fun _ K2=>SR fun _ K3=>aj K3 M (SB ?_)));clear H K1 K3;intro a H;skip;refine fD (ι:=Nat) (Tc:=[(0,_)]) (Lc:=[]) (fun gh=>[(3,.int .i64 (gh:Int))]) (fun gh=>[]) (fun gh=>G) (fun gh=>gh<=s.size∧nL s 0=nL s gh) (fun gh=>s.size - gh) (0) (by exact H.sub ⟨M,M,aC⟩) ?_ ?_
 ·exact ⟨O,M⟩
 clear H;intro i a w hI H;obtain ⟨hk,hf⟩:=hI;dsimp only [lca,bM] at H;refine kP H (SQ fun _ K4=>SR fun _ K5=>Rm M (Rm M (Rv iW M (Rc M (Kz K5 (Cd M ?_ ?_)))))) <;> clear H K5
 ·intro h10 a H
  try have ni:=dT h10
  refine kP H (Kc K4 (SB (SR fun _ K6=>Rm M (Rm M ?_))));clear H K4;intro a H;refine s_call ase H wn M (apV _ _ H.ro s i O hs) M ?_;clear H;rintro v14 _ a w ⟨rfl,rfl⟩ - H;have hd:=Nw s i O;refine kH H (Rm M ?_);clear H;intro a H;(iterate 3 refine lJ H wn M M M ?_;clear H;intro a H);refine kH H (Ra M (Ra M (aj K6 M (SQ fun _ K7=>SR fun _ K8=>Rm M (Rn M (Kz K8 (Cd M ?_ ?_))))))) <;> clear H K6 K8
  ·intro h19 a H
   try have tX:=dT h19
   exact kP H (SR fun _ K9=>Rm M (aj K9 M (LR results225 M fun H=>H.rt ⟨by rw [hf,nL,dif_pos O,dif_neg (by simpa using h19)],M⟩)))
  intro h19 a H
  try have tX:=dF h19
  refine kP H (Kc K7 (SC (Rm M (Rm M (Rd M (Ra M ?_))))));clear H K7;intro a H;refine aD ?_;refine ZF ((i+(gM s i).2.1)) (by exact H.sub ⟨M,M,aC⟩) ?_ ?_
  ·have h1:(gM s i).2.2=true:=by simpa using h19
   have h2:=hd.2 h1;refine ⟨O,?_⟩;rw [hf,nL,dif_pos O,dif_pos h1]
  have h1:(gM s i).2.2=true:=by simpa using h19
  have h2:=hd.2 h1
  omega
 intro h10 a H
 try have ni:=dF h10
 refine dY ?_;refine K2 _ _ ?_;clear K2;exact kP H (SR fun _ aT=>aj aT M (LR results225 M fun H=>H.rt ⟨by rw [hf,nL,dif_neg O],M⟩))
def lX (s:ByteArray):Bool:=decide (nL s 0 < 0)
theorem Pw (G:GH) (w0:World) (hG:Hold G w0) (s:ByteArray) (hs:s.size < 4611686018427387904) :
  Calls prog 193 #[.string s] w0 (bE w0 G fun v G'=>v=.bool (lX s)∧G=G'):=by
 refine eN [(0,_)] func193 M ntmps193 M M hG ?_;intro a H;refine kP H (SR fun _ K1=>aj K1 M (SR fun _ K2=>Rm M ?_));clear H K1;intro a H;refine s_call arT H wn M (atW _ _ H.ro s hs) M ?_;clear H;rintro v4 _ a w ⟨rfl,rfl⟩ - H;exact kH H (Rc M (aj K2 M (LR results193 M fun H=>H.rt ⟨M,M⟩)))
def kE (s:ByteArray) (i:Nat):Nat :=
 if i < s.size then (if tJ .and .u8 (fC s i) 192=128 then 0 else 1)+kE s (i+1) else 0
 termination_by s.size - i
theorem aeO (s:ByteArray):∀ (n i:Nat),s.size - i=n->kE s i<=n
 | 0,i,h=>by rw [kE,bU];exact dS _
 | n+1,i,h=>by
  have ih:=aeO s n (i+1) O;rw [kE,jl]
  split <;> omega
def oU (s:ByteArray):Nat:=if lX s then kE s 0 else 0
def JF (s:ByteArray):Int:=if lX s then 0 else 12
theorem QL (s:ByteArray):oU s<=s.size:=by unfold oU;have:=aeO s s.size 0 O;split <;> omega
theorem aeV (G:GH) (w0:World) (hG:Hold G w0) (s:ByteArray) (hs:s.size < 4611686018427387904) :
  Calls prog 197 #[.string s] w0 (bE w0 G fun v G'=>v=.tuple #[vi (oU s),vi (JF s)]∧G=G'):=by
 refine eN [(0,_)] func197 M ntmps197 M M hG ?_;intro a H;refine kP H (SR fun _ K1=>Ra M (aj K1 M (SQ fun _ K2=>SR fun _ K3=>Rm M ?_)));clear H K1;intro a H;refine s_call Nz H wn M (Pw _ _ H.ro s hs) M ?_;clear H;rintro v6 _ a w ⟨rfl,rfl⟩ - H;refine kH H (Rn M (Kz K3 (Cd M ?_ ?_))) <;> clear H K3
 ·intro h7 a H
  refine kP H (SR fun _ K4=>Ra M (aj K4 M ?_));clear H K4;intro a H;refine eP ?_;refine (kG H results197 (.cons (fB H M) (.cons (fB H M) .nil)) ?_).1;exact H.rt ⟨by simp [oU,JF,show lX s=false by simpa using h7],M⟩
 intro h7 a H
 try have p7:=dF h7
 refine kP H (Kc K2 (SQ fun _ K5=>SR fun _ K6=>Rm M (Rv iW M (Rm M (Kz K6 (SB ?_))))));clear H K2 K6;intro a H;skip;refine fD (ι:=Nat × Nat) (Tc:=[(0,_),(9,_)]) (Lc:=[]) (fun gh=>[(2,vi gh.2),(10,vi gh.1)]) (fun gh=>[]) (fun gh=>G) (fun gh=>gh.1<=s.size∧gh.2<=gh.1∧gh.2+kE s gh.1=oU s) (fun gh=>s.size - gh.1) ((0,0)) (by exact H.sub ⟨M,M,M,M,aC⟩) ?_ ?_
 ·exact ⟨O,O,by simp [oU,show lX s=true by simpa using h7]⟩
 clear H;rintro ⟨i,n⟩ a w hI H;dsimp only at hI H;obtain ⟨hk,hn,hf⟩:=hI;dsimp only [lca,bM] at H;refine kP H (SR fun _ K7=>Rc M (Kz K7 (SQ fun _ K8=>Cd M ?_ ?_))) <;> clear H K7
 ·intro h11 a H
  try have rJ:=dT h11
  refine kP H (Kc K8 (SQ fun _ K9=>SB (SR fun _ aT=>Rm M (aj aT M (SR fun _ bR=>Rm M (Rm M ?_))))));clear H K8 aT;intro a H;refine rO _ iW H wn M M M (by first|assumption|omega) rfl ?_;clear H;intro a H;refine TK M H wn M M M ?_;clear H;intro a H;refine kH H (Rc M (Kz bR (Cd M ?_ ?_))) <;> clear H bR
  ·intro fH a H
   try have oI:=dT fH
   refine kP H (SC (Rm M (Rd M (bF K9 M (SC (Rd M (Rm M ?_)))))));clear H K9;intro a H;refine aD ?_;refine dQ ((i+1,n+1)) (by exact H.sub ⟨M,M,M,M,aC⟩) ?_
   (try dsimp only);rw [<- oF O] at oI;rw [kE,jl,au oI] at hf;exact ⟨O,O,O⟩
  intro fH a H
  try have oI:=dF fH
  refine kP H (Kc K9 (SC (Rd M (Rm M ?_))));clear H K9;intro a H;refine aD ?_;refine dQ ((i+1,n)) (by exact H.sub ⟨M,M,M,M,aC⟩) ?_
  (try dsimp only);rw [<- oF O,oD] at oI;rw [kE,jl,ay oI] at hf;exact ⟨O,O,O⟩
 intro h11 a H
 try have rJ:=dF h11
 refine dY ?_;refine K5 _ _ ?_;clear K5;refine kP H (SR fun _ cu=>Rm M (Ra M (aj cu M ?_)));clear H cu;intro a H;refine eP ?_;refine (kG H results197 (.cons (fB H M) (.cons (fB H M) .nil)) ?_).1;exact H.rt ⟨by rw [kE,bU,sJ] at hf;rw [hf];simp [JF,show lX s=true by simpa using h7],M⟩
section
def bY (e sz:Nat) (v:ah) (n:Nat) (xs:List ah) (Lo:OL):Prop :=
 xs.length=n*sz∧((v=.slice none 0 0∧n=0∧Lo=[])∨∃ b cap cur,v=.slice (some ⟨b,0,none⟩) n cap∧Lo=[(b,.cells cur e (0,0))]∧n<=cap∧cap<=maxLen∧cur.size=cap*sz∧cur.toList.take (n*sz)=xs)
theorem bY.nil {e sz:Nat}:bY e sz (.slice none 0 0) 0 [] []:=⟨by simp,.inl ⟨M,M,M⟩⟩
theorem bY.shape {e sz n:Nat} {v:ah} {xs:List ah} {Lo:OL} (h:bY e sz v n xs Lo):∃ A c,v=.slice A n c∧n<=c∧c<=maxLen:=by
 rcases h.2 with ⟨rfl,rfl,_⟩|⟨b,cap,cur,rfl,_,h1,h2,_,_⟩
 ·exact ⟨none,0,M,dS _,by simp [maxLen]⟩
 ·exact ⟨_,cap,M,h1,h2⟩
section
variable {N:Nat} {D:List Deferred} {w0:World} {F:Nat->Prop} {G0 G:GH} {L Li Lo:OL} {T:List (Nat × ah)}
variable {r:Option Nat} {P:Program} {ops:Array Oper} {Q:Exit->Act->World->Prop} {rest:List Oper} {a:Act} {w w':World}
variable {d:Nat} {ty:TypeId} {pos:String} {aL:Array Edge} {g:Option (Nat × Bool)}
theorem bY.owns {e sz n:Nat} {v:ah} {xs:List ah} (h:bY e sz v n xs Lo) (H:Hp w0 F G0 G (Li++Lo) w):w.ownsRow 0 e sz v n xs:=by
 refine ⟨h.1,?_⟩
 rcases h.2 with ⟨h1,h2,_⟩|⟨b,cap,cur,h1,h2,h3,h4,h5,h6⟩
 ·exact .inl ⟨h1,h2⟩
 ·exact .inr ⟨b,cap,cur,h1,kY _,H.own (b,.cells cur e (0,0)) (by simp [h2]),h3,h4,h5,h6⟩
theorem aeC {e sz n n':Nat} {v v':ah} {xs xs':List ah} (h:bY e sz v n xs Lo) (ho:gq G Lo w) (hown:w'.ownsRow 0 e sz v' n' xs') (hg:w.grownBy w' v.ownBlock) (hb:v'.ownBlock=v.ownBlock∨v'.ownBlock=some w.heap.size) :
  ∃ jr,bY e sz v' n' xs' jr∧Change w w' G G Lo jr:=by
 have hrow:∀ k,v.ownBlock=some k->∃ p∈Lo,p.1=k:=by
  intro k hk
  rcases h.2 with ⟨h1,_,_⟩|⟨b,cap,cur,h1,h2,_⟩
  ·rw [h1] at hk;cases hk
  ·rw [h1] at hk;simp only [Value.ownBlock,pX] at hk;exact ⟨_,by rw [h2];exact List.mem_singleton_self _,hk⟩
 have hro:∀ k o,G k=some o->w'.heap[k]?=some o:=by
  intro k o hk
  rw [hg.block k (lt_of_heap (ho.ro k o hk)) (fun e'=>by
   obtain ⟨p,hp,e2⟩:=hrow k e'.symm
   have:=ho.sep p hp
   rw [e2,hk] at this;cases this)]
  exact ho.ro k o hk
 have hfr:∀ k,k < w.heap.size->(∀ p∈Lo,p.1≠k)->w'.heap[k]?=w.heap[k]?:=fun k hk hn=>hg.block k hk fun e'=>by
  obtain ⟨p,hp,e2⟩:=hrow k e'.symm
  exact hn p hp e2
 rcases hown.2 with ⟨h1,h2⟩|⟨b,cap,cur,h1,_,h3,h4,h5,h6,h7⟩
 ·exact ⟨[],⟨hown.1,.inl ⟨h1,h2,M⟩⟩,⟨hg.os,hg.tape,hg.output,hg.size,hfr,fun _ _ h=>h,fun _ _ h=>.inl h,⟨hro,fun _ h=>(by cases h),fun _ h=>(by cases h),List.Pairwise.nil⟩,fun _ h=>(by cases h)⟩⟩
 ·refine ⟨[(b,.cells cur e (0,0))],⟨hown.1,.inr ⟨b,cap,cur,h1,M,h4,h5,h6,h7⟩⟩,⟨hg.os,hg.tape,hg.output,hg.size,hfr,fun _ _ h=>h,fun _ _ h=>.inl h,⟨hro,fun p hp=>?_,fun p hp=>?_,by simp⟩,fun p hp=>?_⟩⟩
  ·rw [qY.1 hp];exact h3
  ·rw [qY.1 hp]
   cases hgb:G b with
   | none=>rfl
   | some o =>
    exfalso
    rw [h1] at hb
    rcases hb with hb|hb
    ·obtain ⟨p',hp',e2⟩:=hrow b (by rw [<- hb];rfl)
     have:=ho.sep p' hp'
     rw [e2,hgb] at this;cases this
    ·simp only [Value.ownBlock,pX] at hb
     have:=lt_of_heap (ho.ro b o hgb)
     omega
  ·rw [qY.1 hp]
   rw [h1] at hb
   rcases hb with hb|hb
   ·obtain ⟨p',hp',e2⟩:=hrow b (by rw [<- hb];rfl)
    exact .inr ⟨p',hp',e2⟩
   ·simp only [Value.ownBlock,pX] at hb
    exact .inl (by simp only;omega)
theorem ny {t e:TypeId} {sz bytes:Nat} {zero:List ah} {agg:Bool} (hs:P.underlying t=some (.slice e)) (ht:Ty P e sz bytes zero agg) (hz:Nat.beq zero.length sz=true) (hsz:Nat.blt 0 sz=true) {x y:Operand} {v:ah} {n m c b2 o2:Nat} {xs news:List ah} (H:St N D w0 F G0 G (Li++Lo) T a w)
  (hw:Region.wanted ⟨some d,.call { callee:=.builtin .append,args:=#[x,y],argTypes:=#[t,t] },ty,pos,aL,g⟩ (yielded ops a.tmps)=true) (hx:ev T x=some v) (hy:ev T y=some (.slice (some ⟨b2,o2,none⟩) m c)) (hrow:bY e sz v n xs Lo)
  (hn:news.length=m*sz) (hc:∀ j u,news[j]?=some u->w.cell? ⟨b2,o2+j,none⟩=some u) (h1:news.all Value.oneCell'=true) (h63:n+m<=maxLen) (hb:(n+m)*bytes<=140737488355328) (hd:Nat.blt d N=true)
  (k:∀ v' jr a' w',bY e sz v' (n+m) (xs++news) jr->St N D w0 F G0 G (Li++jr) ((d,v') :: T) a' w'->WL r P ops Q rest a' w') :
  WL r P ops Q (⟨some d,.call { callee:=.builtin .append,args:=#[x,y],argTypes:=#[t,t] },ty,pos,aL,g⟩ :: rest) a w:=by
 obtain ⟨i,z,hi,hi1,hi2,hi3,hi4⟩:=ht.parts
 obtain ⟨v',w2,hrun,r1,r2,_,r4⟩:=run_append_own_at (P:=P) w 0 t ty e i z sz bytes hs hi hi3 hi1 hi2 (by rw [hi4];simpa using Ci hz) (Eq.mp Nat.blt_eq hsz) v n xs (hrow.owns H.hp) ⟨b2,o2,none⟩ m c news hn (fun j u hj=>by rw [add_lit];exact hc j u hj) (fun u hu=>jR.1 h1 u hu) h63 hb (kY _)
 obtain ⟨jr,hr,hch⟩:=aeC hrow H.hp.owns r1 r2 r4
 refine fI (v:=v') (w':=w2) hw M ?_ (k v' jr _ w2 hr (H.put hd v' (H.hp.change hch)))
 simp [execOp,resolve,invoke,builtin,H.ev hx,H.ev hy,dP,hrun]
theorem BK {t e:TypeId} {sz bytes:Nat} {zero:List ah} {agg:Bool} (hs:P.underlying t=some (.slice e)) (ht:Ty P e sz bytes zero agg) {x y:Operand} {A B:Option Addr} {n c c':Nat} (H:St N D w0 F G0 G L T a w)
  (hw:Region.wanted ⟨some d,.call { callee:=.builtin .append,args:=#[x,y],argTypes:=#[t,t] },ty,pos,aL,g⟩ (yielded ops a.tmps)=true) (hx:ev T x=some (.slice A n c)) (hy:ev T y=some (.slice B 0 c')) (hnc:n<=c) (hd:Nat.blt d N=true)
  (k:∀ a',St N D w0 F G0 G L ((d,.slice A n c) :: T) a' w->WL r P ops Q rest a' w) :
  WL r P ops Q (⟨some d,.call { callee:=.builtin .append,args:=#[x,y],argTypes:=#[t,t] },ty,pos,aL,g⟩ :: rest) a w:=by
 refine fI (v:=.slice A n c) (w':=w) hw M ?_ (k _ (H.put hd _ H.hp))
 have h1:∀ w,(Builtin.firstCells sz 0 (.slice B 0 c')).run P w=.ok #[] w:=by intro w;cases B <;> simp [Builtin.firstCells,loadCells,loadCellsFrom]
 have hle:n+0<=c:=by omega
 cases A <;> simp [execOp,resolve,invoke,builtin,H.ev hx,H.ev hy,dP,Builtin.append_,nu hs,ht.Am,Builtin.lenOf,hnc,h1,storeCells]
theorem Dg {t u:TypeId} {e:TypeId} (hs:P.underlying t=some (.slice e)) {x:Operand} {A:Option Addr} {n c:Nat} (H:St N D w0 F G0 G L T a w) (hw:Region.wanted ⟨some d,.binOp .eql t x (.const (.slice none 0 0)) u,ty,pos,aL,g⟩ (yielded ops a.tmps)=true) (hx:ev T x=some (.slice A n c)) (hd:Nat.blt d N=true)
  (k:∀ a',St N D w0 F G0 G L ((d,.bool A.isNone) :: T) a' w->WL r P ops Q rest a' w):WL r P ops Q (⟨some d,.binOp .eql t x (.const (.slice none 0 0)) u,ty,pos,aL,g⟩ :: rest) a w:=by
 refine fI (v:=.bool A.isNone) (w':=w) hw M ?_ (k _ (H.put hd _ H.hp))
 have h1:(Op.equal t (.slice A n c) (.slice none 0 0)).run P w=.ok A.isNone w:=by
  show (Op.equalIn (9999+1) t (.slice A n c) (.slice none 0 0)).run P w=_
  rw [Op.equalIn.eq_2,dP,nu hs]
  cases A <;> rfl
 have h2:(do eqGuard .eql t x (.const (.slice none 0 0)) (.slice A n c) (.slice none 0 0);binOp .eql t (.slice A n c) (.slice none 0 0):Sem ah).run P w=.ok (.bool A.isNone) w:=by
  have e:(do eqGuard .eql t x (.const (.slice none 0 0)) (.slice A n c) (.slice none 0 0);binOp .eql t (.slice A n c) (.slice none 0 0):Sem ah)=(do pure (.bool (<- Op.equal t (.slice A n c) (.slice none 0 0))):Sem ah):=rfl
  rw [e,dP,h1];rfl
 have e0:execOp a.eval ⟨some d,.binOp .eql t x (.const (.slice none 0 0)) u,ty,pos,aL,g⟩=(do pure (.value (<- (do eqGuard .eql t x (.const (.slice none 0 0)) (.slice A n c) (.slice none 0 0);binOp .eql t (.slice A n c) (.slice none 0 0):Sem ah))):Sem Next):=by
  simp only [execOp,H.ev hx];rfl
 rw [e0,dP,h2]
 rfl
theorem Dc {t e:TypeId} {sz bytes:Nat} {zero:List ah} {agg:Bool} (hs:P.underlying t=some (.slice e)) (ht:Ty P e sz bytes zero agg) (H:St N D w0 F G0 G L T a w) (hw:Region.wanted ⟨some d,.buildSlice t 0 #[],ty,pos,aL,g⟩ (yielded ops a.tmps)=true) (hd:Nat.blt d N=true)
  (k:∀ b a' w',w0.heap.size<=b->St N D w0 F G0 G ((b,.cells #[] e (0,0)) :: L) ((d,.slice (some ⟨b,0,none⟩) 0 0) :: T) a' w'->WL r P ops Q rest a' w'):WL r P ops Q (⟨some d,.buildSlice t 0 #[],ty,pos,aL,g⟩ :: rest) a w:=by
 refine fI (v:=.slice (some ⟨w.heap.size,0,none⟩) 0 0) (w':=w.alloc (.cells #[] e (0,0))) hw M ?_ (k _ _ _ H.hp.size (H.put hd _ (H.hp.alloc _)))
 have h0:¬ (0*sz > 2 ^ 24):=by simp
 simp [execOp,Instr.buildSlice,dP,nu hs,ht.Am,Instr.fill,newRow,newObj,Sem.run]
 congr 2
 apply Array.eq_empty_of_size_eq_zero
 simp
theorem bY.empty {e sz b:Nat}:bY e sz (.slice (some ⟨b,0,none⟩) 0 0) 0 [] [(b,.cells #[] e (0,0))] :=
 ⟨by simp,.inr ⟨b,0,#[],M,M,dS _,by simp [maxLen],by simp,by simp⟩⟩
theorem lI {x:Operand} {fv:ah} {xs:List Operand} {vs:List ah} {ts:Array TypeId} {R:ah->GH->Prop} (H:St N D w0 F G0 G L T a w) (hw:Region.wanted ⟨some d,.call { callee:=.value x,args:=xs.toArray,argTypes:=ts },ty,pos,aL,g⟩ (yielded ops a.tmps)=true)
  (hf:ev T x=some fv) (hx:evs T xs=some vs) (hc:uh P fv vs w (bE w G R)) (hd:Nat.blt d N=true)
  (k:∀ v G' a' w',R v G'->(∀ k o,G k=some o->G' k=some o)->St N D w0 F G0 G' L ((d,v) :: T) a' w'->WL r P ops Q rest a' w'):WL r P ops Q (⟨some d,.call { callee:=.value x,args:=xs.toArray,argTypes:=ts },ty,pos,aL,g⟩ :: rest) a w:=by
 refine aaX (nx:=_) (R:=bE w G R) hw M M ?_ ?_
 ·have h1:=H.evs hx
  have e:(execOp a.eval ⟨some d,.call { callee:=.value x,args:=xs.toArray,argTypes:=ts },ty,pos,aL,g⟩)=(do let d <- Deferred.ofValue fv vs.toArray;invoke d.target d.args:Sem Next):=by
   simp only [execOp,resolve,H.ev hf,List.map_toArray,h1]
  rw [e]
  exact hc.go
 ·rintro e w' ⟨v,G',rfl,hb,hx,hR⟩
  exact ⟨v,M,k v G' _ w' hR hx.1 (H.put hd v (H.hp.abJ hb hx))⟩
end
def dx (G:GH) (sz:Nat) (rows:List (List Dat)) (xs:List ah):Prop :=
 ∃ css:List (List ah),xs=css.flatten∧css.length=rows.length∧∀ (j:Nat) (r:List Dat) (cs:List ah),rows[j]?=some r->css[j]?=some cs->aX G r cs∧cs.length=sz
theorem dx.nil {G:GH} {sz:Nat}:dx G sz [] []:=⟨[],M,M,fun j r cs h=>by simp at h⟩
theorem dx.mono {G G':GH} (hm:∀ k o,G k=some o->G' k=some o) {sz:Nat} {rows:List (List Dat)} {xs:List ah} (h:dx G sz rows xs):dx G' sz rows xs:=by
 obtain ⟨css,h1,h2,h3⟩:=h
 exact ⟨css,h1,h2,fun j r cs hr hc=>⟨(h3 j r cs hr hc).1.mono hm,(h3 j r cs hr hc).2⟩⟩
theorem dx.snoc {G:GH} {sz:Nat} {rows:List (List Dat)} {xs:List ah} (h:dx G sz rows xs) {q:List Dat} {cs:List ah} (hr:aX G q cs) (hl:cs.length=sz):dx G sz (rows++[q]) (xs++cs):=by
 obtain ⟨css,h1,h2,h3⟩:=h
 refine ⟨css++[cs],by simp [h1],by simp [h2],fun j r c hj hc=>?_⟩
 by_cases hlt:j < rows.length
 ·rw [yO hlt] at hj
  rw [yO O] at hc
  exact h3 j r c hj hc
 ·have hje:j=rows.length:=by
   have:=(jZ.1 hj).1
   simp at this;omega
  subst hje
  rw [um (dS _),Nat.sub_self] at hj
  rw [um O,h2,Nat.sub_self] at hc
  simp only [Cj,pX] at hj hc
  subst hj;subst hc
  exact ⟨hr,hl⟩
theorem agG {sz:Nat}:∀ {css:List (List ah)} {j:Nat} {cs:List ah},(∀ (j:Nat) (cs:List ah),css[j]?=some cs->cs.length=sz)->css[j]?=some cs->∀ i,i < sz->css.flatten[j*sz+i]?=cs[i]?
 | [],_,_,_,h,_,_=>by simp at h
 | c :: css,0,cs,hl,h,i,hi=>by
  simp only [Cj,pX] at h
  subst h
  have:=hl 0 c M
  simp only [List.flatten_cons,Nat.zero_mul,gZ]
  rw [yO O]
 | c :: css,j+1,cs,hl,h,i,hi=>by
  have hc:=hl 0 c M
  have ih:=agG (css:=css) (j:=j) (cs:=cs) (fun j cs hj=>hl (j+1) cs (by simpa using hj)) (by simpa using h) i hi
  simp only [List.flatten_cons]
  rw [um (by rw [hc,Nat.succ_mul];omega),<- ih]
  congr 1
  rw [hc,Nat.succ_mul];omega
theorem oC.cat {G:GH} {sz b:Nat}:∀ {rows:List (List Dat)} {o:Nat},oC G sz b o rows->∃ xs:List ah,xs.length=rows.length*sz∧(∀ j u,xs[j]?=some u->aI G b (o+j)=some u)∧xs.all Value.oneCell'=true∧dx G sz rows xs
 | [],o,_=>⟨[],by simp,fun j u h=>by simp at h,M,dx.nil⟩
 | r :: rs,o,h=>by
  simp only [oC] at h
  obtain ⟨⟨cs,h1,h2,h3⟩,h4⟩:=h
  obtain ⟨xs,g1,g2,g3,css,g4,g5,g6⟩:=oC.cat h4
  refine ⟨cs++xs,by simp [h1,g1,Nat.succ_mul,Nat.add_comm],fun j u hj=>?_,by simp [h3.one,g3],cs :: css,by simp [g4],by simp [g5],fun j q c hj hc=>?_⟩
  ·by_cases hlt:j < cs.length
   ·rw [yO hlt] at hj;exact h2 j u hj
   ·rw [um O] at hj
    rw [<- g2 _ u hj];congr 1;omega
  ·cases j with
   | zero=>simp only [Cj,pX] at hj hc;subst hj;subst hc;exact ⟨h3,h1⟩
   | succ j=>exact g6 j q c (by simpa using hj) (by simpa using hc)
theorem av.cells {G:GH} {sz:Nat} {rows:List (List Dat)} {A:Option Addr} {n c:Nat} (h:av G (.sl sz rows) (.slice A n c)):n=rows.length∧n<=c∧c<=maxLen∧(A=none->rows=[]) ∧
  (rows≠[]->∃ b o xs,A=some ⟨b,o,none⟩∧xs.length=n*sz∧(∀ j u,xs[j]?=some u->aI G b (o+j)=some u)∧xs.all Value.oneCell'=true∧dx G sz rows xs):=by
 simp only [av] at h
 obtain ⟨A',c',h1,h2,h3,h4⟩:=h
 injection h1 with e1 e2 e3
 subst e1;subst e2;subst e3
 refine ⟨M,h2,h3,fun hn=>?_,fun hne=>?_⟩
 ·apply Classical.byContradiction
  intro hne
  obtain ⟨b,o,e,_⟩:=h4 hne
  rw [hn] at e;cases e
 ·obtain ⟨b,o,e,hr⟩:=h4 hne
  obtain ⟨xs,g1,g2,g3,g4⟩:=hr.cat
  exact ⟨b,o,xs,e,g1,g2,g3,g4⟩
theorem av.uM {G:GH} {sz:Nat} {A:Option Addr} {n c:Nat} (h:n=0) (hc:c<=maxLen):av G (.sl sz []) (.slice A n c):=by
 subst h
 simp only [av]
 exact ⟨A,c,M,kY _,hc,fun h=>absurd M h⟩
theorem av.wI {G:GH} {e sz n b cap:Nat} {cur:Array ah} {xs:List ah} {rows:List (List Dat)} (hb:G b=some (.cells cur e (0,0))) (hl:rows.length=n) (hc:n<=cap) (hm:cap<=maxLen) (ht:cur.toList.take (n*sz)=xs) (fu:dx G sz rows xs) :
  av G (.sl sz rows) (.slice (some ⟨b,0,none⟩) n cap):=by
 obtain ⟨css,h1,h2,h3⟩:=fu
 simp only [av]
 refine ⟨_,cap,by rw [hl],O,hm,fun _=>⟨b,0,M,oC.mk fun k q hk=>?_⟩⟩
 have hkl:k < css.length:=by rw [h2];exact (jZ.1 hk).1
 have hcs:css[k]?=some css[k]:=eB hkl
 obtain ⟨g1,g2⟩:=h3 k q _ hk hcs
 refine ⟨css[k],g2,fun j u hj=>?_,g1⟩
 have hjs:j < sz:=by rw [<- g2];exact (jZ.1 hj).1
 have hlen:∀ (j:Nat) (cs:List ah),css[j]?=some cs->cs.length=sz:=by
  intro j cs hj
  have hjl:j < rows.length:=by rw [<- h2];exact (jZ.1 hj).1
  exact (h3 j _ cs (eB hjl) hj).2
 have hf:=agG hlen hcs j hjs
 rw [<- h1,<- ht,hj] at hf
 unfold aI
 rw [hb]
 simp only
 have hlt:k*sz+j < n*sz:=by
  have:(k+1)*sz<=n*sz:=Nat.mul_le_mul_right _ O
  rw [Nat.succ_mul] at this;omega
 rw [uS,ay hlt] at hf
 simpa using hf
theorem St.qh {N:Nat} {D:List Deferred} {w0:World} {F:Nat->Prop} {G0 G:GH} {Li Lo:OL} {T:List (Nat × ah)} {a:Act} {w:World} {e sz n:Nat} {v:ah} {xs:List ah} {rows:List (List Dat)} (H:St N D w0 F G0 G (Li++Lo) T a w)
  (hrow:bY e sz v n xs Lo) (hl:rows.length=n) (fu:dx G sz rows xs):∃ G',(∀ k o,G k=some o->G' k=some o)∧av G' (.sl sz rows) v∧St N D w0 F G0 G' Li T a w:=by
 rcases hrow.2 with ⟨rfl,h2,rfl⟩|⟨b,cap,cur,rfl,rfl,h3,h4,h5,h6⟩
 ·refine ⟨G,fun _ _ h=>h,?_,by simpa using H⟩
  have:rows=[]:=List.eq_nil_of_length_eq_zero O
  subst this
  simp only [av]
  exact ⟨none,0,by simp,by simp,by simp [maxLen],fun h=>absurd M h⟩
 ·have hi:(Li++[(b,Obj.cells cur e (0,0))])[Li.length]?=some (b,.cells cur e (0,0)):=by simp
  have hn:=H.agY _ hi
  have hm:∀ k o,G k=some o->(G.add b (.cells cur e (0,0))) k=some o:=fun k o h=>GH.J4 G hn k o h
  refine ⟨_,hm,av.wI (GH.J5 G b _) hl h3 h4 h6 (fu.mono hm),?_⟩
  have:=H.giveUp _ hi
  rwa [List.eraseIdx_append_of_length_le (dS _),Nat.sub_self,List.eraseIdx_zero,List.tail_cons,fG] at this
theorem St.fU {N:Nat} {D:List Deferred} {w0:World} {F:Nat->Prop} {G0 G:GH} {L:OL} {T:List (Nat × ah)} {a:Act} {w:World} {b:Nat} {o:Obj} (H:St N D w0 F G0 G ((b,o) :: L) T a w) :
  ∃ G',(∀ k o,G k=some o->G' k=some o)∧G' b=some o∧St N D w0 F G0 G' L T a w :=
 ⟨G.add b o,GH.J4 G (H.agY 0 rfl),GH.J5 G b o,H.giveUp 0 rfl⟩
structure Now {α:Type} (xs:List AP) (P:α->AP) (J:Nat->GH->OL->Prop) (je j:Nat) (A:List α) (g:GH) (L:OL):Prop where
 now:J j g L
 rem:∀ i a,A[i]?=some a->xs[j+i]?=some (P a)
 len:j+A.length=je
theorem Now.head {α:Type} {xs:List AP} {P:α->AP} {J:Nat->GH->OL->Prop} {je j:Nat} {x:α} {A:List α} {g:GH} {L:OL} (h:Now xs P J je j (x :: A) g L):xs[j]?=some (P x):=h.rem 0 x M
theorem Now.step {α:Type} {xs:List AP} {P:α->AP} {J:Nat->GH->OL->Prop} {je j:Nat} {x:α} {A:List α} {g g':GH} {L L':OL} (h:Now xs P J je j (x :: A) g L) (hJ:J (j+1) g' L'):Now xs P J je (j+1) A g' L' :=
 ⟨hJ,fun i a hi=>by rw [show j+1+i=j+(i+1) by omega];exact h.rem (i+1) a (by simpa using hi),by have:=h.len;simp only [kR] at this;omega⟩
theorem Now.part {α:Type} {xs:List AP} {P:α->AP} {J:Nat->GH->OL->Prop} {je j:Nat} {A B:List α} {g:GH} {L:OL} (h:Now xs P J je j (A++B) g L):∀ i a,A[i]?=some a->xs[j+i]?=some (P a):=fun i a hi=>h.rem i a (by rw [yO (jZ.1 hi).1];exact hi)
theorem Now.jump {α:Type} {xs:List AP} {P:α->AP} {J:Nat->GH->OL->Prop} {je j:Nat} {A B:List α} {g g':GH} {L L':OL} (h:Now xs P J je j (A++B) g L) (hJ:J (j+A.length) g' L'):Now xs P J je (j+A.length) B g' L' :=
 ⟨hJ,fun i a hi=>by rw [Nat.add_assoc];exact h.rem (A.length+i) a (by rw [um (Nat.le_add_right _ _),Ho];exact hi),by have:=h.len;simp only [gF] at this;omega⟩
theorem Hp.lW {R:ah->GH->OL->Prop} {v:ah} {w0 w:World} {G0 G:GH} {L0 L L':OL} (h:Hp w0 (Fr w0 L0) G0 G L w) (hs:L'.Sublist L) (hR:R v G L'):fM w0 G0 L0 R (.returned v) w:=(h.drop hs).gQ hR
section
variable {N:Nat} {D:List Deferred} {w0:World} {F:Nat->Prop} {G0 G:GH} {L Li Lo:OL} {T:List (Nat × ah)}
variable {r:Option Nat} {P:Program} {ops:Array Oper} {Q:Exit->Act->World->Prop} {rest:List Oper} {a:Act} {w:World}
variable {d:Nat} {ty:TypeId} {pos:String} {aL:Array Edge} {g:Option (Nat × Bool)}
theorem aaq {t e:TypeId} {sz bytes:Nat} {zero:List ah} {agg:Bool} (hs:P.underlying t=some (.slice e)) (ht:Ty P e sz bytes zero agg) (hz:Nat.beq zero.length sz=true) (hsz:Nat.blt 0 sz=true) {x y:Operand} {v:ah} {n m c:Nat} {A:Option Addr} {xs:List ah} {rows:List (List Dat)} (H:St N D w0 F G0 G (Li++Lo) T a w)
  (hw:Region.wanted ⟨some d,.call { callee:=.builtin .append,args:=#[x,y],argTypes:=#[t,t] },ty,pos,aL,g⟩ (yielded ops a.tmps)=true) (hx:ev T x=some v) (hy:ev T y=some (.slice A m c)) (hrow:bY e sz v n xs Lo)
  (hrep:av G (.sl sz rows) (.slice A m c)) (h63:n+m<=maxLen) (hb:(n+m)*bytes<=140737488355328) (hd:Nat.blt d N=true)
  (k:∀ v' jr news a' w',bY e sz v' (n+m) (xs++news) jr->dx G sz rows news->St N D w0 F G0 G (Li++jr) ((d,v') :: T) a' w'->WL r P ops Q rest a' w') :
  WL r P ops Q (⟨some d,.call { callee:=.builtin .append,args:=#[x,y],argTypes:=#[t,t] },ty,pos,aL,g⟩ :: rest) a w:=by
 obtain ⟨hn,hc1,hc2,hnil,hxx⟩:=hrep.cells
 by_cases hr0:rows=[]
 ·have hm0:m=0:=by rw [hn,hr0];rfl
  subst hm0
  obtain ⟨A',c',rfl,h1,h2⟩:=hrow.shape
  refine BK hs ht H hw hx hy h1 hd fun a' H'=>?_
  exact k _ Lo [] a' w (by simpa using hrow) (by rw [hr0];exact dx.nil) H'
 ·obtain ⟨b,o,news,rfl,hxl,hxc,hx1,fu⟩:=hxx hr0
  exact ny hs ht hz hsz H hw hx hy hrow hxl (fun j u hj=>H.hp.aI (hxc j u hj)) hx1 h63 hb hd fun v' jr a' w' hr' H'=>k v' jr news a' w' hr' fu H'
theorem akZ {t e:TypeId} {sz bytes:Nat} {zero:List ah} {agg:Bool} (hs:P.underlying t=some (.slice e)) (ht:Ty P e sz bytes zero agg) {x y z:Operand} {A:Option Addr} {n c:Nat} (lo hi:Nat) {p q:Int} (H:St N D w0 F G0 G L T a w)
  (hw:Region.wanted ⟨some d,.slice t x (some y) (some z) none,ty,pos,aL,g⟩ (yielded ops a.tmps)=true) (hx:ev T x=some (.slice A n c)) (hy:ev T y=some (.int .i64 p)) (hz:ev T z=some (.int .i64 q)) (hp:p=(lo:Int)) (hq:q=(hi:Int)) (h1:lo<=hi) (h2:hi<=c) (hd:Nat.blt d N=true)
  (k:∀ a',St N D w0 F G0 G L ((d,.slice (if c=lo then A else A.map (·.add (lo*sz))) (hi - lo) (c - lo)) :: T) a' w->WL r P ops Q rest a' w):WL r P ops Q (⟨some d,.slice t x (some y) (some z) none,ty,pos,aL,g⟩ :: rest) a w:=by
 subst hp;subst hq
 refine fI (v:=.slice (if c=lo then A else A.map (·.add (lo*sz))) (hi - lo) (c - lo)) (w':=w) hw M ?_ (k _ (H.put hd _ H.hp))
 simp [execOp,H.ev hx,H.ev hy,H.ev hz,Instr.sliceAt,Instr.slice,Instr.sliceBounds,Instr.sliceBound,dP,nu hs,ht.Am,asIntOf,h1,h2]
end
theorem av.part {G:GH} {sz:Nat} {rows:List (List Dat)} {A:Option Addr} {n c:Nat} (h:av G (.sl sz rows) (.slice A n c)) (lo hi:Nat) (h1:lo<=hi) (h2:hi<=rows.length) :
  av G (.sl sz ((rows.drop lo).take (hi - lo))) (.slice (if c=lo then A else A.map (·.add (lo*sz))) (hi - lo) (c - lo)):=by
 obtain ⟨A',c',he,hc1,hc2,hg⟩:=h.slice
 injection he with e1 e2 e3
 subst e1;subst e3
 have hl:((rows.drop lo).take (hi - lo)).length=hi - lo:=by simp;omega
 simp only [av]
 refine ⟨_,_,by rw [hl],by rw [hl];omega,O,fun hn=>?_⟩
 have hlt:lo < hi:=by
  rcases Nat.lt_or_ge lo hi with h|h
  ·exact h
  ·exact absurd (List.eq_nil_of_length_eq_zero (by rw [hl];omega)) hn
 obtain ⟨b,o,cs,hA,-⟩:=hg lo rows[lo] (by simp)
 subst hA
 refine ⟨b,o+lo*sz,by rw [au O,uT,add_lit],oC.mk fun k r hk=>?_⟩
 rw [uS] at hk
 split at hk
 ·rw [List.getElem?_drop] at hk
  obtain ⟨b',o',cs,hA,g1,g2,g3⟩:=hg (lo+k) r hk
  obtain ⟨rfl,rfl⟩:b=b'∧o=o':=by simpa using hA
  exact ⟨cs,g1,fun j u hj=>by rw [<- g2 j u hj];congr 1;rw [Nat.add_mul];omega,g3⟩
 ·cases hk
theorem dx.append {G:GH} {sz:Nat} {r1 r2:List (List Dat)} {x1 x2:List ah} (h1:dx G sz r1 x1) (h2:dx G sz r2 x2):dx G sz (r1++r2) (x1++x2):=by
 obtain ⟨c1,rfl,e1,f1⟩:=h1
 obtain ⟨c2,rfl,e2,f2⟩:=h2
 refine ⟨c1++c2,by simp,by simp [e1,e2],fun j r cs hr hc=>?_⟩
 by_cases hj:j < r1.length
 ·exact f1 j r cs (by rwa [yO hj] at hr) (by rwa [yO O] at hc)
 ·exact f2 (j - r1.length) r cs (by rwa [um O] at hr) (by rwa [um O,e1] at hc)
end
section
section
variable {N:Nat} {D:List Deferred} {w0:World} {F:Nat->Prop} {G0 G G1 G2:GH} {L L1 L2:OL} {T Xs:List (Nat × ah)}
variable {r:Option Nat} {P:Program} {Q:Exit->Act->World->Prop} {l:List Oper} {a a':Act} {w w':World}
theorem wQ {x y:Nat} (h:x≠y):Nat.beq x y=false:=by
 cases h':Nat.beq x y with
 | false=>rfl
 | true=>exact absurd (Ci h') h
theorem wS {i e:Nat} (h:eX l i=some e):i < l.length:=by
 unfold eX at h
 by_cases hl:i < l.length
 ·exact hl
 ·rw [List.getElem?_eq_none O] at h;cases h
theorem TR:∀ (vs c:List ah) (o:Nat),o+vs.length<=c.length->setRow c o vs=c.take o++vs++c.drop (o+vs.length)
 | [],c,o,_=>by simp [setRow]
 | v :: vs,c,o,h=>by
  simp only [kR] at h
  rw [setRow,TR vs (c.set o v) (o+1) (by simp;omega),List.take_set,List.drop_set,ay O,jK O]
  have e:((c.take o++[c[o]]).set o v)=c.take o++[v]:=by
   have hl:(c.take o).length=o:=by simp;omega
   rw [List.set_append,au O,hl,Nat.sub_self];rfl
  rw [e,kR,show o+1+vs.length=o+(vs.length+1) by omega]
  simp
end
end
section
structure JZ (P:Program) (t:TypeId):Prop where
 h:(P.info? t).map (fun j=>j.size == 0)=some false
theorem JZ.parts {P:Program} {t:TypeId} (h:JZ P t):∃ j,P.info? t=some j∧j.size≠0:=by
 obtain ⟨j,h1,h2⟩:=oO.1 h.h
 exact ⟨j,h1,by simpa using h2⟩
structure U8 (P:Program) (e:TypeId):Prop where
 h:(P.info? e).map (fun i=>(i.zero,i.size,i.bytes))=some (some (.int .u8 0),1,1)
section
variable {N:Nat} {D:List Deferred} {w0:World} {F:Nat->Prop} {G0 G:GH} {L Li Lo:OL} {T:List (Nat × ah)}
variable {r:Option Nat} {P:Program} {ops:Array Oper} {Q:Exit->Act->World->Prop} {rest:List Oper} {a:Act} {w:World}
variable {d:Nat} {ty:TypeId} {pos:String} {aL:Array Edge} {g:Option (Nat × Bool)}
theorem Hp.shape (h:Hp w0 F G0 G L w) {i b:Nat} {c:Array ah} {e:TypeId} {fz:Nat × Nat} (hi:L[i]?=some (b,.cells c e fz)):w.shape? b=some (e,c.size):=by
 have:=h.own _ (lZ hi)
 simp only at this
 simp [World.shape?,this]
theorem ala {t u te e:TypeId} {x:Operand} {b o:Nat} {c:Array ah} {fz:Nat × Nat} (hs:P.underlying t=some (.pointer te)) (hu:P.underlying u=some .unsafePointer) (hj:JZ P te) (H:St N D w0 F G0 G L T a w) (hw:Region.wanted ⟨some d,.convert t u x,ty,pos,aL,g⟩ (yielded ops a.tmps)=true)
  (hx:ev T x=some (.pointer (some ⟨b,o,none⟩))) (i:Nat) (hi:L[i]?=some (b,.cells c e fz)) (ho:Nat.blt o c.size=true) (hd:Nat.blt d N=true)
  (k:∀ a',St N D w0 F G0 G L ((d,.pointer (some ⟨b,o,none⟩)) :: T) a' w->WL r P ops Q rest a' w):WL r P ops Q (⟨some d,.convert t u x,ty,pos,aL,g⟩ :: rest) a w:=by
 obtain ⟨j,h1,h2⟩:=hj.parts
 refine fI (v:=.pointer (some ⟨b,o,none⟩)) (w':=w) hw M ?_ (k _ (H.put hd _ H.hp))
 have h:=Lib.run_to_unsafe (P:=P) w ⟨b,o,none⟩ hs hu h1 h2 (H.hp.shape hi) (Eq.mp Nat.blt_eq ho)
 simp only [execOp,H.ev hx,dP,h,nY,rR]
theorem akR {t u te e:TypeId} {x:Operand} {b o:Nat} {c:Array ah} {fz:Nat × Nat} (hs:P.underlying t=some .unsafePointer) (hu:P.underlying u=some (.pointer te)) (hj:JZ P te) (H:St N D w0 F G0 G L T a w) (hw:Region.wanted ⟨some d,.convert t u x,ty,pos,aL,g⟩ (yielded ops a.tmps)=true)
  (hx:ev T x=some (.pointer (some ⟨b,o,none⟩))) (i:Nat) (hi:L[i]?=some (b,.cells c e fz)) (hl:liesAt P P.depth e (c.size / P.cellsOf e) o te 1=true) (hd:Nat.blt d N=true)
  (k:∀ a',St N D w0 F G0 G L ((d,.pointer (some ⟨b,o,none⟩)) :: T) a' w->WL r P ops Q rest a' w):WL r P ops Q (⟨some d,.convert t u x,ty,pos,aL,g⟩ :: rest) a w:=by
 obtain ⟨j,h1,h2⟩:=hj.parts
 refine fI (v:=.pointer (some ⟨b,o,none⟩)) (w':=w) hw M ?_ (k _ (H.put hd _ H.hp))
 have h:=Lib.run_from_unsafe (P:=P) w ⟨b,o,none⟩ hs hu h1 (H.hp.shape hi) hl
 simp only [execOp,H.ev hx,dP,h,nY,rR]
theorem akW {f:FuncId} {xs:List Operand} {v:ah} {ts:Array TypeId} (hcf:∀ (w:World),(callFunc f #[v]).run P w=.ok (.value v) w) (H:St N D w0 F G0 G L T a w) (hw:Region.wanted ⟨some d,.call { callee:=.value (.func f),args:=xs.toArray,argTypes:=ts },ty,pos,aL,g⟩ (yielded ops a.tmps)=true)
  (hx:evs T xs=some [v]) (hd:Nat.blt d N=true)
  (k:∀ a',St N D w0 F G0 G L ((d,v) :: T) a' w->WL r P ops Q rest a' w):WL r P ops Q (⟨some d,.call { callee:=.value (.func f),args:=xs.toArray,argTypes:=ts },ty,pos,aL,g⟩ :: rest) a w:=by
 refine fI (v:=v) (w':=w) hw M ?_ (k _ (H.put hd _ H.hp))
 have h1:=H.evs hx
 simp [execOp,resolve,Act.eval,Deferred.ofValue,invoke,dP,h1,hcf]
theorem aBF {f:FuncId} {fn:Func} (hf:P.funcs[f]?=some fn) (hname:(fn.name == "runtime.NumGoroutine")=false) (hb:fn.body.isNone=true) (hn:Extern.findNext fn=none) (he:Extern.find fn=some Extern.AbiNoEscape.same) (v:ah) (w:World):(callFunc f #[v]).run P w=.ok (.value v) w:=by
 rw [run_callFunc_extern hf hname hb hn he,Lib.run_noEscape]
 rfl
theorem TM {t u te:TypeId} (hs:P.underlying t=some (.pointer te)) {x:Operand} {p:Option Addr} (H:St N D w0 F G0 G L T a w) (hw:Region.wanted ⟨some d,.binOp .eql t x (.const (.pointer none)) u,ty,pos,aL,g⟩ (yielded ops a.tmps)=true) (hx:ev T x=some (.pointer p)) (hd:Nat.blt d N=true)
  (k:∀ a',St N D w0 F G0 G L ((d,.bool p.isNone) :: T) a' w->WL r P ops Q rest a' w):WL r P ops Q (⟨some d,.binOp .eql t x (.const (.pointer none)) u,ty,pos,aL,g⟩ :: rest) a w:=by
 refine fI (v:=.bool p.isNone) (w':=w) hw M ?_ (k _ (H.put hd _ H.hp))
 have h1:(Op.equal t (.pointer p) (.pointer none)).run P w=.ok p.isNone w:=by
  show (Op.equalIn (9999+1) t (.pointer p) (.pointer none)).run P w=_
  rw [Op.equalIn.eq_2,dP,nu hs]
  cases p <;> simp
 have h2:(do eqGuard .eql t x (.const (.pointer none)) (.pointer p) (.pointer none);binOp .eql t (.pointer p) (.pointer none):Sem ah).run P w=.ok (.bool p.isNone) w:=by
  have e:(do eqGuard .eql t x (.const (.pointer none)) (.pointer p) (.pointer none);binOp .eql t (.pointer p) (.pointer none):Sem ah)=(do pure (.bool (<- Op.equal t (.pointer p) (.pointer none))):Sem ah):=rfl
  rw [e,dP,h1];rfl
 have e0:execOp a.eval ⟨some d,.binOp .eql t x (.const (.pointer none)) u,ty,pos,aL,g⟩=(do pure (.value (<- (do eqGuard .eql t x (.const (.pointer none)) (.pointer p) (.pointer none);binOp .eql t (.pointer p) (.pointer none):Sem ah))):Sem Next):=by
  simp only [execOp,H.ev hx];rfl
 rw [e0,dP,h2]
 rfl
theorem akU {t u te:TypeId} (hs:P.underlying t=some (.pointer te)) (hj:JZ P te) {x y:Operand} {p:Addr} (H:St N D w0 F G0 G L T a w) (hw:Region.wanted ⟨some d,.binOp .neq t x y u,ty,pos,aL,g⟩ (yielded ops a.tmps)=true) (hx:ev T x=some (.pointer (some p))) (hy:ev T y=some (.pointer (some p))) (hd:Nat.blt d N=true)
  (k:∀ a',St N D w0 F G0 G L ((d,.bool false) :: T) a' w->WL r P ops Q rest a' w):WL r P ops Q (⟨some d,.binOp .neq t x y u,ty,pos,aL,g⟩ :: rest) a w:=by
 obtain ⟨j,h1,h2⟩:=hj.parts
 refine fI (v:=.bool false) (w':=w) hw M ?_ (k _ (H.put hd _ H.hp))
 have h:=Lib.run_neq_ptr_same (P:=P) (w:=w) p hs h1
 simp only [execOp,H.ev hx,H.ev hy]
 simp [dP,eqGuard,h]
theorem aBN {t u e:TypeId} (hs:P.underlying t=some (.slice e)) (hu:P.underlying u=some .string) (ht:U8 P e) {x y:Operand} {v:ah} {n:Nat} {xs:List ah} {s:ByteArray} (H:St N D w0 F G0 G (Li++Lo) T a w)
  (hw:Region.wanted ⟨some d,.call { callee:=.builtin .append,args:=#[x,y],argTypes:=#[t,u] },ty,pos,aL,g⟩ (yielded ops a.tmps)=true) (hx:ev T x=some v) (hy:ev T y=some (.string s)) (hrow:bY e 1 v n xs Lo)
  (h63:n+s.size<=140737488355328) (hd:Nat.blt d N=true)
  (k:∀ v' jr a' w',bY e 1 v' (n+s.size) (xs++Lib.strCells s) jr->St N D w0 F G0 G (Li++jr) ((d,v') :: T) a' w'->WL r P ops Q rest a' w') :
  WL r P ops Q (⟨some d,.call { callee:=.builtin .append,args:=#[x,y],argTypes:=#[t,u] },ty,pos,aL,g⟩ :: rest) a w:=by
 obtain ⟨i,hi,hz⟩:=oO.1 ht.h
 simp only [iX] at hz
 have hown:=hrow.owns H.hp
 obtain ⟨v',w2,hrun,r1,r2,r3⟩:=Lib.run_append_own_string (P:=P) (w:=w) 0 t u ty e i hs hu hi hz.1 hz.2.1 hz.2.2 v n xs hown s (by simp only [maxLen];omega) h63 (kY _)
 have hxl:xs.length=n:=by simpa using hrow.1
 have hb:v'.ownBlock=v.ownBlock∨v'.ownBlock=some w.heap.size:=by
  rcases hown.2 with ⟨hv,hn⟩|⟨g,cap,cur,hv,_,hg,hnc,hcm,hcs,_⟩
  ·subst hv
   by_cases hm:s.size=0
   ·left;rw [r3.2 ⟨M,hm⟩]
   ·right
    have hr:=run_append_nil_string (P:=P) w t u ty e i (.int .u8 0) hs hu hi hz.1 s O O (by rw [hz.2.2];omega)
    rw [hrun] at hr
    injection hr with h1 h2
    rw [h1];rfl
  ·subst hv
   by_cases hroom:n+s.size<=cap
   ·left
    have hcs':cur.size=cap:=by simpa using hcs
    have hr:=Lib.run_append_room_string (P:=P) (w:=w) t u ty e i hs hu hi hz.2.1 g n cap cur hg s hroom O
    rw [hrun] at hr
    injection hr with h1 h2
    rw [h1];rfl
   ·right
    have holds:∀ j u,xs[j]?=some u->w.cell? ((⟨g,0,none⟩:Addr).add j)=some u:=hown.cells (g:=g) M
    have hr:=Lib.run_append_grow_string (P:=P) (w:=w) t u ty e i (.int .u8 0) hs hu hi hz.1 ⟨g,0,none⟩ n cap xs (by rw [hz.2.1];simpa using hxl) holds s O O (by rw [hz.2.2];exact growslice_fits O O)
    rw [hrun] at hr
    injection hr with h1 h2
    rw [h1];rfl
 obtain ⟨jr,hr,hch⟩:=aeC hrow H.hp.owns r1 r2 hb
 refine fI (v:=v') (w':=w2) hw M ?_ (k v' jr _ w2 hr (H.put hd v' (H.hp.change hch)))
 simp [execOp,resolve,invoke,builtin,H.ev hx,H.ev hy,dP,hrun]
theorem aB4 {t:TypeId} {x:Operand} {p:Addr} {n c:Nat} (H:St N D w0 F G0 G L T a w) (hw:Region.wanted ⟨some d,.call { callee:=.builtin .unsafeSliceData,args:=#[x],argTypes:=#[t] },ty,pos,aL,g⟩ (yielded ops a.tmps)=true) (hx:ev T x=some (.slice (some p) n c)) (hc:c≠0) (hd:Nat.blt d N=true)
  (k:∀ a',St N D w0 F G0 G L ((d,.pointer (some p)) :: T) a' w->WL r P ops Q rest a' w):WL r P ops Q (⟨some d,.call { callee:=.builtin .unsafeSliceData,args:=#[x],argTypes:=#[t] },ty,pos,aL,g⟩ :: rest) a w:=by
 refine fI (v:=.pointer (some p)) (w':=w) hw M ?_ (k _ (H.put hd _ H.hp))
 have h:=Lib.run_unsafeSliceData_row (P:=P) (w:=w) #[t] ty p n c hc
 simp [execOp,resolve,invoke,builtin,H.ev hx,dP,h]
theorem aDB {w:World} {b n:Nat} {c:Array ah} {e:TypeId} {fz:Nat × Nat} (h:w.heap[b]?=some (.cells c e fz)) (hn:n≠0):∃ Im,vV b (.cells c e Im) w (w.freeze ⟨b,0,none⟩ n):=by
 unfold World.freeze
 rw [au hn]
 refine ⟨if fz.1 == fz.2 then (0,0+n) else (min fz.1 0,max fz.2 (0+n)),M,M,M,by simp,?_,fun k hk=>?_⟩
 ·simp [Array.getElem?_modify,h]
 ·simp [Array.getElem?_modify,Ne.symm hk]
theorem alb {pt it e:TypeId} {x y:Operand} {b i:Nat} {cur:Array ah} {fz:Nat × Nat} (l:List UInt8) (hp:P.underlying pt=some (.pointer e)) (hc:P.cellsOf e=1) (h0:l≠[]) (h63:l.length<=9223372036854775807) (H:St N D w0 F G0 G L T a w)
  (hw:Region.wanted ⟨some d,.call { callee:=.builtin .unsafeString,args:=#[x,y],argTypes:=#[pt,it] },ty,pos,aL,g⟩ (yielded ops a.tmps)=true) (hx:ev T x=some (.pointer (some ⟨b,0,none⟩))) (hy:ev T y=some (.int .i64 (l.length:Int)))
  (hi:L[i]?=some (b,.cells cur e fz)) (hl:cur.toList.take l.length=Lib.byteCells l) (hd:Nat.blt d N=true)
  (k:∀ Im a' w',St N D w0 F G0 G (L.set i (b,.cells cur e Im)) ((d,.string ⟨l.toArray⟩) :: T) a' w'->WL r P ops Q rest a' w'):WL r P ops Q (⟨some d,.call { callee:=.builtin .unsafeString,args:=#[x,y],argTypes:=#[pt,it] },ty,pos,aL,g⟩ :: rest) a w:=by
 have hb:=H.hp.own _ (lZ hi)
 simp only at hb
 have hlen:l.length<=cur.size:=by
  have:=cO List.length hl
  simp only [List.length_take,Lib.byteCells_length,pY] at this
  omega
 obtain ⟨Im,hu⟩:=aDB (n:=l.length) hb (by simpa using h0)
 have h:=Lib.run_unsafeString_row (P:=P) w pt it ty e hp hc b cur.size (H.hp.shape hi) l h0 hlen h63 (fun j x hj=>by
  rw [add_lit,gZ]
  simp only [World.cell?,hb]
  have h2:(cur.toList.take l.length)[j]?=some (.int .u8 x.toNat):=by rw [hl];simp [Lib.byteCells,hj]
  rw [uS] at h2
  split at h2
  ·simpa using h2
  ·cases h2)
 refine fI (v:=.string ⟨l.toArray⟩) (w':=w.freeze ⟨b,0,none⟩ l.length) hw M ?_ (k Im _ _ (H.put hd _ (H.hp.upd hi hu)))
 simp [execOp,resolve,invoke,builtin,H.ev hx,H.ev hy,dP,h]
theorem agy (sz n:Nat):∀ (css:List (List ah)) (k:Nat) (pre z:List ah),pre.length=k*sz->z.length=css.length*sz->(∀ c∈css,c.length=sz)->k+css.length=n ->
  Cv ((List.range n).map fun i=>(i*sz,sz)) (pre++z) ((css.zipIdx k).map fun p=>(p.2,p.1))=some (pre++css.flatten)
 | [],k,pre,z,_,hz,_,_=>by
  have:z=[]:=List.eq_nil_of_length_eq_zero (by simpa using hz)
  subst this
  simp [Cv]
 | c :: css,k,pre,z,hp,hz,hc,hn=>by
  have hcl:=hc c dV
  simp only [kR] at hz hn
  have hpl:((List.range n).map fun i=>(i*sz,sz))[k]?=some (k*sz,sz):=by
   rw [qD,List.getElem?_range O];rfl
  have hz1:z.length=sz+css.length*sz:=by rw [hz,Nat.add_mul,Nat.one_mul,Nat.add_comm]
  have hle:k*sz+c.length<=(pre++z).length:=by rw [gF,hp,hcl];omega
  have e1:Nat.beq c.length sz=true:=by rw [hcl];exact Nat.beq_refl sz
  have e2:Nat.ble (k*sz+c.length) (pre++z).length=true:=Eq.mpr Nat.ble_eq hle
  rw [List.zipIdx_cons,dO]
  simp only [Cv,hpl,e1,e2,Bool.and_self,cond_true]
  have e3:setRow (pre++z) (k*sz) c=(pre++c)++z.drop sz:=by
   rw [TR _ _ _ hle,<- hp,List.take_left' M,List.drop_append,rU O,jA,hcl]
   congr 2;omega
  rw [e3,agy sz n css (k+1) (pre++c) (z.drop sz) (by rw [gF,hp,hcl,Nat.succ_mul]) (by rw [List.length_drop];omega) (fun q hq=>hc q (gI _ hq)) O]
  simp
theorem aBQ {t e:TypeId} {sz bytes:Nat} {zero:List ah} {agg:Bool} (hs:P.underlying t=some (.slice e)) (ht:Ty P e sz bytes zero agg) {n:Nat} {xs:List (Nat × Operand)} {vs:List (Nat × ah)} (css:List (List ah)) (H:St N D w0 F G0 G L T a w) (hw:Region.wanted ⟨some d,.buildSlice t n xs.toArray,ty,pos,aL,g⟩ (yielded ops a.tmps)=true)
  (hx:pts T xs=some vs) (hv:vs.map (fun x=>(x.1,x.2.cells.toList))=(css.zipIdx 0).map fun p=>(p.2,p.1)) (hl:css.all (fun c=>Nat.beq c.length sz)=true) (hcn:Nat.beq css.length n=true) (hn:Nat.ble (n*sz) 1000=true) (hn0:Nat.beq (n*sz) 0=false) (hd:Nat.blt d N=true)
  (k:∀ b a' w',w0.heap.size<=b->St N D w0 F G0 G ((b,.cells css.flatten.toArray e (0,0)) :: L) ((d,.slice (some ⟨b,0,none⟩) n n) :: T) a' w'->WL r P ops Q rest a' w'):WL r P ops Q (⟨some d,.buildSlice t n xs.toArray,ty,pos,aL,g⟩ :: rest) a w:=by
 have hcn':css.length=n:=Ci hcn
 refine iV (vs':=(css.zipIdx 0).map fun p=>(p.2,p.1)) hs ht ((List.range (n*sz)).map (fun i=>zero[i % zero.length]!)) css.flatten H hw hx hv hn hn0 M (fun i q h=>?_) ?_ hd k
 ·rw [qD] at h
  obtain ⟨j,hj,rfl⟩:=oO.1 h
  obtain ⟨h1,h2⟩:=jZ.1 hj
  rw [List.getElem_range] at h2
  rw [h2]
 ·have h:=agy sz n css 0 [] ((List.range (n*sz)).map (fun i=>zero[i % zero.length]!)) (by simp) (by simp [hcn']) (fun c hc=>Ci (jR.1 hl c hc)) O
  simpa using h
end
end
section
structure abx (P:Program) (s n off:Nat):Prop where
 h:(match P.underlying s with|some (.struct fs)=>(fs[n]?).bind fun f=>((P.underlying f.type).map (fun|.struct _=>true|.array _ _=>true|_=>false)).map fun g=>(f.offset,g)|_=>none)=some (off,false)
theorem abx.parts {P:Program} {s n off:Nat} (h:abx P s n off):∃ fs fl u,P.underlying s=some (.struct fs)∧fs[n]?=some fl∧P.underlying fl.type=some u∧(match u with|.struct _=>true|.array _ _=>true|_=>false)=false∧fl.offset=off:=by
 obtain ⟨h⟩:=h
 split at h
 ·rename_i fs hs
  obtain ⟨fl,hf,h2⟩:=Option.bind_eq_some_iff.1 h
  obtain ⟨b,hb,h3⟩:=oO.1 h2
  obtain ⟨u,hu,h4⟩:=oO.1 hb
  simp only [iX] at h3
  refine ⟨fs,fl,u,hs,hf,hu,?_,h3.1⟩
  rw [<- h3.2,<- h4]
  cases u <;> rfl
 ·cases h
def Ew (s:ByteArray) (p:Nat):List ah:=if p < s.size then [.bool true,.int .i64 p,.int .i32 (Utf8.decode s p).1] else [.bool false]
def Md (s:ByteArray) (p:Nat):Nat:=if p < s.size then p+(Utf8.decode s p).2 else p
theorem azK {s:ByteArray} {p:Nat}:(Ew s p)[0]?=some (.bool (decide (p < s.size))):=by
 unfold Ew;split <;> simp_all
theorem ajN {s:ByteArray} {p:Nat} (h:p < s.size):Ew s p=[.bool true,.int .i64 p,.int .i32 (Utf8.decode s p).1]:=ay h
theorem ajM {s:ByteArray} {p:Nat} (h:p < s.size):Md s p=p+(Utf8.decode s p).2:=ay h
section
variable {N:Nat} {D:List Deferred} {w0:World} {F:Nat->Prop} {G0 G:GH} {L Li Lo:OL} {T:List (Nat × ah)}
variable {r:Option Nat} {P:Program} {ops:Array Oper} {Q:Exit->Act->World->Prop} {rest:List Oper} {a:Act} {w:World}
variable {d:Nat} {ty:TypeId} {pos:String} {aL:Array Edge} {g:Option (Nat × Bool)}
theorem aBZ {t:TypeId} {x:Operand} {s:ByteArray} (ht:P.underlying t=some .string) (H:St N D w0 F G0 G L T a w) (hw:Region.wanted ⟨some d,.range t x,ty,pos,aL,g⟩ (yielded ops a.tmps)=true) (hx:ev T x=some (.string s)) (hd:Nat.blt d N=true)
  (k:∀ b a' w',w0.heap.size<=b->St N D w0 F G0 G ((b,.stringIter s 0) :: L) ((d,.pointer (some ⟨b,0,none⟩)) :: T) a' w'->WL r P ops Q rest a' w'):WL r P ops Q (⟨some d,.range t x,ty,pos,aL,g⟩ :: rest) a w:=by
 refine fI (v:=.pointer (some ⟨w.heap.size,0,none⟩)) (w':=w.iter s 0) hw M ?_ (k _ _ _ H.hp.size (H.put hd _ (H.hp.alloc _)))
 simp only [execOp,H.ev hx,dP,run_range_string w t s ht,nY,rR]
theorem aDD {w:World} {b p p':Nat} {s:ByteArray} (h:w.heap[b]?=some (.stringIter s p)):vV b (.stringIter s p') w (w.iterAt b s p'):=by
 have hlt:b < w.heap.size:=(Array.getElem?_eq_some_iff.1 h).1
 refine ⟨M,M,M,by simp [World.iterAt],by simp [World.iterAt,hlt],fun k hk=>?_⟩
 simp only [World.iterAt]
 rw [Array.getElem?_setIfInBounds_ne (Ne.symm hk)]
theorem aBX {x:Operand} {s:ByteArray} {b p i:Nat} (H:St N D w0 F G0 G L T a w) (hw:Region.wanted ⟨some d,.next x true,ty,pos,aL,g⟩ (yielded ops a.tmps)=true) (hx:ev T x=some (.pointer (some ⟨b,0,none⟩))) (hi:L[i]?=some (b,.stringIter s p)) (hd:Nat.blt d N=true)
  (k:∀ a' w',St N D w0 F G0 G (L.set i (b,.stringIter s (Md s p))) ((d,.tuple (Ew s p).toArray) :: T) a' w'->WL r P ops Q rest a' w'):WL r P ops Q (⟨some d,.next x true,ty,pos,aL,g⟩ :: rest) a w:=by
 have ho:w.heap[b]?=some (.stringIter s p):=H.hp.own _ (lZ hi)
 by_cases h:p < s.size
 ·have k2:=k (a.put (some d) (.tuple (Ew s p).toArray)) (w.iterAt b s (Md s p)) (H.put hd _ (H.hp.upd hi (aDD ho)))
  refine fI (v:=.tuple (Ew s p).toArray) (w':=w.iterAt b s (Md s p)) hw M ?_ k2
  rw [ajN h,ajM h]
  simp only [execOp,H.ev hx,dP,Lib.run_next_any_at w b s p _ ho h,nY,rR]
 ·have e:Md s p=p:=au h
  have hs:L.set i (b,.stringIter s (Md s p))=L:=by
   rw [e];apply List.ext_getElem?;intro j
   rw [List.getElem?_set]
   split
   ·rename_i hij;subst hij
    split
    ·exact hi.symm
    ·rename_i hj;rw [List.getElem?_eq_none O]
   ·rfl
  have k2:=k (a.put (some d) (.tuple (Ew s p).toArray)) w (by rw [hs];exact H.put hd _ H.hp)
  refine fI (v:=.tuple (Ew s p).toArray) (w':=w) hw M ?_ k2
  rw [show Ew s p=[.bool false] from au h]
  simp only [execOp,H.ev hx,dP,Lib.run_next_end_at w b s p _ ho h,nY,rR]
theorem aB6 {t:TypeId} {x y:Operand} {s:ByteArray} {ky:IntKind} {p:Int} (lo:Nat) (ht:P.underlying t=some .string) (H:St N D w0 F G0 G L T a w) (hw:Region.wanted ⟨some d,.slice t x (some y) none none,ty,pos,aL,g⟩ (yielded ops a.tmps)=true) (hx:ev T x=some (.string s)) (hy:ev T y=some (.int ky p)) (hp:p=(lo:Int)) (h1:lo<=s.size) (hd:Nat.blt d N=true)
  (k:∀ a',St N D w0 F G0 G L ((d,.string (s.extract lo s.size)) :: T) a' w->WL r P ops Q rest a' w):WL r P ops Q (⟨some d,.slice t x (some y) none none,ty,pos,aL,g⟩ :: rest) a w:=by
 subst hp
 have hr:=run_slice_string_l (P:=P) w t s ht ky (lo:Int) O O
 rw [Int.toNat_natCast] at hr
 refine fI (v:=.string (s.extract lo s.size)) (w':=w) hw M ?_ (k _ (H.put hd _ H.hp))
 simp only [execOp,H.ev hx,uT,Option.map_none,H.ev hy,dP,run_sliceAt_string w t _ _ _ _ ht,hr,nY,rR]
theorem Di {t e:TypeId} {sz bytes:Nat} {zero:List ah} {agg:Bool} (hs:P.underlying t=some (.slice e)) (ht:Ty P e sz bytes zero agg) {x y:Operand} {A:Option Addr} {n c:Nat} (lo:Nat) {p:Int} (H:St N D w0 F G0 G L T a w)
  (hw:Region.wanted ⟨some d,.slice t x (some y) none none,ty,pos,aL,g⟩ (yielded ops a.tmps)=true) (hx:ev T x=some (.slice A n c)) (hy:ev T y=some (.int .i64 p)) (hp:p=(lo:Int)) (h1:lo<=n) (hd:Nat.blt d N=true)
  (k:∀ a',St N D w0 F G0 G L ((d,.slice (if c=lo then A else A.map (·.add (lo*sz))) (n - lo) (c - lo)) :: T) a' w->WL r P ops Q rest a' w):WL r P ops Q (⟨some d,.slice t x (some y) none none,ty,pos,aL,g⟩ :: rest) a w:=by
 subst hp
 refine fI (v:=.slice (if c=lo then A else A.map (·.add (lo*sz))) (n - lo) (c - lo)) (w':=w) hw M ?_ (k _ (H.put hd _ H.hp))
 simp [execOp,H.ev hx,H.ev hy,Instr.sliceAt,Instr.slice,Instr.sliceBounds,Instr.sliceBound,dP,nu hs,ht.Am,asIntOf,h1]
end
end
theorem QV {s:ByteArray} {a n:Nat}:∀ (f k:Nat) (low high p:Int),(qF s a n f k low high p).2.2=true->k<=n->n<=k+f ->
  (qF s a n f k low high p).2.1=n∧∀ j,k<=j->j < n->a+j < s.size∧(if j=k then low<=fC s (a+j)∧fC s (a+j)<=high else 128<=fC s (a+j)∧fC s (a+j)<=191)
 | 0,k,low,high,p,_,h1,h2=>by
  have hk:k=n:=by omega
  subst hk;exact ⟨by rw [qF],fun j hj hj2=>by omega⟩
 | f+1,k,low,high,p,h,h1,h2=>by
  rw [qF] at h |-
  by_cases hn:n<=k
  ·rw [ay hn];exact ⟨by dsimp only;omega,fun j hj hj2=>by omega⟩
  rw [au hn] at h |-
  by_cases hb:s.size<=a+k∨fC s (a+k) < low∨high < fC s (a+k)
  ·rw [ay hb] at h;cases h
  rw [au hb] at h |-;obtain ⟨e1,e2⟩:=QV f (k+1) 128 191 _ h O O;refine ⟨e1,fun j hj hj2=>?_⟩
  by_cases hjk:j=k
  ·subst hjk;rw [ay M];omega
  rw [au hjk];have:=e2 j O hj2
  split at this
  ·omega
  exact this
theorem Ic {s:ByteArray} {i:Nat} (h:i < s.size):fC s i=((s.get! i).toNat:Int):=by
 have e:s.get! i=s[i]:=by
  unfold ByteArray.get!
  exact getElem!_pos s.data i h
 rw [oF h,e]
theorem M8 {p:Prop} (h:p:=by
 split
 ·omega
 split <;> omega):p:=h
theorem WB {s:ByteArray} {i:Nat} (hi:i < s.size) (h:(gM s i).2.2=true):(Utf8.decode s i).2=(gM s i).2.1∧¬ ((Utf8.decode s i).1=65533∧(Utf8.decode s i).2=1) ∧
  (∀ j,0 < j->j < (gM s i).2.1->i+j < s.size∧128<=fC s (i+j)∧fC s (i+j)<=191)∧¬ (128<=fC s i∧fC s i<=191):=by
 have hb:=Ic hi;have hlt:(s.get! i).toNat < 256:=(s.get! i).toNat_lt;obtain ⟨B,hB⟩:∃ B,B=(s.get! i).toNat:=⟨_,M⟩;rw [<- hB] at hb hlt
 unfold gM at h |-
 simp only at h |-
 have ht:jJ (fC s i)=jJ (B:Int):=by rw [hb]
 rw [ht] at h |-
 by_cases c1:B < 128
 ·have e3:(jJ (B:Int)).2.2=1:=by simp only [jJ];rw [jl]
  rw [bU,ay e3]
  have hd:Utf8.decode s i=(B,1):=by
   unfold Utf8.decode
   simp only [sJ,<- hB]
   rw [jl]
  rw [hd];exact ⟨M,by simp;omega,fun j h1 h2=>by simp at h2;omega,O⟩
 by_cases c2:B < 194∨244 < B
 ·have e3:(jJ (B:Int)).2.2=0:=by simp only [jJ];rw [bU,jl]
  rw [ay e3] at h;cases h
 by_cases c3:B < 224
 ·have e3:(jJ (B:Int)).2.2=2:=by simp only [jJ];rw [bU,bU,jl]
  have e1:(jJ (B:Int)).1=128∧(jJ (B:Int)).2.1=191:=by simp only [jJ];refine ⟨?_,?_⟩ <;> (rw [bU,bU])
  rw [bU,bU,e3,e1.1,e1.2] at h |-;obtain ⟨q1,q2⟩:=QV _ _ _ _ _ h Z Z;have b1:=q2 1 Z Z;rw [ay M] at b1;have g1:=Ic b1.1;obtain ⟨B1,hB1⟩:∃ B1,B1=(s.get! (i+1)).toNat:=⟨_,M⟩;rw [<- hB1] at g1;rw [q1]
  have hd:Utf8.decode s i=((B % 32)*64+B1 % 64,2):=by
   unfold Utf8.decode
   simp only [sJ,<- hB,<- hB1]
   rw [bU,ay (by simp [b1.1];omega),jl]
  rw [hd];refine ⟨M,by simp,fun j h1 h2=>?_,O⟩
  obtain rfl:j=1:=by have:j < 2:=h2;omega
  exact ⟨b1.1,b1.2⟩
 by_cases c4:B < 240
 ·have e3:(jJ (B:Int)).2.2=3:=by simp only [jJ];rw [bU,bU,bU,jl]
  have e1:128<=(jJ (B:Int)).1∧(jJ (B:Int)).2.1<=191∧(B=224->(jJ (B:Int)).1=160)∧(B=237->(jJ (B:Int)).2.1=159):=by
   simp only [jJ]
   refine ⟨?_,?_,fun e=>?_,fun e=>?_⟩
   ·exact M8
   ·exact M8
   ·rw [jl]
   rw [jl]
  obtain ⟨lo,hlo⟩:∃ x,x=(jJ (B:Int)).1:=⟨_,M⟩;obtain ⟨hi',hhi⟩:∃ x,x=(jJ (B:Int)).2.1:=⟨_,M⟩;rw [bU,bU,e3,<- hlo,<- hhi] at h |-;rw [<- hlo,<- hhi] at e1;obtain ⟨q1,q2⟩:=QV _ _ _ _ _ h Z Z;have b1:=q2 1 Z Z;have b2:=q2 2 Z Z;rw [ay M] at b1;rw [au Z] at b2;have g1:=Ic b1.1;have g2:=Ic b2.1;obtain ⟨B1,hB1⟩:∃ B1,B1=(s.get! (i+1)).toNat:=⟨_,M⟩;obtain ⟨B2,hB2⟩:∃ B2,B2=(s.get! (i+2)).toNat:=⟨_,M⟩;rw [<- hB1] at g1;rw [<- hB2] at g2;rw [q1]
  have hv:Utf8.valid (((B % 16)*4096+(B1 % 64)*64+B2 % 64:Nat):Int)=true:=by
   simp only [Utf8.valid,Bool.or_eq_true,iC,lD]
   have aEF:=e1.2.2.2
   omega
  have hd:Utf8.decode s i=((B % 16)*4096+(B1 % 64)*64+B2 % 64,3):=by
   unfold Utf8.decode
   simp only [sJ,<- hB,<- hB1,<- hB2]
   have aEE:=e1.2.2.1;rw [bU,au (by simp;omega),ay (by simp [b1.1,b2.1];omega),ay (by simp only [iC,lD];exact ⟨O,hv⟩)]
  rw [hd];refine ⟨M,by simp,fun j h1 h2=>?_,O⟩;have h2':j < 3:=h2
  rcases (show j=1∨j=2 by omega) with rfl|rfl
  ·exact ⟨b1.1,O,O⟩
  exact ⟨b2.1,b2.2⟩
 have e3:(jJ (B:Int)).2.2=4:=by simp only [jJ];rw [bU,bU,bU,bU]
 have e1:128<=(jJ (B:Int)).1∧(jJ (B:Int)).2.1<=191∧(B=240->(jJ (B:Int)).1=144)∧(B=244->(jJ (B:Int)).2.1=143):=by
  simp only [jJ]
  refine ⟨?_,?_,fun e=>?_,fun e=>?_⟩
  ·exact M8
  ·exact M8
  ·rw [bU,jl]
  rw [bU,jl]
 obtain ⟨lo,hlo⟩:∃ x,x=(jJ (B:Int)).1:=⟨_,M⟩;obtain ⟨hi',hhi⟩:∃ x,x=(jJ (B:Int)).2.1:=⟨_,M⟩;rw [bU,bU,e3,<- hlo,<- hhi] at h |-;rw [<- hlo,<- hhi] at e1;obtain ⟨q1,q2⟩:=QV _ _ _ _ _ h Z Z;have b1:=q2 1 Z Z;have b2:=q2 2 Z Z;have b3:=q2 3 Z Z;rw [ay M] at b1;rw [au Z] at b2 b3;have g1:=Ic b1.1;have g2:=Ic b2.1;have g3:=Ic b3.1;obtain ⟨B1,hB1⟩:∃ B1,B1=(s.get! (i+1)).toNat:=⟨_,M⟩;obtain ⟨B2,hB2⟩:∃ B2,B2=(s.get! (i+2)).toNat:=⟨_,M⟩;obtain ⟨B3,hB3⟩:∃ B3,B3=(s.get! (i+3)).toNat:=⟨_,M⟩;rw [<- hB1] at g1;rw [<- hB2] at g2;rw [<- hB3] at g3;rw [q1];have aEG:=e1.2.2.1;have aEH:=e1.2.2.2
 have hv:Utf8.valid (((B % 8)*262144+(B1 % 64)*4096+(B2 % 64)*64+B3 % 64:Nat):Int)=true:=by
  simp only [Utf8.valid,Bool.or_eq_true,iC,lD]
  omega
 have hd:Utf8.decode s i=((B % 8)*262144+(B1 % 64)*4096+(B2 % 64)*64+B3 % 64,4):=by
  unfold Utf8.decode
  simp only [sJ,<- hB,<- hB1,<- hB2,<- hB3]
  rw [bU,au (by simp;omega),au (by simp;omega),ay (by simp [b1.1,b2.1,b3.1];omega),ay (by simp only [iC,lD];exact ⟨O,hv⟩)]
 rw [hd];refine ⟨M,by simp,fun j h1 h2=>?_,O⟩;have h2':j < 4:=h2
 rcases (show j=1∨j=2∨j=3 by omega) with rfl|rfl|rfl
 ·exact ⟨b1.1,O,O⟩
 ·exact ⟨b2.1,b2.2⟩
 exact ⟨b3.1,b3.2⟩
theorem Px {s:ByteArray} {i:Nat} (h:nL s i < 0) (hi:i < s.size):(gM s i).2.2=true∧nL s (i+(gM s i).2.1) < 0:=by
 rw [nL,dif_pos hi] at h
 split at h
 ·rename_i h2;exact ⟨h2,h⟩
 omega
theorem WC {s:ByteArray} {i:Nat} (h:nL s i < 0) (hi:i < s.size):0 < (gM s i).2.1∧i+(gM s i).2.1<=s.size:=by
 have h1:=(Px h hi).1;have h2:=(Nw s i hi).2 h1
 omega
theorem atb (r:Nat):(Utf8.encode (r:Int)).data.toList=Go.Lib.encodeRune (r:Int):=by
 have big:∀ x:Nat,(x:Int).toNat=x:=fun x=>Int.toNat_natCast x
 unfold Utf8.encode Go.Lib.encodeRune
 simp only
 by_cases c1:r<=127
 ·have hv:Utf8.valid (r:Int)=true:=by simp only [Utf8.valid,Bool.or_eq_true,iC,lD];omega
  rw [ay hv,Go.Lib.encodeRuneZ_one O O,big,jl]
  rfl
 by_cases c2:r<=2047
 ·have hv:Utf8.valid (r:Int)=true:=by simp only [Utf8.valid,Bool.or_eq_true,iC,lD];omega
  rw [ay hv,Go.Lib.encodeRuneZ_two O O,big,bU,jl]
  simp only [dO,qZ]
  rw [show (192+(r:Int) / 64).toNat=192+r / 64 by omega,show (128+(r:Int) % 64).toNat=128+r % 64 by omega]
 by_cases c3:r<=65535∧¬ (55296<=r∧r<=57343)
 ·have hv:Utf8.valid (r:Int)=true:=by simp only [Utf8.valid,Bool.or_eq_true,iC,lD];omega
  rw [ay hv,Go.Lib.encodeRuneZ_three O,big,bU,bU,jl]
  simp only [dO,qZ]
  rw [show (224+(r:Int) / 4096).toNat=224+r / 4096 by omega,show (128+(r:Int) / 64 % 64).toNat=128+r / 64 % 64 by omega,show (128+(r:Int) % 64).toNat=128+r % 64 by omega]
 by_cases c4:65536<=r∧r<=1114111
 ·have hv:Utf8.valid (r:Int)=true:=by simp only [Utf8.valid,Bool.or_eq_true,iC,lD];omega
  rw [ay hv,Go.Lib.encodeRuneZ_four O O,big,bU,bU,bU]
  simp only [dO,qZ]
  rw [show (240+(r:Int) / 262144).toNat=240+r / 262144 by omega,show (128+(r:Int) / 4096 % 64).toNat=128+r / 4096 % 64 by omega,show (128+(r:Int) / 64 % 64).toNat=128+r / 64 % 64 by omega,show (128+(r:Int) % 64).toNat=128+r % 64 by omega]
 have hv:¬ Utf8.valid (r:Int)=true:=by simp only [Utf8.valid,Bool.or_eq_true,iC,lD];omega
 rw [au hv,Go.Lib.encodeRuneZ_bad O]
 decide
theorem ata {s:ByteArray} {i:Nat} (h:nL s i < 0) (hi:i < s.size):(Utf8.encode ((Utf8.decode s i).1:Int)).data.toList=(s.data.toList.drop i).take (Utf8.decode s i).2:=by
 have hne:s.data.toList.drop i≠[]:=by
  intro e;have:=cO List.length e;rw [List.length_drop,<- Go.Lib.size_eq] at this
  simp at this;omega
 have he:=WB hi (Px h hi).1;have h1:=Go.Lib.encode_decode _ hne (by rw [Go.Lib.decodeL_drop];exact he.2.1);rw [Go.Lib.decodeL_drop] at h1;rw [<- h1,atb]
theorem V3 {a b:ByteArray} {i:Nat} (h:i < a.size):fC (a++b) i=fC a i:=by
 rw [oF h,oF (by rw [ByteArray.size_append];omega),ByteArray.getElem_append_left h]
theorem V4 (a b:ByteArray) (j:Nat):fC (a++b) (a.size+j)=fC b j:=by
 by_cases h:j < b.size
 ·rw [oF h,oF (by rw [ByteArray.size_append];omega),ByteArray.getElem_append_right O]
  congr 2
  simp
 unfold fC
 rw [dif_neg (by rw [ByteArray.size_append];omega),dif_neg h]
theorem afd {a b:ByteArray} {t n:Nat}:∀ (f k:Nat) (low high p:Int),(qF a t n f k low high p).2.2=true->qF (a++b) t n f k low high p=qF a t n f k low high p
 | 0,_,_,_,_,_=>rfl
 | f+1,k,low,high,p,h=>by
  unfold qF at h |-
  by_cases h1:n<=k
  ·rw [ay h1,ay h1]
  rw [au h1] at h;rw [au h1,au h1]
  by_cases h2:a.size<=t+k∨fC a (t+k) < low∨high < fC a (t+k)
  ·rw [ay h2] at h;cases h
  rw [au h2] at h
  have h3:t+k < a.size:=by omega
  rw [V3 h3,au h2,au (by rw [ByteArray.size_append];omega)];exact afd f (k+1) _ _ _ h
theorem afe (a b:ByteArray) (j n:Nat):∀ (f k:Nat) (low high p:Int),qF (a++b) (a.size+j) n f k low high p=qF b j n f k low high p
 | 0,_,_,_,_=>rfl
 | f+1,k,low,high,p=>by
  unfold qF
  have e:fC (a++b) (a.size+j+k)=fC b (j+k):=by rw [Nat.add_assoc];exact V4 a b (j+k)
  have e2:((a++b).size<=a.size+j+k)↔(b.size<=j+k):=by rw [ByteArray.size_append];omega
  rw [e,afe a b j n f]
  simp only [e2]
theorem Wz {a b:ByteArray} {i:Nat} (hi:i < a.size) (h:(gM a i).2.2=true):gM (a++b) i=gM a i:=by
 unfold gM at h |-
 simp only [V3 hi] at h |-
 split
 ·rfl
 rename_i h1
 rw [au h1] at h
 split
 ·rfl
 rename_i h2
 rw [au h2] at h;exact afd _ _ _ _ _ h
theorem WA (a b:ByteArray) (j:Nat):gM (a++b) (a.size+j)=gM b j:=by
 unfold gM
 simp only [V4,afe]
theorem atV (a b:ByteArray):∀ (n j:Nat),b.size - j=n->nL b j < 0->nL (a++b) (a.size+j) < 0:=by
 intro n
 induction n using Nat.strongRecOn with
 | _ n ih =>
  intro j hn h;rw [nL]
  by_cases hj:j < b.size
  ·rw [nL,dif_pos hj] at h;rw [dif_pos (by rw [ByteArray.size_append];omega)]
   by_cases hd:(gM b j).2.2=true
   ·rw [dif_pos hd] at h;have hs:=(Nw b j hj).2 hd;rw [dif_pos (by rw [WA];exact hd),WA,Nat.add_assoc];exact ih _ O (j+(gM b j).2.1) M h
   rw [dif_neg hd] at h;omega
  rw [dif_neg (by rw [ByteArray.size_append];omega)];decide
theorem atU (a b:ByteArray) (hb:nL b 0 < 0):∀ (n i:Nat),a.size - i=n->i<=a.size->nL a i < 0->nL (a++b) i < 0:=by
 intro n
 induction n using Nat.strongRecOn with
 | _ n ih =>
  intro i hn hi h
  by_cases hj:i < a.size
  ·rw [nL,dif_pos hj] at h;rw [nL,dif_pos (by rw [ByteArray.size_append];omega)]
   by_cases hd:(gM a i).2.2=true
   ·rw [dif_pos hd] at h;have hs:=(Nw a i hj).2 hd;rw [dif_pos (by rw [Wz hj hd];exact hd),Wz hj hd];exact ih _ O (i+(gM a i).2.1) M hs.2 h
   rw [dif_neg hd] at h;omega
  obtain rfl:i=a.size:=by omega
  exact atV a b b.size 0 M hb
theorem aaU {a b:ByteArray} (ha:lX a=true) (hb:lX b=true):lX (a++b)=true:=by
 unfold lX at *
 exact mY (atU a b (rT hb) a.size 0 M (kY _) (rT ha))
theorem aeQ (a b:ByteArray):∀ (n j:Nat),b.size - j=n->kE (a++b) (a.size+j)=kE b j
 | 0,j,h=>by
  rw [kE.eq_def (a++b),kE.eq_def b,au (show ¬ a.size+j < (a++b).size by rw [ByteArray.size_append];omega),au (show ¬ j < b.size by omega)]
 | n+1,j,h=>by
  have ih:=aeQ a b n (j+1) O;rw [kE.eq_def (a++b),kE.eq_def b,ay (show a.size+j < (a++b).size by rw [ByteArray.size_append];omega),ay (show j < b.size by omega),V4,Nat.add_assoc,ih]
theorem aeP (a b:ByteArray):∀ (n i:Nat),a.size - i=n->i<=a.size->kE (a++b) i=kE a i+kE b 0
 | 0,i,h,hi=>by
  obtain rfl:i=a.size:=by omega
  rw [kE.eq_def a a.size,au (Nat.lt_irrefl _),gZ];exact aeQ a b b.size 0 rfl
 | n+1,i,h,hi=>by
  have ih:=aeP a b n (i+1) O O;rw [kE.eq_def (a++b),kE.eq_def a i,ay (show i < (a++b).size by rw [ByteArray.size_append];omega),ay (show i < a.size by omega),V3 (show i < a.size by omega),ih,Nat.add_assoc]
theorem apG {a b:ByteArray} (ha:lX a=true) (hb:lX b=true):oU (a++b)=oU a+oU b:=by
 unfold oU
 rw [ay ha,ay hb,ay (aaU ha hb)];exact aeP a b a.size 0 M (kY _)
section
abbrev aH (b o : Nat) : Value := .pointer (some ⟨b, o, none⟩)
end
end Go.Proofs.YtdiflmikikiedaaGreat
