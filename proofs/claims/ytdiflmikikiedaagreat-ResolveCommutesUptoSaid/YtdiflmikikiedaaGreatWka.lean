/-
  What the claim stands on, part 1: Lg Op Oq Cb Rep Dr Sq Row Dy Bd Eq Mp Mk Cl Rc Ct Ut Is.
-/
import Derived.Test.YtdiflmikikiedaaGreatProg
import Derived.CallsIn
import Derived.TacticsIn
import Derived.RangeFuncIn
import Derived.RangeFuncLeaves
import Derived.RangeFuncRecord
import Derived.Below
import Derived.KernelRfl
import Derived.Maps.AppendAt
import Derived.IntWalk
import Derived.OrdersIn
import Derived.Lib.Builder
import Derived.Lib.UnsafeStr
import Derived.Lib.AppendStr
import Derived.Laws.Externs
import Derived.Laws.StructEq
import Derived.ChangeKeysEq
import Derived.MapKept
import Derived.Laws.MakeOwn
import Derived.Lib.OthersKept
import Derived.Laws.IdiomStrings
import Derived.Laws.Cover4
import Derived.Laws.Slices
import Derived.Laws.Strings2
import Derived.Lib.Overlaps
import Derived.Lib.AppendZerosOnto
namespace Go.Proofs.YtdiflmikikiedaaGreat
set_option linter.all false
open Go.Proofs.Tryz
theorem M.{u} {α:Sort u} {a:α}:a=a:=rfl
theorem O {p:Prop} (h:p:=by omega):p:=h
theorem V {p:Prop} (h:p:=by kernel_rfl):p:=h
theorem Z {p:Prop} (h:p:=by decide):p:=h
section
theorem av.{u}:∀ {c:Prop} {h:Decidable c},¬c->∀ {α:Sort u} {t e:α},(if c then t else e)=e:=@if_neg
theorem aB:True:=trivial
theorem aD.{u}:∀ {c:Prop} {h:Decidable c},c->∀ {α:Sort u} {t e:α},(if c then t else e)=t:=@if_pos
theorem bS.{u_1,u_2}:∀ {α:Type u_1} {β:Type u_2} {xs:List α} (f:α->β),List.length (List.map f xs)=List.length xs:=@List.length_map
theorem cZ.{u,v}:∀ {α:Sort u} {β:Sort v} {a₁ a₂:α} (f:α->β),a₁=a₂->f a₁=f a₂:=@congrArg
theorem dU:∀ {α β:Type} (P:Go.Program) (w:Go.World) (x:Go.Sem α) (f:α->Go.Sem β),   Go.Sem.run P (x >>= f) w=Go.Result.andThen (Go.Sem.run P x w) fun a w'=>Go.Sem.run P (f a) w':=@Go.Sem.run_bind
theorem dX.{u_1}:∀ {α:Type u_1} {a:α} {l:List α},a∈a :: l:=@List.mem_cons_self
theorem eB.{u_1}:∀ {α:Type u_1} {l:List α} {i:Nat} (h:i < List.length l),l[i]?=some l[i]:=@List.getElem?_eq_getElem
theorem eG:∀ (n:Nat),n<=n:=@Nat.le_refl
theorem fD.{u,v}:∀ {α:Type u} {β:Type v} {f:α->β} {a:α} {l:List α},List.map f (a :: l)=f a :: List.map f l:=@List.map_cons
theorem gy:∀ (n:Nat),0+n=n:=@Nat.zero_add
theorem gK.{u_1}:∀ {α:Type u_1} {b:α} {l:List α} {a:α},a∈b :: l↔a=b∨a∈l:=@List.mem_cons
theorem gW.{u_1}:∀ {α:Type u_1} (y:α) {a:α} {l:List α},a∈l->a∈y :: l:=@List.mem_cons_of_mem
theorem ig.{u}:∀ {α:Type u} (xs:List α),xs++[]=xs:=@List.append_nil
theorem iL:∀ (a b:Bool),((a && b)=true)=(a=true∧b=true):=@Bool.and_eq_true
theorem iQ.{u,v}:∀ {α:Type u} {β:Type v} (fst:α) (snd:β) (afM:α) (ajA:β),   ((fst,snd)=(afM,ajA))=(fst=afM∧snd=ajA):=@Prod.mk.injEq
theorem iW.{u}:∀ {α:Type u} {xs bs:List α},List.length (xs++bs)=List.length xs+List.length bs:=@List.length_append
theorem jv.{u}:∀ {α:Type u} (xs bs cs:List α),xs++bs++cs=xs++(bs++cs):=@List.append_assoc
theorem jE.{u_1}:∀ {α:Type u_1} {p:α->Bool} {l:List α},List.all l p=true↔∀ (x:α),x∈l->p x=true:=@List.all_eq_true
theorem jF.{u_1}:∀ {α:Type u_1} {i:Nat} {l:List α},List.length l<=i->List.take i l=l:=@List.take_of_length_le
theorem jQ.{u_1}:∀ {α:Type u_1} {a:α} {s t:List α},a∈s++t↔a∈s∨a∈t:=@List.mem_append
theorem ko.{u_1}:∀ {α:Type u_1} {i:Nat} {a:α} {l:List α},l[i]?=some a↔∃ h,l[i]=a:=@List.getElem?_eq_some_iff
theorem kG.{u_1}:∀ {α:Type u_1} {i:Nat} {l:List α} (h:i < List.length l),List.take (i+1) l=List.take i l++[l[i]]:=@List.take_succ_eq_append_getElem
theorem kR.{u_1,u_2}:∀ {α:Type u_1} {β:Type u_2} {f:α->β} {l₁ l₂:List α},List.map f (l₁++l₂)=List.map f l₁++List.map f l₂:=@List.map_append
theorem lg:∀ (n:Nat),0<=n:=@Nat.zero_le
theorem lq.{u_1}:∀ {α:Type u_1} {l:List α} {n:Nat} (h:n < List.length l),l[n]∈l:=@List.getElem_mem
theorem lV.{u_1}:∀ {α:Type u_1} {l:List α} {i:Nat} {a:α},l[i]?=some a->a∈l:=@List.mem_of_getElem?
theorem lW.{u}:∀ {α:Type u} {a:α} {xs:List α},List.length (a :: xs)=List.length xs+1:=@List.length_cons
theorem lX.{u_1}:∀ {α:Type u_1} (l:List α),List.Sublist l l:=@List.Sublist.refl
theorem mO.{u}:∀ {α:Type u} (xs:List α),[]++xs=xs:=@List.nil_append
theorem mP:∀ {p:Prop} [inst:Decidable p],p->decide p=true:=@decide_eq_true
theorem mY:∀ {p:Prop} [inst:Decidable p],¬p->decide p=false:=@decide_eq_false
theorem nS:∀ {α β:Type} (a:α) (w:Go.World) (f:α->Go.World->Go.Result β),Go.Result.andThen (Go.Result.ok a w) f=f a w:=@Go.Result.andThen_ok
theorem oC.{u_1}:∀ {α:Type u_1} {a b:α},a∈[b]↔a=b:=@List.mem_singleton
theorem oM:∀ {p:Prop} [inst:Decidable p],(decide p=true)=p:=@decide_eq_true_eq
theorem oN:∀ {p:Prop} [Decidable p],¬¬p↔p:=@Decidable.not_not
theorem oO.{u_1}:∀ {α:Type u_1} {l₁ l₂:List α},List.Perm (l₁++l₂) (l₂++l₁):=@List.perm_append_comm
theorem pO.{u}:∀ {α:Type u} (val ako:α),(some val=some ako)=(val=ako):=@Option.some.injEq
theorem pQ:∀ {p:Prop} [inst:Decidable p],decide p=true->p:=@of_decide_eq_true
theorem ql.{u}:∀ {α:Type u} {R:α->α->Prop} {a:α} {l:List α},   List.Pairwise R (a :: l)↔(∀ (a':α),a'∈l->R a a')∧List.Pairwise R l:=@List.pairwise_cons
theorem qm.{u}:∀ {α:Type u} {a:α} {xs bs:List α},a :: xs++bs=a :: (xs++bs):=@List.cons_append
theorem qD.{u_1,u_2}:∀ {α:Type u_1} {b:α} {akK:Type u_2} {x:Option akK} {f:akK->α},   Option.map f x=some b↔∃ a,x=some a∧f a=b:=@Option.map_eq_some_iff
theorem qE.{u_1}:∀ {α:Type u_1} [inst:BEq α] [LawfulBEq α] {a:α} {xs:List α},List.contains xs a=true↔a∈xs:=@List.contains_iff_mem
theorem rR.{u_1}:∀ {α:Type u_1} {i:Nat} {l:List α} (h:i < List.length l),List.drop i l=l[i] :: List.drop (i+1) l:=@List.drop_eq_getElem_cons
theorem rT:∀ {a b:Bool},a=b↔(a=true↔b=true):=@Bool.eq_iff_iff
theorem sP.{u,v}:∀ {α:Type u} {β:Type v} {f:α->β},List.map f []=[]:=@List.map_nil
theorem tZ.{u_1,u_2}:∀ {α:Type u_1} {β:Type u_2} {f:α->β} {l:List α} {i:Nat},(List.map f l)[i]?=Option.map f l[i]?:=@List.getElem?_map
theorem uf:∀ {α:Type} (P:Go.Program) (w:Go.World) (a:α),Go.Sem.run P (pure a) w=Go.Result.ok a w:=@Go.Sem.run_pure
theorem ug:(false=true)=False:=@Bool.false_eq_true
theorem uh.{u_1}:∀ {α:Type u_1} {i:Nat} {l:List α},List.length l<=i->List.drop i l=[]:=@List.drop_of_length_le
theorem uN.{u_1}:∀ {α:Type u_1} {l:List α} {i j:Nat},(List.take i l)[j]?=if j < i then l[j]? else none:=@List.getElem?_take
theorem uO.{u_1}:∀ {α:Type u_1} {l₁ l₂:List α} {i:Nat},List.length l₁<=i->(l₁++l₂)[i]?=l₂[i - List.length l₁]?:=@List.getElem?_append_right
theorem vM.{u_1}:∀ {α:Type u_1} {xs:Array α},List.length xs.toList=Array.size xs:=@Array.length_toList
theorem vN:∀ {m n:Nat},m∈List.range n↔m < n:=@List.mem_range
theorem vO:∀ {p:Prop} {x:Decidable p},decide p=false↔¬p:=@decide_eq_false_iff_not
theorem wH.{u_1,u_2}:∀ {α:Type u_1} {β:Type u_2} (a:α) (f:α->β),Option.map f (some a)=some (f a):=@Option.map_some
theorem wI.{u}:∀ {α:Type u} {l:List α},List.drop 0 l=l:=@List.drop_zero
theorem xG.{u}:∀ {α:Type u} {a:α} {l:List α} {i:Nat},List.drop (i+1) (a :: l)=List.drop i l:=@List.drop_succ_cons
theorem yG.{u_1}:∀ {α:Type u_1} {l:List α},List.take (List.length l) l=l:=@List.take_length
theorem zF:∀ (n:Nat),n+0=n:=@Nat.add_zero
theorem zG.{u_1}:∀ {α:Type u_1} {l₁ l₂:List α} {i:Nat},i < List.length l₁->(l₁++l₂)[i]?=l₁[i]?:=@List.getElem?_append_left
theorem BS:∀ {n m:Nat},Nat.beq n m=true->n=m:=@Nat.eq_of_beq_eq_true
theorem BU.{u_1}:∀ {α:Type u_1} {a:α} {l:List α},(a :: l)[0]?=some a:=@List.getElem?_cons_zero
theorem Dp.{u_1}:∀ {α:Type u_1} (a:α) (l:List α),List.Sublist l (a :: l):=@List.sublist_cons_self
theorem MF:∀ (b:Bool),(true && b)=b:=@Bool.true_and
theorem MG:∀ (n m:Nat),n+m - n=m:=@Nat.add_sub_cancel_left
theorem MH:∀ (b:Bool),(false && b)=false:=@Bool.false_and
abbrev ah := Value
theorem gH {a b:Bool} (h:a=b):Value.bool a=Value.bool b:=congrArg _ h
end
abbrev aS (f : FuncId) : Prop := ∀ (args : Array Value) (w : World), (callFunc f args).run Tryz.prog w = .ok (.enter f args) w
open Go.RowKit
section
def FW (r:Option Nat):Fence:={ Fence.wide with round:=r }
theorem PO (r:Option Nat):(FW r).depth.isSome=true->1<=(0:Nat):=by intro h;cases h
abbrev WP (r:Option Nat) (P:Program) (c:Code) (Q:Exit->Act->World->Prop) (a:Act) (w:World):Prop:=c.wpIn (FW r) 0 P Q a w
abbrev WL (r:Option Nat) (P:Program) (ops:Array Oper) (Q:Exit->Act->World->Prop) (l:List Oper) (a:Act) (w:World):Prop:=wpListIn (FW r) 0 P ops Q l a w
theorem VU {r:Option Nat} {n:Nat} {P:Program} {f:FuncId} {args:Array ah} {w:World} {R:Ending->World->Prop} (h:Calls P f args w R):CallsIn (FW r) n P f args w R:=callsIn_wide.2 h
theorem ams {r:Option Nat} {n:Nat} {P:Program} {f:FuncId} {args:Array ah} {w:World} {R:Ending->World->Prop} (h:CallsIn (FW r) n P f args w R):Calls P f args w R:=callsIn_wide.1 h
def lk:List (Nat × ah)->Nat->Option ah
 | [],_=>none
 | (s,v) :: r,t=>bif Nat.beq s t then some v else lk r t
theorem yg (t:Nat) (v:ah) (T:List (Nat × ah)):lk ((t,v) :: T) t=some v:=by simp [lk]
theorem wW {s t:Nat} (h:s≠t) (v:ah) (T:List (Nat × ah)):lk ((s,v) :: T) t=lk T t:=by
 have:Nat.beq s t=false:=by
  cases h':Nat.beq s t with
  | false=>rfl
  | true=>exact absurd (BS h') h
 simp [lk,this]
def ev (T:List (Nat × ah)):Operand->Option ah
 | .tmp t=>lk T t
 | .const v=>some v
 | .global g=>some (.pointer (some ⟨g,0,none⟩))
 | .func f=>some (.func (.func f) #[] #[])
def evs (T:List (Nat × ah)):List Operand->Option (List ah)
 | []=>some []
 | x :: r=>match ev T x,evs T r with|some v,some vs=>some (v :: vs)|_,_=>none
abbrev GH:=Nat->Option Obj
structure Hp (w0:World) (F:Nat->Prop) (G0 G:GH) (L:List (Nat × Obj)) (w:World):Prop where
 os:w.os=w0.os
 tape:w.tape=w0.tape
 output:w.output=w0.output
 size:w0.heap.size<=w.heap.size
 wQ:∀ k,F k->k < w0.heap.size
 fr:∀ k,F k->w.heap[k]?=w0.heap[k]?
 ro:∀ k o,G k=some o->w.heap[k]?=some o
 gm:∀ k o,G0 k=some o->G k=some o
 gx:∀ k o,G k=some o->G0 k=some o∨¬ F k
 own:∀ p∈L,w.heap[p.1]?=some p.2
 vB:∀ p∈L,G p.1=none
 vw:∀ p∈L,¬ F p.1
 nd:L.Pairwise fun p q=>p.1≠q.1
structure St (N:Nat) (D:List Deferred) (w0:World) (F:Nat->Prop) (G0 G:GH) (L:List (Nat × Obj)) (T:List (Nat × ah)) (a:Act) (w:World):Prop where
 oP:a.tmps.size=N
 get:∀ t v,lk T t=some v->a.tmps[t]?=some v
 uU:a.defers=D
 hp:Hp w0 F G0 G L w
theorem lt_of_heap {w:World} {k:Nat} {o:Obj} (h:w.heap[k]?=some o):k < w.heap.size:=(Array.getElem?_eq_some_iff.1 h).1
structure wG (b:Nat) (o:Obj) (w w':World):Prop where
 os:w'.os=w.os
 tape:w'.tape=w.tape
 output:w'.output=w.output
 size:w'.heap.size=w.heap.size
 this:w'.heap[b]?=some o
 others:∀ k,k≠b->w'.heap[k]?=w.heap[k]?
section
variable {N:Nat} {D:List Deferred} {w0 w w':World} {F:Nat->Prop} {G0 G G':GH} {L L':List (Nat × Obj)} {T:List (Nat × ah)} {a:Act} {b:Nat} {o o':Obj}
theorem Hp.lt (h:Hp w0 F G0 G L w) {p:Nat × Obj} (hp:p∈L):p.1 < w.heap.size:=lt_of_heap (h.own p hp)
theorem Hp.alloc (h:Hp w0 F G0 G L w) (o:Obj):Hp w0 F G0 G ((w.heap.size,o) :: L) (w.alloc o):=by
 have hold:∀ k,k < w.heap.size->(w.alloc o).heap[k]?=w.heap[k]?:=fun k hk=>Below.heap_alloc w o k hk
 refine ⟨h.os,h.tape,h.output,by simp;exact Nat.le_succ_of_le h.size,h.wQ,fun k hk=>(hold k (Nat.lt_of_lt_of_le (h.wQ k hk) h.size)).trans (h.fr k hk),fun k o' hk=>(hold k (lt_of_heap (h.ro k o' hk))).trans (h.ro k o' hk),h.gm,h.gx,?_,?_,?_,?_⟩
 ·intro p hp
  rcases gK.1 hp with rfl|hp
  ·show (w.heap.push o)[w.heap.size]?=some o;simp
  ·exact (hold _ (h.lt hp)).trans (h.own p hp)
 ·intro p hp
  rcases gK.1 hp with rfl|hp
  ·cases hg:G w.heap.size with
   | none=>rfl
   | some o'=>exact absurd (lt_of_heap (h.ro _ _ hg)) (Nat.lt_irrefl _)
  ·exact h.vB p hp
 ·intro p hp
  rcases gK.1 hp with rfl|hp
  ·intro hf;exact absurd (Nat.lt_of_lt_of_le (h.wQ _ hf) h.size) (Nat.lt_irrefl _)
  ·exact h.vw p hp
 ·refine ql.2 ⟨fun q hq=>?_,h.nd⟩
  have:=h.lt hq
  simp only;omega
theorem Hp.below (h:Hp w0 F G0 G L w) (hb:Below w.heap.size w w'):Hp w0 F G0 G L w':=by
 refine ⟨hb.os.trans h.os,hb.tape.trans h.tape,hb.output.trans h.output,Nat.le_trans h.size hb.size,h.wQ,fun k hk=>(hb.block k (Nat.lt_of_lt_of_le (h.wQ k hk) h.size)).trans (h.fr k hk),fun k o hk=>(hb.block k (lt_of_heap (h.ro k o hk))).trans (h.ro k o hk),h.gm,h.gx,fun p hp=>(hb.block _ (h.lt hp)).trans (h.own p hp),h.vB,h.vw,h.nd⟩
def Ext (n1:Nat) (G G':GH) (w':World):Prop:=(∀ k o,G k=some o->G' k=some o)∧(∀ k o,G' k=some o->G k=some o∨n1<=k)∧(∀ k o,G' k=some o->w'.heap[k]?=some o)
theorem Hp.aaP (h:Hp w0 F G0 G L w) (hb:Below w.heap.size w w') (hx:Ext w.heap.size G G' w'):Hp w0 F G0 G' L w':=by
 have h':=h.below hb
 refine ⟨h'.os,h'.tape,h'.output,h'.size,h'.wQ,h'.fr,hx.2.2,fun k o hk=>hx.1 k o (h.gm k o hk),fun k o hk=>?_,h'.own,fun p hp=>?_,h'.vw,h'.nd⟩
 ·rcases hx.2.1 k o hk with hk|hk
  ·exact h.gx k o hk
  ·exact .inr fun hf=>absurd (Nat.lt_of_lt_of_le (h.wQ k hf) h.size) O
 ·cases hg:G' p.1 with
  | none=>rfl
  | some o =>
   rcases hx.2.1 _ _ hg with hk|hk
   ·rw [h.vB p hp] at hk;cases hk
   ·exact absurd (h.lt hp) O
theorem Zt:∀ {L:List (Nat × Obj)} {i b:Nat} {o o':Obj},L.Pairwise (fun p q=>p.1≠q.1)->L[i]?=some (b,o)->(L.set i (b,o')).Pairwise fun p q=>p.1≠q.1
 | [],_,_,_,_,h,_=>h
 | p :: L,0,b,o,o',h,hi=>by
  simp only [BU,pO] at hi
  subst hi
  exact ql.2 ⟨(ql.1 h).1,(ql.1 h).2⟩
 | p :: L,i+1,b,o,o',h,hi=>by
  simp only [List.getElem?_cons_succ] at hi
  refine ql.2 ⟨fun q hq=>?_,Zt (ql.1 h).2 hi⟩
  rcases List.mem_or_eq_of_mem_set hq with hq|rfl
  ·exact (ql.1 h).1 q hq
  ·exact (ql.1 h).1 (b,o) (lV hi)
theorem Ze:∀ {L:List (Nat × Obj)} {i:Nat} {p q:Nat × Obj},L.Pairwise (fun p q=>p.1≠q.1)->L[i]?=some p->q∈L->q.1=p.1->q=p
 | [],_,_,_,_,h,_,_=>by simp at h
 | x :: L,0,p,q,h,hi,hq,e=>by
  simp only [BU,pO] at hi
  subst hi
  rcases gK.1 hq with rfl|hq
  ·rfl
  ·exact absurd e.symm ((ql.1 h).1 q hq)
 | x :: L,i+1,p,q,h,hi,hq,e=>by
  simp only [List.getElem?_cons_succ] at hi
  rcases gK.1 hq with rfl|hq
  ·exact absurd e ((ql.1 h).1 p (lV hi))
  ·exact Ze (ql.1 h).2 hi hq e
theorem Hp.upd (h:Hp w0 F G0 G L w) {i:Nat} (hi:L[i]?=some (b,o)) (hu:wG b o' w w'):Hp w0 F G0 G (L.set i (b,o')) w':=by
 have hm:(b,o)∈L:=lV hi
 refine ⟨hu.os.trans h.os,hu.tape.trans h.tape,hu.output.trans h.output,hu.size ▸ h.size,h.wQ,fun k hk=>?_,fun k o hk=>?_,h.gm,h.gx,fun p hp=>?_,fun p hp=>?_,fun p hp=>?_,Zt h.nd hi⟩
 ·exact (hu.others k (fun e=>h.vw _ hm (e ▸ hk))).trans (h.fr k hk)
 ·refine (hu.others k (fun e=>?_)).trans (h.ro k o hk)
  have:=h.vB _ hm
  rw [<- e,hk] at this;cases this
 ·by_cases e:p.1=b
  ·rcases List.mem_or_eq_of_mem_set hp with hp'|rfl
   ·obtain ⟨j,hj⟩:=List.getElem?_of_mem hp
    have hib:i < L.length:=(ko.1 hi).1
    have hset:(L.set i (b,o'))[i]?=some (b,o'):=by simp [hib]
    have:=Ze (Zt (o':=o') h.nd hi) hset hp e
    rw [this];exact hu.this
   ·exact hu.this
  ·rcases List.mem_or_eq_of_mem_set hp with hp|rfl
   ·exact (hu.others _ e).trans (h.own p hp)
   ·exact absurd M e
 ·rcases List.mem_or_eq_of_mem_set hp with hp|rfl
  ·exact h.vB p hp
  ·exact (h.vB (b,o) hm:G b=none)
 ·rcases List.mem_or_eq_of_mem_set hp with hp|rfl
  ·exact h.vw p hp
  ·exact (h.vw (b,o) hm:¬ F b)
theorem Hp.drew (h:Hp w0 F G0 G L w):Hp w0 F G0 G L w.drew:=⟨h.os,h.tape,h.output,h.size,h.wQ,h.fr,h.ro,h.gm,h.gx,h.own,h.vB,h.vw,h.nd⟩
theorem Hp.drop (h:Hp w0 F G0 G L w) (hs:L'.Sublist L):Hp w0 F G0 G L' w:=⟨h.os,h.tape,h.output,h.size,h.wQ,h.fr,h.ro,h.gm,h.gx,fun p hp=>h.own p (hs.subset hp),fun p hp=>h.vB p (hs.subset hp),fun p hp=>h.vw p (hs.subset hp),h.nd.sublist hs⟩
theorem Hp.fH {Pl eD Lo:List (Nat × Obj)} (h:Hp w0 F G0 G (Pl++Lo) w) (idx:List Nat) (hi:idx.Nodup) (hL:idx.map (fun i=>Pl[i]?)=eD.map some):Hp w0 F G0 G (eD++Lo) w:=by
 have hget:∀ (j:Nat) (p:Nat × Obj),eD[j]?=some p->∃ i:Nat,idx[j]?=some i∧Pl[i]?=some p:=by
  intro j p hp
  have h1:(idx.map (fun i=>Pl[i]?))[j]?=some (some p):=by rw [hL];simp [hp]
  rw [tZ] at h1
  obtain ⟨i,hi1,hi2⟩:=qD.1 h1
  exact ⟨i,hi1,hi2⟩
 have hmem:∀ p∈eD++Lo,p∈Pl++Lo:=by
  intro p hp
  rcases jQ.1 hp with hp|hp
  ·obtain ⟨j,hj⟩:=List.getElem?_of_mem hp
   obtain ⟨i,_,hi2⟩:=hget j p hj
   exact List.mem_append_left _ (lV hi2)
  ·exact List.mem_append_right _ hp
 have hnd:=List.pairwise_append.1 h.nd
 refine ⟨h.os,h.tape,h.output,h.size,h.wQ,h.fr,h.ro,h.gm,h.gx,fun p hp=>h.own p (hmem p hp),fun p hp=>h.vB p (hmem p hp),fun p hp=>h.vw p (hmem p hp),List.pairwise_append.2 ⟨?_,hnd.2.1,fun p hp q hq=>?_⟩⟩
 ·refine List.pairwise_iff_getElem.2 fun x y hx hy hxy=>?_
  obtain ⟨i,hi1,hi2⟩:=hget x _ (eB hx)
  obtain ⟨j,hj1,hj2⟩:=hget y _ (eB hy)
  have hij:i≠j:=by
   intro e
   subst e
   obtain ⟨hx1,hx2⟩:=ko.1 hi1
   obtain ⟨hy1,hy2⟩:=ko.1 hj1
   exact (List.pairwise_iff_getElem.1 hi x y hx1 hy1 hxy) (by rw [hx2,hy2])
  obtain ⟨hi3,hi4⟩:=ko.1 hi2
  obtain ⟨hj3,hj4⟩:=ko.1 hj2
  rcases Nat.lt_or_ge i j with hlt|hge
  ·rw [<- hi4,<- hj4];exact List.pairwise_iff_getElem.1 hnd.1 i j hi3 hj3 hlt
  ·rw [<- hi4,<- hj4];exact Ne.symm (List.pairwise_iff_getElem.1 hnd.1 j i hj3 hi3 O)
 ·obtain ⟨j,hj⟩:=List.getElem?_of_mem hp
  obtain ⟨i,_,hi2⟩:=hget j p hj
  exact hnd.2.2 p (lV hi2) q hq
def GH.add (G:GH) (b:Nat) (o:Obj):GH:=fun k=>if k=b then some o else G k
theorem GH.Ju (G:GH) {b:Nat} {o:Obj} (hn:G b=none) (k:Nat) (o':Obj) (h:G k=some o'):(G.add b o) k=some o':=by
 unfold GH.add;rw [av (fun e=>by subst e;rw [hn] at h;cases h)];exact h
theorem GH.Jv (G:GH) (b:Nat) (o:Obj):(G.add b o) b=some o:=by simp [GH.add]
theorem Hp.giveUp (h:Hp w0 F G0 G L w) (i:Nat) (hi:L[i]?=some (b,o)):Hp w0 F G0 (G.add b o) (L.eraseIdx i) w:=by
 have hm:(b,o)∈L:=lV hi
 have hsub:(L.eraseIdx i).Sublist L:=List.eraseIdx_sublist L i
 have hne:∀ p∈L.eraseIdx i,p.1≠b:=by
  intro p hp e
  have h1:=Ze h.nd hi (hsub.subset hp) e
  subst h1
  obtain ⟨j,hj,hjp⟩:=List.mem_eraseIdx_iff_getElem?.1 hp
  have hnd:=h.nd
  have hij:j≠i:=hj
  have hlt1:j < L.length:=(ko.1 hjp).1
  have hlt2:i < L.length:=(ko.1 hi).1
  have e1:=(ko.1 hjp).2
  have e2:=(ko.1 hi).2
  rcases Nat.lt_or_ge j i with hlt|hge
  ·exact (List.pairwise_iff_getElem.1 hnd j i hlt1 hlt2 hlt) (by rw [e1,e2])
  ·exact (List.pairwise_iff_getElem.1 hnd i j hlt2 hlt1 O) (by rw [e1,e2])
 refine ⟨h.os,h.tape,h.output,h.size,h.wQ,h.fr,fun k o' hk=>?_,fun k o' hk=>GH.Ju G (h.vB _ hm) k o' (h.gm k o' hk),fun k o' hk=>?_,fun p hp=>h.own p (hsub.subset hp),fun p hp=>?_,fun p hp=>h.vw p (hsub.subset hp),h.nd.sublist hsub⟩
 ·unfold GH.add at hk
  split at hk
  ·rename_i e;subst e;cases hk;exact h.own _ hm
  ·exact h.ro k o' hk
 ·unfold GH.add at hk
  split at hk
  ·rename_i e;subst e;exact .inr (h.vw _ hm)
  ·exact h.gx k o' hk
 ·unfold GH.add
  rw [av (hne p hp)]
  exact h.vB p (hsub.subset hp)
theorem St.ev (h:St N D w0 F G0 G L T a w) {x:Operand} {v:ah} (hx:Proofs.YtdiflmikikiedaaGreat.ev T x=some v):a.eval x=v:=by
 cases x with
 | tmp t =>
  have:=h.get t v hx
  simp only [Act.eval,Array.getD_eq_getD_getElem?,this,Option.getD_some]
 | const u=>simp only [Proofs.YtdiflmikikiedaaGreat.ev,pO] at hx;subst hx;rfl
 | global g=>simpa [Proofs.YtdiflmikikiedaaGreat.ev,Act.eval] using hx
 | func f=>simpa [Proofs.YtdiflmikikiedaaGreat.ev,Act.eval] using hx
theorem St.evs (h:St N D w0 F G0 G L T a w):∀ {xs:List Operand} {vs:List ah},Proofs.YtdiflmikikiedaaGreat.evs T xs=some vs->xs.map a.eval=vs
 | [],vs,hx=>by simp [Proofs.YtdiflmikikiedaaGreat.evs] at hx;subst hx;rfl
 | x :: xs,vs,hx=>by
  unfold Proofs.YtdiflmikikiedaaGreat.evs at hx
  split at hx
  ·rename_i v vs' h1 h2
   simp only [pO] at hx
   subst hx
   rw [fD,h.ev h1,h.evs h2]
  ·cases hx
theorem St.put (h:St N D w0 F G0 G L T a w) {d:Nat} (hd:Nat.blt d N=true) (v:ah) (H':Hp w0 F G0 G' L' w'):St N D w0 F G0 G' L' ((d,v) :: T) (a.put (some d) v) w':=by
 have hlt:d < a.tmps.size:=by rw [h.oP];exact Eq.mp Nat.blt_eq hd
 refine ⟨by simp [Act.put,h.oP],fun t u ht=>?_,h.uU,H'⟩
 simp only [Act.put,Array.getElem?_setIfInBounds]
 by_cases e:d=t
 ·subst e
  rw [yg] at ht
  simp [hlt];simpa using ht
 ·rw [wW e] at ht
  simp [e];exact h.get t u ht
theorem St.move (h:St N D w0 F G0 G L T a w) (H':Hp w0 F G0 G' L' w'):St N D w0 F G0 G' L' T a w':=⟨h.oP,h.get,h.uU,H'⟩
def Z6 (T:List (Nat × ah)):List (Nat × ah)->Prop
 | []=>True
 | (t,v) :: r=>lk T t=some v∧Z6 T r
theorem ajP {T:List (Nat × ah)}:∀ {T':List (Nat × ah)},Z6 T T'->∀ {t v},lk T' t=some v->lk T t=some v
 | [],_,_,_,h=>by simp [lk] at h
 | (s,u) :: r,hs,t,v,h=>by
  by_cases e:s=t
  ·subst e;rw [yg] at h;exact h ▸ hs.1
  ·rw [wW e] at h;exact ajP hs.2 h
theorem St.sub (h:St N D w0 F G0 G L T a w) {T':List (Nat × ah)} (hs:Z6 T T'):St N D w0 F G0 G L T' a w:=⟨h.oP,fun t v ht=>h.get t v (ajP hs ht),h.uU,h.hp⟩
theorem St.fH {Pl eD Lo:List (Nat × Obj)} (h:St N D w0 F G0 G (Pl++Lo) T a w) (idx:List Nat) (hi:idx.Nodup) (hL:idx.map (fun i=>Pl[i]?)=eD.map some):St N D w0 F G0 G (eD++Lo) T a w:=⟨h.oP,h.get,h.uU,h.hp.fH idx hi hL⟩
end
end
section
section base
variable {r:Option Nat} {P:Program} {ops:Array Oper} {Q:Exit->Act->World->Prop} {rest:List Oper} {a:Act} {w w':World} {o:Oper}
def SE:Op->Bool
 | .defer _=>false
 | _=>true
theorem ZO {o:Oper} {ro:Option Nat} {ρ:Operand->ah} (h:SE o.op=true):o.semAt ro ρ=execOp ρ o :=
 Oper.semAt_eq ro ρ o fun c e=>by rw [e] at h;cases h
theorem aG (h:Q .normal a w):WL r P ops Q [] a w:=wpListIn_nil h
theorem aap (hw:Region.wanted o (yielded ops a.tmps)=true) (h:o.wpIn (FW r) 0 P a w (WL r P ops Q rest) Q):WL r P ops Q (o :: rest) a w:=by
 show wpListIn (FW r) 0 P ops Q (o :: rest) a w
 unfold wpListIn
 rw [aD hw]
 exact h
theorem akx (hw:Region.wanted o (yielded ops a.tmps)=false) (h:WL r P ops Q rest (a.put o.dst undef) w):WL r P ops Q (o :: rest) a w:=by
 show wpListIn (FW r) 0 P ops Q (o :: rest) a w
 unfold wpListIn
 rw [av (by simp [hw])]
 exact ⟨fun _ _=>trivial,h⟩
theorem fQ {v:ah} (hw:Region.wanted o (yielded ops a.tmps)=true) (hd:SE o.op=true) (h:(execOp a.eval o).run P w=.ok (.value v) w')
  (k:WL r P ops Q rest (a.put o.dst v) w'):WL r P ops Q (o :: rest) a w:=by
 refine aap hw ⟨fun _ _=>trivial,?_⟩
 rw [ZO hd,h]
 exact k
theorem aaq (hw:Region.wanted o (yielded ops a.tmps)=true) (hd:SE o.op=true) (h:(execOp a.eval o).run P w=.ok .skip w')
  (k:WL r P ops Q rest (a.put o.dst undef) w'):WL r P ops Q (o :: rest) a w:=by
 refine aap hw ⟨fun _ _=>trivial,?_⟩
 rw [ZO hd,h]
 exact k
def After (P:Program) (nx:Result Next) (R:Ending->World->Prop):Prop :=
 match nx with
 | .ok (.enter f args) w'=>Calls P f args w' R
 | .ok (.round l f tmps assign body) w'=>RoundIn (FW none) 0 P l f tmps assign body w' R
 | _=>False
structure sJ (P:Program) (fv:ah) (args:List ah) (w:World) (R:Ending->World->Prop):Prop where
 go:After P ((do let d <- Deferred.ofValue fv args.toArray;invoke d.target d.args:Sem Next).run P w) R
theorem aao {nx:Result Next} {R:Ending->World->Prop} (hw:Region.wanted o (yielded ops a.tmps)=true) (hd:SE o.op=true) (h:(execOp a.eval o).run P w=nx) (hc:After P nx R)
  (k:∀ e w',R e w'->∃ v,e=.returned v∧WL r P ops Q rest (a.put o.dst v) w'):WL r P ops Q (o :: rest) a w:=by
 refine aap hw ⟨fun _ _=>trivial,?_⟩
 rw [ZO hd,h]
 cases nx with
 | halt x y=>exact hc.elim
 | ok x w1 =>
  cases x with
  | enter f args =>
   refine ⟨PO r,(VU hc).mono fun e w2 hR=>?_⟩
   obtain ⟨v,rfl,hk⟩:=k e w2 hR
   exact hk
  | round l f tmps assign body =>
   have hc':RoundIn (FW none) 0 P l f tmps assign body w1 R:=hc
   refine ⟨PO r,?_⟩
   have h2:RoundIn (FW r) (0 - 1) P l f tmps assign body w1 R:=⟨aB,fun c cs hr=>hc'.2 c cs (room_wide _)⟩
   exact h2.mono fun e w2 hR=>by obtain ⟨v,rfl,hk⟩:=k e w2 hR;exact hk
  | _=>exact hc.elim
end base
section steps
variable {N:Nat} {D:List Deferred} {w0:World} {F:Nat->Prop} {G0 G:GH} {L:List (Nat × Obj)} {T:List (Nat × ah)}
variable {r:Option Nat} {P:Program} {ops:Array Oper} {Q:Exit->Act->World->Prop} {rest:List Oper} {a:Act} {w:World}
variable {d:Nat} {ty:TypeId} {pos:String} {aQ:Array Edge} {g:Option (Nat × Bool)}
theorem wn {op:Op} {dst:Option Tmp} {y:Nat->Option Bool}:Region.wanted ⟨dst,op,ty,pos,aQ,none⟩ y=true:=rfl
theorem akz (H:St N D w0 F G0 G L T a w) {j t:Nat} {b:Bool} (hj:(ops[j]?).bind (·.dst)=some t) (ht:lk T t=some (.bool b)):yielded ops a.tmps j=some b:=by
 unfold yielded
 rw [hj]
 simp [H.get t _ ht]
theorem wg (H:St N D w0 F G0 G L T a w) {op:Op} {dst:Option Tmp} {j t:Nat} {want b:Bool} (hj:(ops[j]?).bind (·.dst)=some t) (ht:lk T t=some (.bool b)) (hb:b=want) :
  Region.wanted ⟨dst,op,ty,pos,aQ,some (j,want)⟩ (yielded ops a.tmps)=true:=by
 simp [Region.wanted,akz H hj ht,hb]
theorem aju (H:St N D w0 F G0 G L T a w) {op:Op} {j t:Nat} {want b:Bool} (hj:(ops[j]?).bind (·.dst)=some t) (ht:lk T t=some (.bool b)) (hb:b=!want) (hd:Nat.blt d N=true)
  (k:∀ a',St N D w0 F G0 G L ((d,undef) :: T) a' w->WL r P ops Q rest a' w):WL r P ops Q (⟨some d,op,ty,pos,aQ,some (j,want)⟩ :: rest) a w:=by
 refine akx ?_ (k _ (H.put hd undef H.hp))
 simp only [Region.wanted,akz H hj ht,hb]
 cases want <;> rfl
theorem azp (H:St N D w0 F G0 G L T a w) {op:Op} {j t:Nat} {want:Bool} (hj:(ops[j]?).bind (·.dst)=some t) (ht:lk T t=some undef) (hd:Nat.blt d N=true)
  (k:∀ a',St N D w0 F G0 G L ((d,undef) :: T) a' w->WL r P ops Q rest a' w):WL r P ops Q (⟨some d,op,ty,pos,aQ,some (j,want)⟩ :: rest) a w:=by
 refine akx ?_ (k _ (H.put hd undef H.hp))
 have h:yielded ops a.tmps j=none:=by
  unfold yielded
  rw [hj]
  simp [H.get t _ ht,undef]
 simp only [Region.wanted,h]
 cases want <;> rfl
theorem ZM (_H:St N D w0 F G0 G L T a w) (t:Nat) {b:Bool} {X:Prop} (_ht:lk T t=some (.bool b)) (h1:b=true->X) (h0:b=false->X):X:=by cases b <;> simp_all
theorem LM {x:Operand} {v:ah} (H:St N D w0 F G0 G L T a w) (hw:Region.wanted ⟨some d,.move x,ty,pos,aQ,g⟩ (yielded ops a.tmps)=true) (hx:ev T x=some v) (hd:Nat.blt d N=true)
  (k:∀ a',St N D w0 F G0 G L ((d,v) :: T) a' w->WL r P ops Q rest a' w):WL r P ops Q (⟨some d,.move x,ty,pos,aQ,g⟩ :: rest) a w :=
 fQ (v:=v) (w':=w) hw M (by simp [execOp,H.ev hx]) (k _ (H.put hd v H.hp))
theorem aza {x:Operand} {v:ah} (H:St N D w0 F G0 G L T a w) (hw:Region.wanted ⟨some d,.assign x,ty,pos,aQ,g⟩ (yielded ops a.tmps)=true) (hx:ev T x=some v) (hd:Nat.blt d N=true)
  (k:∀ a',St N D w0 F G0 G L ((d,v) :: T) a' w->WL r P ops Q rest a' w):WL r P ops Q (⟨some d,.assign x,ty,pos,aQ,g⟩ :: rest) a w :=
 fQ (v:=v) (w':=w) hw M (by simp [execOp,H.ev hx]) (k _ (H.put hd v H.hp))
theorem OQ {c x y:Operand} {b:Bool} {v:ah} (H:St N D w0 F G0 G L T a w) (hw:Region.wanted ⟨some d,.pick c x y,ty,pos,aQ,g⟩ (yielded ops a.tmps)=true) (hc:ev T c=some (.bool b)) (hb:b=true) (hx:ev T x=some v) (hd:Nat.blt d N=true)
  (k:∀ a',St N D w0 F G0 G L ((d,v) :: T) a' w->WL r P ops Q rest a' w):WL r P ops Q (⟨some d,.pick c x y,ty,pos,aQ,g⟩ :: rest) a w :=
 fQ (v:=v) (w':=w) hw M (by simp [execOp,H.ev hx,H.ev hc,asBool,hb]) (k _ (H.put hd v H.hp))
theorem TM {c x y:Operand} {b:Bool} {v:ah} (H:St N D w0 F G0 G L T a w) (hw:Region.wanted ⟨some d,.pick c x y,ty,pos,aQ,g⟩ (yielded ops a.tmps)=true) (hc:ev T c=some (.bool b)) (hb:b=false) (hx:ev T y=some v) (hd:Nat.blt d N=true)
  (k:∀ a',St N D w0 F G0 G L ((d,v) :: T) a' w->WL r P ops Q rest a' w):WL r P ops Q (⟨some d,.pick c x y,ty,pos,aQ,g⟩ :: rest) a w :=
 fQ (v:=v) (w':=w) hw M (by simp [execOp,H.ev hx,H.ev hc,asBool,hb]) (k _ (H.put hd v H.hp))
class Und (P:Program) (t:TypeId) (d:outParam TypeDesc):Prop where
 h:P.underlying t=some d
class Ty (P:Program) (t:TypeId) (sz bytes:outParam Nat) (zero:outParam (List ah)) (agg:outParam Bool):Prop where
 info:(P.info? t).map (fun i=>(i.size,i.bytes,i.zero.map fun z=>z.cells.toList))=some (sz,bytes,some zero)
 ag:(P.underlying t).map (fun|.struct _=>true|.array _ _=>true|_=>false)=some agg
theorem Ty.parts {t:TypeId} {sz bytes:Nat} {zero:List ah} {agg:Bool} (h:Ty P t sz bytes zero agg):∃ i z,P.info? t=some i∧i.size=sz∧i.bytes=bytes∧i.zero=some z∧z.cells=zero.toArray:=by
 obtain ⟨i,hi,hx⟩:=qD.1 h.info
 simp only [iQ] at hx
 obtain ⟨z,hz,hzz⟩:=qD.1 hx.2.2
 exact ⟨i,z,hi,hx.1,hx.2.1,hz,by rw [<- hzz]⟩
theorem FL {t:TypeId} {i:TypeInfo} (h:P.info? t=some i) (w:World):(typeInfo t).run P w=.ok i w:=by simp [typeInfo,program,Sem.run,dU,h]
theorem Ty.zY {t:TypeId} {sz bytes:Nat} {zero:List ah} {agg:Bool} (h:Ty P t sz bytes zero agg) (w:World):(sizeOf t).run P w=.ok sz w:=by
 obtain ⟨i,z,hi,h1,-,-,-⟩:=h.parts
 simp [sizeOf,dU,FL hi,h1]
theorem Ty.ajl {t:TypeId} {sz bytes:Nat} {zero:List ah} {agg:Bool} (h:Ty P t sz bytes zero agg) (w:World):∃ z,(zeroValue t).run P w=.ok z w∧z.cells=zero.toArray:=by
 obtain ⟨i,z,hi,-,-,h1,h2⟩:=h.parts
 exact ⟨z,by simp [zeroValue,dU,FL hi,h1],h2⟩
theorem nZ {t:TypeId} {u:TypeDesc} (h:P.underlying t=some u) (w:World):(underlying t).run P w=.ok u w:=by simp [underlying,program,Sem.run,dU,h]
theorem Ty.TF {t:TypeId} {sz bytes:Nat} {zero:List ah} {agg:Bool} (h:Ty P t sz bytes zero agg) (w:World):(isAgg t).run P w=.ok agg w:=by
 obtain ⟨u,hu,hx⟩:=qD.1 h.ag
 unfold isAgg
 simp only [dU,nZ hu,nS]
 cases u <;> simp_all
theorem dJ {elem:TypeId} {sz bytes:Nat} {zero:List ah} {agg:Bool} (ht:Ty P elem sz bytes zero agg) (H:St N D w0 F G0 G L T a w) (hw:Region.wanted ⟨some d,.alloc elem,ty,pos,aQ,g⟩ (yielded ops a.tmps)=true) (hd:Nat.blt d N=true)
  (k:∀ b a' w',w0.heap.size<=b->St N D w0 F G0 G ((b,.cells zero.toArray elem (0,0)) :: L) ((d,.pointer (some ⟨b,0,none⟩)) :: T) a' w'->WL r P ops Q rest a' w'):WL r P ops Q (⟨some d,.alloc elem,ty,pos,aQ,g⟩ :: rest) a w:=by
 obtain ⟨z,hz,hzc⟩:=ht.ajl w
 refine fQ (v:=.pointer (some ⟨w.heap.size,0,none⟩)) (w':=w.alloc (.cells zero.toArray elem (0,0))) hw M ?_ (k _ _ _ H.hp.size (H.put hd _ (H.hp.alloc _)))
 simp [execOp,Instr.alloc,dU,hz,newVar,newRow,newObj,Sem.run,hzc]
theorem dR {elem:TypeId} {x:Operand} {v:ah} {cs:List ah} (H:St N D w0 F G0 G L T a w) (hw:Region.wanted ⟨some d,.box elem x,ty,pos,aQ,g⟩ (yielded ops a.tmps)=true) (hx:ev T x=some v) (hc:v.cells=cs.toArray) (hd:Nat.blt d N=true)
  (k:∀ b a' w',w0.heap.size<=b->St N D w0 F G0 G ((b,.cells cs.toArray elem (0,0)) :: L) ((d,.pointer (some ⟨b,0,none⟩)) :: T) a' w'->WL r P ops Q rest a' w'):WL r P ops Q (⟨some d,.box elem x,ty,pos,aQ,g⟩ :: rest) a w:=by
 refine fQ (v:=.pointer (some ⟨w.heap.size,0,none⟩)) (w':=w.alloc (.cells cs.toArray elem (0,0))) hw M ?_ (k _ _ _ H.hp.size (H.put hd _ (H.hp.alloc _)))
 simp [execOp,Instr.box,dU,newVar,newRow,newObj,Sem.run,H.ev hx,hc]
def aH (G:GH) (b o:Nat):Option ah:=match G b with|some (.cells c _ _)=>c[o]?|_=>none
theorem Hp.aH (h:Hp w0 F G0 G L w) {b o:Nat} {v:ah} (hg:Proofs.YtdiflmikikiedaaGreat.aH G b o=some v):w.cell? ⟨b,o,none⟩=some v:=by
 unfold Proofs.YtdiflmikikiedaaGreat.aH at hg
 split at hg
 ·rename_i c e f he
  simp only [World.cell?,h.ro b _ he]
  exact hg
 ·cases hg
theorem Hp.yu (h:Hp w0 F G0 G L w) (i:Nat) {b o:Nat} {c:Array ah} {e:TypeId} {fz:Nat × Nat} {v:ah} (hi:L[i]?=some (b,.cells c e fz)) (hv:c[o]?=some v):w.cell? ⟨b,o,none⟩=some v:=by
 have:=h.own _ (lV hi)
 simp only [World.cell?] at *
 rw [this]
 exact hv
theorem add_lit (b o n:Nat):(⟨b,o,none⟩:Addr).add n=⟨b,o+n,none⟩:=by
 unfold Addr.add
 split
 ·rename_i h;subst h;rfl
 ·rfl
theorem ZC {b o:Nat} {v:ah} (h:w.cell? ⟨b,o,none⟩=some v):(load ⟨b,o,none⟩).run P w=.ok v w:=by simp [load,Sem.run,h]
theorem run_loadCells (b:Nat) (w:World):∀ (cs:List ah) (o i:Nat) (acc:Array ah),(∀ j v,cs[j]?=some v->w.cell? ⟨b,o+i+j,none⟩=some v) ->
  (loadCellsFrom ⟨b,o,none⟩ i cs.length acc).run P w=.ok (acc++cs.toArray) w
 | [],o,i,acc,_=>by simp [loadCellsFrom,Sem.run]
 | c :: cs,o,i,acc,h=>by
  have h0:=h 0 c M
  have ih:=run_loadCells b w cs o (i+1) (acc.push c) (fun j v hj=>by have:=h (j+1) v (by simpa using hj);rw [<- this];congr 2;omega)
  simp only [loadCellsFrom,lW,dU,add_lit,ZC (P:=P) (by simpa using h0),nS,ih]
  congr 1
  apply Array.ext'
  simp
theorem rG {t:TypeId} {sz bytes:Nat} {zero:List ah} (ht:Ty P t sz bytes zero false) {x:Operand} {b o:Nat} {v:ah} (H:St N D w0 F G0 G L T a w) (hw:Region.wanted ⟨some d,.load t x,ty,pos,aQ,g⟩ (yielded ops a.tmps)=true)
  (hx:ev T x=some (.pointer (some ⟨b,o,none⟩))) (hc:w.cell? ⟨b,o,none⟩=some v) (hd:Nat.blt d N=true)
  (k:∀ a',St N D w0 F G0 G L ((d,v) :: T) a' w->WL r P ops Q rest a' w):WL r P ops Q (⟨some d,.load t x,ty,pos,aQ,g⟩ :: rest) a w:=by
 refine fQ (v:=v) (w':=w) hw M ?_ (k _ (H.put hd v H.hp))
 simp only [execOp,Instr.loadAt,Instr.sureAddr,loadVar,dU,H.ev hx,ht.TF,nS,uf,ug,if_false,ZC hc]
theorem aU {t:TypeId} {sz bytes:Nat} {zero:List ah} (ht:Ty P t sz bytes zero true) {x:Operand} {b o:Nat} {cs:List ah} (H:St N D w0 F G0 G L T a w) (hw:Region.wanted ⟨some d,.load t x,ty,pos,aQ,g⟩ (yielded ops a.tmps)=true)
  (hx:ev T x=some (.pointer (some ⟨b,o,none⟩))) (hl:cs.length=sz) (hc:∀ j v,cs[j]?=some v->w.cell? ⟨b,o+j,none⟩=some v) (hd:Nat.blt d N=true)
  (k:∀ a',St N D w0 F G0 G L ((d,.agg cs.toArray) :: T) a' w->WL r P ops Q rest a' w):WL r P ops Q (⟨some d,.load t x,ty,pos,aQ,g⟩ :: rest) a w:=by
 refine fQ (v:=.agg cs.toArray) (w':=w) hw M ?_ (k _ (H.put hd _ H.hp))
 have h1:=run_loadCells (P:=P) b w cs o 0 #[] (fun j v hj=>by simpa using hc j v hj)
 simp only [Array.empty_append,hl] at h1
 simp [execOp,Instr.loadAt,Instr.sureAddr,loadVar,dU,H.ev hx,ht.TF,ht.zY,loadCells,h1]
theorem Hp.cB (h:Hp w0 F G0 G L w) (i:Nat) {b o:Nat} {c:List ah} {e:TypeId} {fz:Nat × Nat} {cs:List ah} (hi:L[i]?=some (b,.cells c.toArray e fz)) (hv:(c.drop o).take cs.length=cs):∀ j v,cs[j]?=some v->w.cell? ⟨b,o+j,none⟩=some v:=by
 intro j v hj
 refine h.yu i hi ?_
 rw [<- hv,uN] at hj
 split at hj
 ·rw [List.getElem?_drop] at hj
  simpa using hj
 ·cases hj
theorem aAW {b o:Nat} {c:Array ah} {e:TypeId} {fz:Nat × Nat} (h:w.heap[b]?=some (.cells c e fz)) (v:ah):wG b (.cells (c.setIfInBounds o v) e fz) w (w.setCell ⟨b,o,none⟩ v):=by
 refine ⟨M,M,M,by simp,?_,fun k hk=>Below.heap_setCell w _ v k hk⟩
 simp [World.setCell,Array.getElem?_modify,h]
theorem wG.trans {b:Nat} {o1 o2:Obj} {w1 w2 w3:World} (h:wG b o1 w1 w2) (k:wG b o2 w2 w3):wG b o2 w1 w3 :=
 ⟨k.os.trans h.os,k.tape.trans h.tape,k.output.trans h.output,k.size.trans h.size,k.this,fun j hj=>(k.others j hj).trans (h.others j hj)⟩
theorem wG.refl {b:Nat} {o:Obj} {w:World} (h:w.heap[b]?=some o):wG b o w w:=⟨M,M,M,M,h,fun _ _=>rfl⟩
def oneCell':ah->Bool
 | .agg _|.tuple _=>false
 | _=>true
def setRow (c:List ah):Nat->List ah->List ah
 | _,[]=>c
 | o,v :: vs=>setRow (c.set o v) (o+1) vs
theorem ayT {b o:Nat} {c:Array ah} {e:TypeId} {v:ah} (hb:w.heap[b]?=some (.cells c e (0,0))) (ho:o < c.size) (hv:oneCell' v=true) :
  (store ⟨b,o,none⟩ v).run P w=.ok () (w.setCell ⟨b,o,none⟩ v):=by
 have h1:w.cell? ⟨b,o,none⟩=some c[o]:=by simp [World.cell?,hb,ho]
 have h2:w.frozen? ⟨b,o,none⟩=false:=by simp [World.frozen?,hb]
 unfold store
 cases v <;> first|(simp [oneCell'] at hv;done)|(simp only [Sem.run,h1,h2];rfl)
theorem ZE (b:Nat) (e:TypeId) (o0:Nat):∀ (vs:List ah) (i:Nat) (c:List ah) (w:World),w.heap[b]?=some (.cells c.toArray e (0,0))->o0+i+vs.length<=c.length->(∀ v∈vs,oneCell' v=true) ->
  ∃ w',(storeCells ⟨b,o0,none⟩ vs i).run P w=.ok () w'∧wG b (.cells (setRow c (o0+i) vs).toArray e (0,0)) w w'
 | [],i,c,w,hb,_,_=>⟨w,by simp [storeCells,Sem.run],wG.refl hb⟩
 | v :: vs,i,c,w,hb,hl,hv=>by
  simp only [lW] at hl
  have hr:=ayT (P:=P) (o:=o0+i) (v:=v) hb (by simp;omega) (hv v (by simp))
  have hu:=aAW (o:=o0+i) hb v
  have hb':=hu.this
  simp only [List.setIfInBounds_toArray] at hb' hu
  obtain ⟨w2,h2,u2⟩:=ZE b e o0 vs (i+1) (c.set (o0+i) v) _ hb' (by simp;omega) (fun u hu=>hv u (by simp [hu]))
  refine ⟨w2,?_,?_⟩
  ·simp only [storeCells,dU,add_lit,hr,nS,h2]
  ·exact hu.trans u2
theorem LQ {t:TypeId} {sz bytes:Nat} {zero:List ah} {agg:Bool} (ht:Ty P t sz bytes zero agg) {x y:Operand} (i:Nat) {b o:Nat} {c:List ah} {e:TypeId} {v:ah} {vs:List ah} (c':List ah) (H:St N D w0 F G0 G L T a w) (hw:Region.wanted ⟨none,.store t x y,ty,pos,aQ,g⟩ (yielded ops a.tmps)=true)
  (hx:ev T x=some (.pointer (some ⟨b,o,none⟩))) (hi:L[i]?=some (b,.cells c.toArray e (0,0))) (hy:ev T y=some v) (hvs:v.cells=vs.toArray) (hl:Nat.beq vs.length sz=true) (h1:vs.all oneCell'=true) (hle:Nat.ble (o+vs.length) c.length=true) (hset:setRow c o vs=c')
  (k:∀ w',St N D w0 F G0 G (L.set i (b,.cells c'.toArray e (0,0))) T a w'->WL r P ops Q rest a w'):WL r P ops Q (⟨none,.store t x y,ty,pos,aQ,g⟩ :: rest) a w:=by
 have hb:=H.hp.own _ (lV hi)
 obtain ⟨w2,h2,u2⟩:=ZE (P:=P) b e o vs 0 c w hb (by simpa using Nat.le_of_ble_eq_true hle) (fun u hu=>jE.1 h1 u hu)
 simp only [zF,hset] at u2
 refine aaq (w':=w2) hw M ?_ (k w2 (H.move (H.hp.upd hi u2)))
 have hl':vs.length=sz:=BS hl
 simp [execOp,Instr.storeAt,Instr.sureAddr,storeVar,dU,H.ev hx,H.ev hy,ht.zY,hvs,hl',h2]
class dP (P:Program) (s n:Nat) (off:outParam Nat):Prop where
 h:(match P.underlying s with|some (.struct fs)=>(fs[n]?).bind fun f=>(P.info? f.type).map fun i=>(f.offset,i.size == 0)|_=>none)=some (off,false)
theorem dP.parts {s n off:Nat} (h:dP P s n off):∃ fs fl i,P.underlying s=some (.struct fs)∧fs[n]?=some fl∧P.info? fl.type=some i∧fl.offset=off∧i.size≠0:=by
 obtain ⟨h⟩:=h
 split at h
 ·rename_i fs hs
  obtain ⟨fl,hf,h2⟩:=Option.bind_eq_some_iff.1 h
  obtain ⟨i,hi,h3⟩:=qD.1 h2
  simp only [iQ,beq_eq_false_iff_ne] at h3
  exact ⟨fs,fl,i,hs,hf,hi,h3.1,h3.2⟩
 ·cases h
theorem LK {s:TypeId} {x:Operand} {n b o off:Nat} (hs:dP P s n off) (H:St N D w0 F G0 G L T a w) (hw:Region.wanted ⟨some d,.fieldAddr s x n,ty,pos,aQ,g⟩ (yielded ops a.tmps)=true)
  (hx:ev T x=some (.pointer (some ⟨b,o,none⟩))) (hd:Nat.blt d N=true)
  (k:∀ a',St N D w0 F G0 G L ((d,.pointer (some ⟨b,o+off,none⟩)) :: T) a' w->WL r P ops Q rest a' w):WL r P ops Q (⟨some d,.fieldAddr s x n,ty,pos,aQ,g⟩ :: rest) a w:=by
 obtain ⟨fs,fl,i,h1,h2,h3,h4,h5⟩:=hs.parts
 refine fQ (v:=.pointer (some ⟨b,o+off,none⟩)) (w':=w) hw M ?_ (k _ (H.put hd _ H.hp))
 simp only [execOp,Instr.fieldAt,Instr.sureAddr,dU,H.ev hx,nZ h1,h2,nS,uf,fieldPlace,sizeOf,FL h3,av h5,add_lit,h4]
theorem zZ {s e:TypeId} {sz bytes:Nat} {zero:List ah} {agg:Bool} (hs:P.underlying s=some (.slice e)) (ht:Ty P e sz bytes zero agg) {x y:Operand} {b o n c:Nat} {kd:IntKind} {z:Int} (i:Nat) (H:St N D w0 F G0 G L T a w) (hw:Region.wanted ⟨some d,.indexAddr s x y,ty,pos,aQ,g⟩ (yielded ops a.tmps)=true)
  (hx:ev T x=some (.slice (some ⟨b,o,none⟩) n c)) (hy:ev T y=some (.int kd z)) (hz:z=(i:Int)) (hn:i < n) (hd:Nat.blt d N=true)
  (k:∀ a',St N D w0 F G0 G L ((d,.pointer (some ⟨b,o+i*sz,none⟩)) :: T) a' w->WL r P ops Q rest a' w):WL r P ops Q (⟨some d,.indexAddr s x y,ty,pos,aQ,g⟩ :: rest) a w:=by
 subst hz
 refine fQ (v:=.pointer (some ⟨b,o+i*sz,none⟩)) (w':=w) hw M ?_ (k _ (H.put hd _ H.hp))
 have hr:(0:Int)<=i∧(i:Int) < (n:Int):=by omega
 simp only [execOp,Instr.indexAt,asIntOf,dU,H.ev hx,H.ev hy,nZ hs,nS,uf,aD hr,ht.zY,add_lit,Int.toNat_natCast]
theorem lT {x:Operand} {n:Nat} {vs:List ah} {v:ah} (H:St N D w0 F G0 G L T a w) (hw:Region.wanted ⟨some d,.extract x n,ty,pos,aQ,g⟩ (yielded ops a.tmps)=true) (hx:ev T x=some (.tuple vs.toArray)) (hv:vs[n]?=some v) (hd:Nat.blt d N=true)
  (k:∀ a',St N D w0 F G0 G L ((d,v) :: T) a' w->WL r P ops Q rest a' w):WL r P ops Q (⟨some d,.extract x n,ty,pos,aQ,g⟩ :: rest) a w :=
 fQ (v:=v) (w':=w) hw M (by simp [execOp,Instr.extract,H.ev hx,hv]) (k _ (H.put hd _ H.hp))
theorem zm {x:Operand} {p:Addr} (H:St N D w0 F G0 G L T a w) (hw:Region.wanted ⟨some d,.nilCheck x,ty,pos,aQ,g⟩ (yielded ops a.tmps)=true) (hx:ev T x=some (.pointer (some p))) (hd:Nat.blt d N=true)
  (k:∀ a',St N D w0 F G0 G L ((d,.pointer (some p)) :: T) a' w->WL r P ops Q rest a' w):WL r P ops Q (⟨some d,.nilCheck x,ty,pos,aQ,g⟩ :: rest) a w :=
 fQ (v:=.pointer (some p)) (w':=w) hw M (by simp [execOp,H.ev hx]) (k _ (H.put hd _ H.hp))
theorem uJ {fn:Fn} {xs:List Operand} {vs:List ah} (H:St N D w0 F G0 G L T a w) (hw:Region.wanted ⟨some d,.makeFunc fn #[] xs.toArray,ty,pos,aQ,g⟩ (yielded ops a.tmps)=true) (hx:evs T xs=some vs) (hd:Nat.blt d N=true)
  (k:∀ a',St N D w0 F G0 G L ((d,.func fn #[] vs.toArray) :: T) a' w->WL r P ops Q rest a' w):WL r P ops Q (⟨some d,.makeFunc fn #[] xs.toArray,ty,pos,aQ,g⟩ :: rest) a w :=
 fQ (v:=.func fn #[] vs.toArray) (w':=w) hw M (by simp [execOp,Instr.makeFunc,H.evs hx]) (k _ (H.put hd _ H.hp))
def Cn (pl:List (Nat × Nat)):List ah->List (Nat × List ah)->Option (List ah)
 | c,[]=>some c
 | c,(i,vs) :: rest=>match pl[i]? with
  | none=>none
  | some (off,size)=>bif Nat.beq vs.length size && Nat.ble (off+vs.length) c.length then Cn pl (setRow c off vs) rest else none
theorem ZR:∀ (vs:List ah) (o:Nat) (c:List ah),(setRow c o vs).length=c.length
 | [],_,_=>rfl
 | v :: vs,o,c=>by simp [setRow,ZR vs]
theorem afI (off:Nat):∀ (vs:List ah) (j:Nat) (c:List ah),
  ((vs.zipIdx j).toArray).foldl (fun cs (x:ah × Nat)=>cs.setIfInBounds (off+x.2) x.1) c.toArray=(setRow c (off+j) vs).toArray
 | [],j,c=>by simp [setRow]
 | v :: vs,j,c=>by
  have ih:=afI off vs (j+1) (c.set (off+j) v)
  simp only [List.zipIdx_cons,List.foldl_toArray'] at *
  simp only [List.foldl_cons,List.setIfInBounds_toArray]
  exact ih
theorem fill_eq (place:Nat->Option (Nat × Nat)) (pl:List (Nat × Nat)) (hp:∀ i q,pl[i]?=some q->place i=some q):∀ (parts:List (Nat × ah)) (SK:List (Nat × List ah)) (c c':List ah),
  parts.map (fun x=>(x.1,x.2.cells.toList))=SK->Cn pl c SK=some c'->Instr.fill place c.toArray parts=some c'.toArray
 | [],SK,c,c',hm,h=>by subst hm;simp [Cn] at h;subst h;rfl
 | (i,v) :: parts,SK,c,c',hm,h=>by
  subst hm
  simp only [fD,Cn] at h
  split at h
  ·cases h
  ·rename_i off size hq
   cases hcond:(Nat.beq v.cells.toList.length size && Nat.ble (off+v.cells.toList.length) c.length) with
   | false=>rw [hcond] at h;cases h
   | true =>
    rw [hcond] at h
    simp only [iL] at hcond
    have e1:=BS hcond.1
    have e2:=Nat.le_of_ble_eq_true hcond.2
    have ih:=fill_eq place pl hp parts _ (setRow c off v.cells.toList) c' M h
    have hf:=afI off v.cells.toList 0 c
    simp only [zF] at hf
    simp only [vM] at e1 e2
    unfold Instr.fill
    rw [hp i _ hq]
    have hz:(v.cells.zipIdx:Array (ah × Nat))=((v.cells.toList.zipIdx 0).toArray):=by
     apply Array.ext';simp
    simp only [e1,ne_eq,not_true_eq_false,ug,decide_false,Bool.false_or,List.size_toArray]
    rw [av (by simp;omega),hz,hf]
    exact ih
structure qQ (P:Program) (t:TypeId) (pl:List (Nat × Nat)) (zero:List ah):Prop where
 h:(match P.underlying t with|some (.struct fs)=>some (fs.toList.map fun f=>(f.offset,(P.info? f.type).map (·.size)))|_=>none)=some (pl.map fun q=>(q.1,some q.2))
 z:(P.info? t).map (fun i=>i.zero.map fun z=>z.cells.toList)=some (some zero)
end steps
end
section
section steps
variable {N:Nat} {D:List Deferred} {w0:World} {F:Nat->Prop} {G0 G:GH} {L:List (Nat × Obj)} {T:List (Nat × ah)}
variable {r:Option Nat} {P:Program} {ops:Array Oper} {Q:Exit->Act->World->Prop} {rest:List Oper} {a:Act} {w:World}
variable {d:Nat} {ty:TypeId} {pos:String} {aQ:Array Edge} {g:Option (Nat × Bool)}
theorem qQ.parts {t:TypeId} {pl:List (Nat × Nat)} {zero:List ah} (h:qQ P t pl zero):∃ fs i z,P.underlying t=some (.struct fs)∧P.info? t=some i∧i.zero=some z∧z.cells=zero.toArray ∧
  fs.toList.map (fun f=>(f.offset,(P.info? f.type).map (·.size)))=pl.map fun q=>(q.1,some q.2):=by
 obtain ⟨h,hz⟩:=h
 obtain ⟨i,hi,hx⟩:=qD.1 hz
 obtain ⟨z,hz1,hz2⟩:=qD.1 hx
 split at h
 ·rename_i fs hs
  exact ⟨fs,i,z,hs,hi,hz1,by rw [<- hz2],by simpa using h⟩
 ·cases h
theorem ajj (w:World):∀ (fs:List Field) (pl:List (Nat × Nat)),fs.map (fun f=>(f.offset,(P.info? f.type).map (·.size)))=pl.map (fun q=>(q.1,some q.2)) ->
  (fs.mapM (fun f=>(do pure (f.offset,<- sizeOf f.type):Sem (Nat × Nat)))).run P w=.ok pl w
 | [],[],_=>by simp [Sem.run]
 | [],q :: pl,h=>by simp at h
 | f :: fs,[],h=>by simp at h
 | f :: fs,q :: pl,h=>by
  simp only [fD,List.cons.injEq,iQ] at h
  obtain ⟨⟨h1,h2⟩,h3⟩:=h
  obtain ⟨i,hi,hs⟩:=qD.1 h2
  have ih:=ajj w fs pl h3
  have hsz:(sizeOf f.type).run P w=.ok q.2 w:=by simp only [sizeOf,dU,FL hi,nS,uf,hs]
  simp only [List.mapM_cons,dU,hsz,nS,uf,ih,h1]
theorem run_build {t:TypeId} {pl:List (Nat × Nat)} {zero:List ah} (h:qQ P t pl zero) {parts:Array (Nat × ah)} {cs:List ah}
  (hf:Cn pl zero (parts.toList.map fun x=>(x.1,x.2.cells.toList))=some cs) (w:World):(Instr.build t parts).run P w=.ok (.agg cs.toArray) w:=by
 obtain ⟨fs,i,z,h1,h2,h3,h4,h5⟩:=h.parts
 have hm:=ajj (P:=P) w fs.toList pl h5
 have hm':(fs.mapM (fun f=>(do pure (f.offset,<- sizeOf f.type):Sem (Nat × Nat)))).run P w=.ok pl.toArray w:=by
  rw [Array.mapM_eq_mapM_toList]
  simp only [map_eq_pure_bind,dU,hm,nS,uf]
 have XQ:=fill_eq (fun i=>pl.toArray[i]?) pl (fun i q hq=>by simpa using hq) parts.toList _ zero cs M hf
 simp only [Instr.build,zeroValue,dU,FL h2,h3,nS,uf,h4,nZ h1,hm',XQ]
def pts (T:List (Nat × ah)):List (Nat × Operand)->Option (List (Nat × ah))
 | []=>some []
 | (i,x) :: q=>match ev T x,pts T q with|some v,some vs=>some ((i,v) :: vs)|_,_=>none
theorem St.pts (H:St N D w0 F G0 G L T a w):∀ {xs:List (Nat × Operand)} {vs:List (Nat × ah)},Proofs.YtdiflmikikiedaaGreat.pts T xs=some vs->xs.map (fun x=>(x.1,a.eval x.2))=vs
 | [],vs,hx=>by simp [Proofs.YtdiflmikikiedaaGreat.pts] at hx;subst hx;rfl
 | (i,x) :: xs,vs,hx=>by
  unfold Proofs.YtdiflmikikiedaaGreat.pts at hx
  split at hx
  ·rename_i v vs' h1 h2
   simp only [pO] at hx
   subst hx
   rw [fD,H.ev h1,H.pts h2]
  ·cases hx
theorem jU {t:TypeId} {pl:List (Nat × Nat)} {zero:List ah} (ht:qQ P t pl zero) {xs:List (Nat × Operand)} {vs:List (Nat × ah)} {vs':List (Nat × List ah)} (cs:List ah) (H:St N D w0 F G0 G L T a w) (hw:Region.wanted ⟨some d,.build t xs.toArray,ty,pos,aQ,g⟩ (yielded ops a.tmps)=true)
  (hx:pts T xs=some vs) (hv:vs.map (fun x=>(x.1,x.2.cells.toList))=vs') (hf:Cn pl zero vs'=some cs) (hd:Nat.blt d N=true)
  (k:∀ a',St N D w0 F G0 G L ((d,.agg cs.toArray) :: T) a' w->WL r P ops Q rest a' w):WL r P ops Q (⟨some d,.build t xs.toArray,ty,pos,aQ,g⟩ :: rest) a w:=by
 refine fQ (v:=.agg cs.toArray) (w':=w) hw M ?_ (k _ (H.put hd _ H.hp))
 have h1:=run_build ht (parts:=(vs.toArray)) (cs:=cs) (by simpa [hv] using hf) w
 simp only [execOp,List.map_toArray,H.pts hx,dU,h1,nS,uf]
theorem iC {t e:TypeId} {sz bytes:Nat} {zero:List ah} {agg:Bool} (hs:P.underlying t=some (.slice e)) (ht:Ty P e sz bytes zero agg) {n:Nat} {xs:List (Nat × Operand)} {vs:List (Nat × ah)} {vs':List (Nat × List ah)} (z:List ah) (cs:List ah) (H:St N D w0 F G0 G L T a w) (hw:Region.wanted ⟨some d,.buildSlice t n xs.toArray,ty,pos,aQ,g⟩ (yielded ops a.tmps)=true)
  (hx:pts T xs=some vs) (hv:vs.map (fun x=>(x.1,x.2.cells.toList))=vs') (hn:Nat.ble (n*sz) 1000=true) (hn0:Nat.beq (n*sz) 0=false) (hz:(List.range (n*sz)).map (fun i=>zero[i % zero.length]!)=z) (hpl:∀ i q,((List.range n).map fun i=>(i*sz,sz))[i]?=some q->(some (i*sz,sz):Option (Nat × Nat))=some q)
  (hf:Cn ((List.range n).map fun i=>(i*sz,sz)) z vs'=some cs) (hd:Nat.blt d N=true)
  (k:∀ b a' w',w0.heap.size<=b->St N D w0 F G0 G ((b,.cells cs.toArray e (0,0)) :: L) ((d,.slice (some ⟨b,0,none⟩) n n) :: T) a' w'->WL r P ops Q rest a' w'):WL r P ops Q (⟨some d,.buildSlice t n xs.toArray,ty,pos,aQ,g⟩ :: rest) a w:=by
 refine fQ (v:=.slice (some ⟨w.heap.size,0,none⟩) n n) (w':=w.alloc (.cells cs.toArray e (0,0))) hw M ?_ (k _ _ _ H.hp.size (H.put hd _ (H.hp.alloc _)))
 obtain ⟨z0,hz0,hzc⟩:=ht.ajl w
 have h16:¬ n*sz > 2 ^ 24:=by have:=Nat.le_of_ble_eq_true hn;simp;omega
 have h0:¬ n*sz=0:=by intro e;rw [e] at hn0;cases hn0
 have XQ:=fill_eq (fun i=>some (i*sz,sz)) _ hpl vs vs' z cs hv hf
 have hz':(Array.range (n*sz)).map (fun x=>zero.toArray[x % zero.toArray.size]!)=z.toArray:=by
  rw [<- hz];apply Array.ext';simp
 simp only [execOp,List.map_toArray,H.pts hx,Instr.buildSlice,dU,nZ hs,nS,ht.zY,av h16,av h0,hz0,hzc,uf,hz',XQ,newRow,newObj,Sem.run]
 rfl
theorem Ir {z:Int} (h1:-9223372036854775808<=z) (h2:z < 9223372036854775808):IntKind.i64.wrap z=z:=by
 unfold IntKind.wrap
 have e:(2:Int) ^ 64=18446744073709551616:=by decide
 have e':(2:Int) ^ (64 - 1)=9223372036854775808:=by decide
 simp only [IntKind.bits,IntKind.signed,MF,e,e',oM]
 split <;> omega
theorem OP {x y:Operand} {t yt:TypeId} {p q:Int} (z:Int) (H:St N D w0 F G0 G L T a w) (hw:Region.wanted ⟨some d,.binOp .add t x y yt,ty,pos,aQ,g⟩ (yielded ops a.tmps)=true) (hx:ev T x=some (.int .i64 p)) (hy:ev T y=some (.int .i64 q)) (hz:p+q=z) (h1:-9223372036854775808<=z) (h2:z < 9223372036854775808) (hd:Nat.blt d N=true)
  (k:∀ a',St N D w0 F G0 G L ((d,.int .i64 z) :: T) a' w->WL r P ops Q rest a' w):WL r P ops Q (⟨some d,.binOp .add t x y yt,ty,pos,aQ,g⟩ :: rest) a w :=
 fQ (v:=.int .i64 z) (w':=w) hw M (by simp [execOp,eqGuard,binOp,Op.intArith,H.ev hx,H.ev hy,dU,hz,Ir h1 h2]) (k _ (H.put hd _ H.hp))
theorem zo {x y:Operand} {t yt:TypeId} {p q:Int} (z:Int) (H:St N D w0 F G0 G L T a w) (hw:Region.wanted ⟨some d,.binOp .sub t x y yt,ty,pos,aQ,g⟩ (yielded ops a.tmps)=true) (hx:ev T x=some (.int .i64 p)) (hy:ev T y=some (.int .i64 q)) (hz:p - q=z) (h1:-9223372036854775808<=z) (h2:z < 9223372036854775808) (hd:Nat.blt d N=true)
  (k:∀ a',St N D w0 F G0 G L ((d,.int .i64 z) :: T) a' w->WL r P ops Q rest a' w):WL r P ops Q (⟨some d,.binOp .sub t x y yt,ty,pos,aQ,g⟩ :: rest) a w :=
 fQ (v:=.int .i64 z) (w':=w) hw M (by simp [execOp,eqGuard,binOp,Op.intArith,H.ev hx,H.ev hy,dU,hz,Ir h1 h2]) (k _ (H.put hd _ H.hp))
def M7:BinOp->Int->Int->Option Bool
 | .eql,x,y=>some (decide (x=y))
 | .neq,x,y=>some (decide (¬ x=y))
 | .lss,x,y=>some (decide (x < y))
 | .leq,x,y=>some (decide (x<=y))
 | .gtr,x,y=>some (decide (y < x))
 | .geq,x,y=>some (decide (y<=x))
 | _,_,_=>none
theorem ayP {op:BinOp} {kd:IntKind} {x y:Int} {b:Bool} (h:M7 op x y=some b) (t:TypeId) (X Y:Operand) (w:World):(do eqGuard op t X Y (.int kd x) (.int kd y);binOp op t (.int kd x) (.int kd y):Sem ah).run P w=.ok (.bool b) w:=by
 cases op <;> simp only [M7,pO,reduceCtorEq] at h <;> subst h <;> simp [eqGuard,binOp,Op.intCmp,dU]
 ·rfl
 ·rfl
theorem LJ {op:BinOp} {x y:Operand} {t yt:TypeId} {kd:IntKind} {p q:Int} {b:Bool} (H:St N D w0 F G0 G L T a w) (hw:Region.wanted ⟨some d,.binOp op t x y yt,ty,pos,aQ,g⟩ (yielded ops a.tmps)=true) (hx:ev T x=some (.int kd p)) (hy:ev T y=some (.int kd q)) (hb:M7 op p q=some b) (hd:Nat.blt d N=true)
  (k:∀ a',St N D w0 F G0 G L ((d,.bool b) :: T) a' w->WL r P ops Q rest a' w):WL r P ops Q (⟨some d,.binOp op t x y yt,ty,pos,aQ,g⟩ :: rest) a w:=by
 refine fQ (v:=.bool b) (w':=w) hw M ?_ (k _ (H.put hd _ H.hp))
 have h1:=ayP (P:=P) (kd:=kd) hb t x y w
 simp only [execOp,H.ev hx,H.ev hy]
 rw [dU,h1]
 rfl
theorem ajt {x:Operand} {t:TypeId} {b:Bool} (H:St N D w0 F G0 G L T a w) (hw:Region.wanted ⟨some d,.unOp .not t x,ty,pos,aQ,g⟩ (yielded ops a.tmps)=true) (hx:ev T x=some (.bool b)) (hd:Nat.blt d N=true)
  (k:∀ a',St N D w0 F G0 G L ((d,.bool (!b)) :: T) a' w->WL r P ops Q rest a' w):WL r P ops Q (⟨some d,.unOp .not t x,ty,pos,aQ,g⟩ :: rest) a w :=
 fQ (v:=.bool (!b)) (w':=w) hw M (by simp [execOp,Op.unary,H.ev hx,dU]) (k _ (H.put hd _ H.hp))
def xI (op:BinOp) (k:IntKind) (x y:Int):Int :=
 let a:=BitVec.ofInt k.bits x
 let b:=BitVec.ofInt k.bits y
 k.wrap (match op with|.and=>(a &&& b).toNat|.or=>(a ||| b).toNat|.xor=>(a ^^^ b).toNat|_=>(a &&& ~~~b).toNat)
theorem TI {op:BinOp} {x y:Operand} {t yt:TypeId} {kd:IntKind} {p q:Int} (hop:(match op with|.and|.or|.xor|.andNot=>true|_=>false)=true) (H:St N D w0 F G0 G L T a w) (hw:Region.wanted ⟨some d,.binOp op t x y yt,ty,pos,aQ,g⟩ (yielded ops a.tmps)=true) (hx:ev T x=some (.int kd p)) (hy:ev T y=some (.int kd q)) (hd:Nat.blt d N=true)
  (k:∀ a',St N D w0 F G0 G L ((d,.int kd (xI op kd p q)) :: T) a' w->WL r P ops Q rest a' w):WL r P ops Q (⟨some d,.binOp op t x y yt,ty,pos,aQ,g⟩ :: rest) a w:=by
 refine fQ (v:=.int kd (xI op kd p q)) (w':=w) hw M ?_ (k _ (H.put hd _ H.hp))
 cases op <;> simp only [ug] at hop <;> simp [execOp,eqGuard,binOp,Op.intBits,H.ev hx,H.ev hy,xI]
theorem azo {x y:Operand} {t yt:TypeId} {kd ky:IntKind} {p q:Int} (n:Nat) (H:St N D w0 F G0 G L T a w) (hw:Region.wanted ⟨some d,.binOp .shl t x y yt,ty,pos,aQ,g⟩ (yielded ops a.tmps)=true) (hx:ev T x=some (.int kd p)) (hy:ev T y=some (.int ky q)) (hq:q=(n:Int)) (hn:n<=kd.bits) (hd:Nat.blt d N=true)
  (k:∀ a',St N D w0 F G0 G L ((d,.int kd (kd.wrap (p*2 ^ n))) :: T) a' w->WL r P ops Q rest a' w):WL r P ops Q (⟨some d,.binOp .shl t x y yt,ty,pos,aQ,g⟩ :: rest) a w:=by
 subst hq
 refine fQ (v:=.int kd (kd.wrap (p*2 ^ n))) (w':=w) hw M ?_ (k _ (H.put hd _ H.hp))
 have h0:¬ ((n:Int) < 0):=by omega
 have h1:min n kd.bits=n:=by omega
 simp [execOp,eqGuard,binOp,Op.shift,H.ev hx,H.ev hy,h0,h1]
theorem TN {x y:Operand} {t yt:TypeId} {kd ky:IntKind} {p q:Int} (n:Nat) (H:St N D w0 F G0 G L T a w) (hw:Region.wanted ⟨some d,.binOp .shr t x y yt,ty,pos,aQ,g⟩ (yielded ops a.tmps)=true) (hx:ev T x=some (.int kd p)) (hy:ev T y=some (.int ky q)) (hq:q=(n:Int)) (hn:n<=kd.bits) (hd:Nat.blt d N=true)
  (k:∀ a',St N D w0 F G0 G L ((d,.int kd (p.fdiv (2 ^ n))) :: T) a' w->WL r P ops Q rest a' w):WL r P ops Q (⟨some d,.binOp .shr t x y yt,ty,pos,aQ,g⟩ :: rest) a w:=by
 subst hq
 refine fQ (v:=.int kd (p.fdiv (2 ^ n))) (w':=w) hw M ?_ (k _ (H.put hd _ H.hp))
 have h0:¬ ((n:Int) < 0):=by omega
 have h1:min n kd.bits=n:=by omega
 simp [execOp,eqGuard,binOp,Op.shift,H.ev hx,H.ev hy,h0,h1]
theorem CQ {x:Operand} {t u:TypeId} {kd ks:IntKind} {p:Int} {su:TypeDesc} (z:Int) (hu:P.underlying u=some (.int kd)) (ht:P.underlying t=some su) (H:St N D w0 F G0 G L T a w) (hw:Region.wanted ⟨some d,.convert t u x,ty,pos,aQ,g⟩ (yielded ops a.tmps)=true) (hx:ev T x=some (.int ks p)) (hz:kd.wrap p=z) (hd:Nat.blt d N=true)
  (k:∀ a',St N D w0 F G0 G L ((d,.int kd z) :: T) a' w->WL r P ops Q rest a' w):WL r P ops Q (⟨some d,.convert t u x,ty,pos,aQ,g⟩ :: rest) a w:=by
 refine fQ (v:=.int kd z) (w':=w) hw M ?_ (k _ (H.put hd _ H.hp))
 simp [execOp,convert,nZ hu,nZ ht,H.ev hx,dU,Conv.intToInt,hz]
theorem qM {x y:Operand} {t:TypeId} {s:ByteArray} {kd:IntKind} {z:Int} (i:Nat) (ht:P.underlying t=some .string) (H:St N D w0 F G0 G L T a w) (hw:Region.wanted ⟨some d,.index t x y,ty,pos,aQ,g⟩ (yielded ops a.tmps)=true) (hx:ev T x=some (.string s)) (hy:ev T y=some (.int kd z)) (hz:z=(i:Int)) (hi:i < s.size) (hd:Nat.blt d N=true)
  (k:∀ a',St N D w0 F G0 G L ((d,.int .u8 (s[i].toNat:Int)) :: T) a' w->WL r P ops Q rest a' w):WL r P ops Q (⟨some d,.index t x y,ty,pos,aQ,g⟩ :: rest) a w:=by
 subst hz
 refine fQ (v:=.int .u8 (s[i].toNat:Int)) (w':=w) hw M ?_ (k _ (H.put hd _ H.hp))
 simp [execOp,Instr.index,asIntOf,nZ ht,H.ev hx,H.ev hy,dU,hi]
theorem ajr {x:Operand} {t e:TypeId} {A:Option Addr} {n c:Nat} (hs:P.underlying t=some (.slice e)) (H:St N D w0 F G0 G L T a w) (hw:Region.wanted ⟨some d,.call { callee:=.builtin .len,args:=#[x],argTypes:=#[t] },ty,pos,aQ,g⟩ (yielded ops a.tmps)=true) (hx:ev T x=some (.slice A n c)) (hd:Nat.blt d N=true)
  (k:∀ a',St N D w0 F G0 G L ((d,.int .i64 n) :: T) a' w->WL r P ops Q rest a' w):WL r P ops Q (⟨some d,.call { callee:=.builtin .len,args:=#[x],argTypes:=#[t] },ty,pos,aQ,g⟩ :: rest) a w :=
 fQ (v:=.int .i64 n) (w':=w) hw M (by simp [execOp,resolve,invoke,builtin,Builtin.len_,H.ev hx,dU,nZ hs,goInt]) (k _ (H.put hd _ H.hp))
theorem FM {x:Operand} {t:TypeId} {s:ByteArray} (hs:P.underlying t=some .string) (H:St N D w0 F G0 G L T a w) (hw:Region.wanted ⟨some d,.call { callee:=.builtin .len,args:=#[x],argTypes:=#[t] },ty,pos,aQ,g⟩ (yielded ops a.tmps)=true) (hx:ev T x=some (.string s)) (hd:Nat.blt d N=true)
  (k:∀ a',St N D w0 F G0 G L ((d,.int .i64 s.size) :: T) a' w->WL r P ops Q rest a' w):WL r P ops Q (⟨some d,.call { callee:=.builtin .len,args:=#[x],argTypes:=#[t] },ty,pos,aQ,g⟩ :: rest) a w :=
 fQ (v:=.int .i64 s.size) (w':=w) hw M (by simp [execOp,resolve,invoke,builtin,Builtin.len_,H.ev hx,dU,nZ hs,goInt]) (k _ (H.put hd _ H.hp))
theorem TK {x y:Operand} {t t':TypeId} {kd:IntKind} {p q:Int} (H:St N D w0 F G0 G L T a w) (hw:Region.wanted ⟨some d,.call { callee:=.builtin .max,args:=#[x,y],argTypes:=#[t,t'] },ty,pos,aQ,g⟩ (yielded ops a.tmps)=true) (hx:ev T x=some (.int kd p)) (hy:ev T y=some (.int kd q)) (hd:Nat.blt d N=true)
  (k:∀ a',St N D w0 F G0 G L ((d,.int kd (max p q)) :: T) a' w->WL r P ops Q rest a' w):WL r P ops Q (⟨some d,.call { callee:=.builtin .max,args:=#[x,y],argTypes:=#[t,t'] },ty,pos,aQ,g⟩ :: rest) a w:=by
 refine fQ (v:=.int kd (max p q)) (w':=w) hw M ?_ (k _ (H.put hd _ H.hp))
 have e:(if q > p then q else p)=max p q:=by omega
 simp [execOp,resolve,invoke,builtin,Builtin.max_,Builtin.max2,H.ev hx,H.ev hy,dU,e]
theorem azj {x y:Operand} {t t':TypeId} {kd:IntKind} {p q:Int} (H:St N D w0 F G0 G L T a w) (hw:Region.wanted ⟨some d,.call { callee:=.builtin .min,args:=#[x,y],argTypes:=#[t,t'] },ty,pos,aQ,g⟩ (yielded ops a.tmps)=true) (hx:ev T x=some (.int kd p)) (hy:ev T y=some (.int kd q)) (hd:Nat.blt d N=true)
  (k:∀ a',St N D w0 F G0 G L ((d,.int kd (min p q)) :: T) a' w->WL r P ops Q rest a' w):WL r P ops Q (⟨some d,.call { callee:=.builtin .min,args:=#[x,y],argTypes:=#[t,t'] },ty,pos,aQ,g⟩ :: rest) a w:=by
 refine fQ (v:=.int kd (min p q)) (w':=w) hw M ?_ (k _ (H.put hd _ H.hp))
 have e:(if q < p then q else p)=min p q:=by omega
 simp [execOp,resolve,invoke,builtin,Builtin.min_,Builtin.min2,H.ev hx,H.ev hy,dU,e]
def bG (w:World) (G:GH) (R:ah->GH->Prop):Ending->World->Prop:=fun e w'=>∃ v G',e=.returned v∧Below w.heap.size w w'∧Ext w.heap.size G G' w'∧R v G'
def Hold (G:GH) (w:World):Prop:=∀ k o,G k=some o->w.heap[k]?=some o
theorem s_call {f:FuncId} {xs:List Operand} {vs:List ah} {ts:Array TypeId} {R:ah->GH->Prop} (en:∀ args w,(callFunc f args).run P w=.ok (.enter f args) w) (H:St N D w0 F G0 G L T a w) (hw:Region.wanted ⟨some d,.call { callee:=.value (.func f),args:=xs.toArray,argTypes:=ts },ty,pos,aQ,g⟩ (yielded ops a.tmps)=true)
  (hx:evs T xs=some vs) (hc:Calls P f vs.toArray w (bG w G R)) (hd:Nat.blt d N=true)
  (k:∀ v G' a' w',R v G'->(∀ k o,G k=some o->G' k=some o)->St N D w0 F G0 G' L ((d,v) :: T) a' w'->WL r P ops Q rest a' w'):WL r P ops Q (⟨some d,.call { callee:=.value (.func f),args:=xs.toArray,argTypes:=ts },ty,pos,aQ,g⟩ :: rest) a w:=by
 refine aao (nx:=.ok (.enter f vs.toArray) w) (R:=bG w G R) hw M ?_ hc ?_
 ·have h1:=H.evs hx
  simp [execOp,resolve,Act.eval,Deferred.ofValue,invoke,dU,h1,en]
 ·rintro e w' ⟨v,G',rfl,hb,hX,hR⟩
  exact ⟨v,M,k v G' _ w' hR hX.1 (H.put hd v (H.hp.aaP hb hX))⟩
theorem bO {x y:Code} (h:∀ K:Act->World->Prop,(∀ a w,WP r P y Q a w->K a w)->WP r P x (Exit.then K Q) a w):WP r P (.seq x y) Q a w:=wpIn_seq_k h
theorem nU {id:Nat} {l:List Oper} (h:WL r P l.toArray Q l a w):WP r P (.region id l.toArray false) Q a w:=wpIn_region_lit h
theorem dz {id:Nat} {l:List Oper} {y:Code} (h:∀ K:Act->World->Prop,(∀ a w,WP r P y Q a w->WL r P l.toArray (Exit.then K Q) [] a w)->WL r P l.toArray (Exit.then K Q) l a w):WP r P (.seq (.region id l.toArray false) y) Q a w:=bO fun K hK=>nU (h K fun a w h=>aG (hK a w h))
theorem iE (h:Q .normal a w):WP r P .skip Q a w:=wpIn_skip h
theorem fE (h:Q .ret a w):WP r P .ret Q a w:=wpIn_ret h
theorem dQ {id:Nat} (h:Q (.exit id) a w):WP r P (.exit id) Q a w:=wpIn_exit h
theorem EL {id:Nat} {c:Code} (h:WP r P c (Exit.inBlock id Q) a w):WP r P (.block id c) Q a w:=wpIn_block h
theorem jw {c:Operand} {x y:Code} {b:Bool} (H:St N D w0 F G0 G L T a w) (hc:ev T c=some (.bool b)) (h1:b=true->WP r P x Q a w) (h0:b=false->WP r P y Q a w):WP r P (.cond c x y) Q a w :=
 wpIn_cond_split (H.ev hc) h1 h0
theorem Cc {c:Operand} {x y:Code} {b:Bool} (H:St N D w0 F G0 G L T a w) (hc:ev T c=some (.bool b)) (hb:b=true) (h1:WP r P x Q a w):WP r P (.cond c x y) Q a w :=
 wpIn_cond_true (by rw [H.ev hc,hb]) h1
theorem sQ {c:Operand} {x y:Code} {b:Bool} (H:St N D w0 F G0 G L T a w) (hc:ev T c=some (.bool b)) (hb:b=false) (h1:WP r P y Q a w):WP r P (.cond c x y) Q a w :=
 wpIn_cond_false (by rw [H.ev hc,hb]) h1
theorem adz {ι:Type} {c:Code} (I:ι->Act->World->Prop) (m:ι->Nat) (i0:ι) (h0:I i0 a w)
  (round:∀ i a w,I i a w->WP r P c (Exit.then (fun a' w'=>∃ i',I i' a' w'∧m i' < m i) Q) a w):WP r P (.loop c) Q a w:=by
 intro b k cs hro hb hr
 have key:∀ j i a w,m i=j->I i a w ->
   ∃ e a' w',Q e a' w'∧ArrivesIn (Machine.fenced P (FW r)) P (lone (b.atR a (.code c :: .inLoop c :: k)) cs w) b k cs e a' w':=by
  intro j
  induction j using Nat.strongRecOn with
  | _ j ih =>
   intro i a w hn hI
   obtain ⟨e,a₁,w₁,hq,harr⟩:=round i a w hI b (.inLoop c :: k) cs hro hb hr
   cases e with
   | normal =>
    obtain ⟨i',hI₁,hlt⟩:=hq
    obtain ⟨e₂,a₂,w₂,hq₂,harr₂⟩:=ih (m i') (hn ▸ hlt) i' a₁ w₁ M hI₁
    exact ⟨e₂,a₂,w₂,hq₂,.of_steps (StepsIn.trans harr (.one (fenced_calm hb hr M) stepR_inLoop)) harr₂⟩
   | exit id=>exact ⟨_,a₁,w₁,hq,.pass (x:=.inLoop c) M (fun _ _=>.inl (by simp)) harr⟩
   | goto l=>exact ⟨_,a₁,w₁,hq,.pass (x:=.inLoop c) M (fun _ _=>.inl (by simp)) harr⟩
   | ret=>exact ⟨_,a₁,w₁,hq,.pass (x:=.inLoop c) M (fun _ _=>.inl (by simp)) harr⟩
   | panic ch=>exact ⟨_,a₁,w₁,hq,.pass (x:=.inLoop c) M (fun _ _=>.inl (by simp)) harr⟩
   | outgrown=>exact ⟨_,a₁,w₁,hq,.pass (x:=.inLoop c) M (fun _ _=>.inl (by simp)) harr⟩
 obtain ⟨e,a',w',hq,harr⟩:=key _ i0 a w M h0
 exact ⟨e,a',w',hq,.of_steps (.one (fenced_calm hb hr M) stepR_loop) harr⟩
theorem eX {ι:Type} {c:Code} {Tc:List (Nat × ah)} {Lc:List (Nat × Obj)} (Tv:ι->List (Nat × ah)) (Lv:ι->List (Nat × Obj)) (Gv:ι->GH) (Pr:ι->Prop) (m:ι->Nat) (i0:ι)
  (H:St N D w0 F G0 (Gv i0) (Lc++Lv i0) (Tv i0++Tc) a w) (hP:Pr i0)
  (round:∀ i a w,Pr i->St N D w0 F G0 (Gv i) (Lc++Lv i) (Tv i++Tc) a w ->
   WP r P c (Exit.then (fun a' w'=>∃ i',(St N D w0 F G0 (Gv i') (Lc++Lv i') (Tv i'++Tc) a' w'∧Pr i')∧m i' < m i) Q) a w):WP r P (.loop c) Q a w :=
 adz (fun i a w=>St N D w0 F G0 (Gv i) (Lc++Lv i) (Tv i++Tc) a w∧Pr i) m i0 ⟨H,hP⟩ fun i a w hI=>round i a w hI.2 hI.1
theorem uj {ι:Type} {x y:Code} {Tc:List (Nat × ah)} {Lc Lr:List (Nat × Obj)} {Gh:GH} (Tv:ι->List (Nat × ah)) (Lv:ι->List (Nat × Obj)) (Gv:ι->GH) (Pr:ι->Prop)
  (_:St N D w0 F G0 Gh (Lc++Lr) Tc a w) (h1:WP r P x (Exit.then (fun a w=>∃ i,St N D w0 F G0 (Gv i) (Lc++Lv i) (Tv i++Tc) a w∧Pr i) Q) a w)
  (h2:∀ i a w,Pr i->St N D w0 F G0 (Gv i) (Lc++Lv i) (Tv i++Tc) a w->WP r P y Q a w):WP r P (.seq x y) Q a w :=
 wpIn_seq (wpIn_mono h1 fun e a w h=>by
  cases e with
  | normal=>obtain ⟨i,H,hP⟩:=h;exact h2 i a w hP H
  | _=>exact h)
theorem Y1 {ι:Type} {Tc:List (Nat × ah)} {Lc:List (Nat × Obj)} {Tv:ι->List (Nat × ah)} {Lv:ι->List (Nat × Obj)} {Gv:ι->GH} {Pr:ι->Prop} {m:ι->Nat} {i:ι} (i':ι)
  (H:St N D w0 F G0 (Gv i') (Lc++Lv i') (Tv i'++Tc) a w) (hP:Pr i') (hm:m i' < m i) :
  ∃ i',(St N D w0 F G0 (Gv i') (Lc++Lv i') (Tv i'++Tc) a w∧Pr i')∧m i' < m i:=⟨i',⟨H,hP⟩,hm⟩
def Gp:Nat->List ah->List (Nat × ah)
 | _,[]=>[]
 | i,v :: vs=>(i,v) :: Gp (i+1) vs
theorem enters {f:FuncId} {fn:Func} {c:Code} (hf:P.funcs[f]?=some fn) (hb:fn.body=some c) (hname:(fn.name == "runtime.NumGoroutine")=false) (args:Array ah) (w:World):(callFunc f args).run P w=.ok (.enter f args) w:=by
 have h1:fn.name ≠ "runtime.NumGoroutine":=by simpa using hname
 simp [callFunc,hf,h1,hb,mark]
theorem enter {f:FuncId} {fn:Func} {c:Code} {vs:List ah} {R:Ending->World->Prop} (hf:P.funcs[f]?=some fn) (hb:fn.body=some c) (hN:fn.ntmps=N) (hle:Nat.ble vs.length N=true)
  (hT:Gp 0 vs=T) (hG:Hold G w) (hF:∀ k,F k->k < w.heap.size) (hL:∀ p∈L,w.heap[p.1]?=some p.2) (hLG:∀ p∈L,G p.1=none) (hLF:∀ p∈L,¬ F p.1) (hnd:L.Pairwise fun p q=>p.1≠q.1)
  (h:∀ a,St N [] w F G G L T a w->WP none P c (bodyPostM (FW none) 0 P fn R) a w):Calls P f vs.toArray w R:=by
 refine ams (r:=none) (n:=0) (callsIn_of_wp_marks hf hb trivial (h _ ⟨?_,?_,M,⟨M,M,M,eG _,hF,fun _ _=>rfl,hG,fun _ _ h=>h,fun _ _ h=>.inl h,hL,hLG,hLF,hnd⟩⟩) M)
 ·have:=Nat.le_of_ble_eq_true hle
  simp [hN];omega
 ·intro t v ht
  have hlen:t < vs.length∧vs[t]?=some v:=by
   subst hT
   have key:∀ (vs:List ah) (s:Nat),lk (Gp s vs) t=some v->s<=t∧vs[t - s]?=some v:=by
    intro vs
    induction vs with
    | nil=>intro s h;simp [Gp,lk] at h
    | cons u vs ih =>
     intro s h
     simp only [Gp] at h
     by_cases e:s=t
     ·subst e;rw [yg] at h;simpa using h
     ·rw [wW e] at h
      obtain ⟨h1,h2⟩:=ih (s+1) h
      refine ⟨O,?_⟩
      have:t - s=(t - (s+1))+1:=by omega
      rw [this];simpa using h2
   have:=key vs 0 ht
   simp only [lg,Nat.sub_zero,true_and] at this
   exact ⟨(ko.1 this).1,this⟩
  rw [Array.getElem?_append_left (by simpa using hlen.1)]
  simpa using hlen.2
def LH (tmps:Array ah):ResultVar->Sem ah
 | .tmp t=>pure (tmps.getD t undef)
 | .cell a t=>do loadVar t (<- asAddr (tmps.getD a undef))
def RV (P:Program) (w:World) (tmps:Array ah) (rv:ResultVar) (v:ah):Prop:=(LH tmps rv).run P w=.ok v w
theorem fM (H:St N D w0 F G0 G L T a w) {t:Nat} {v:ah} (h:lk T t=some v):RV P w a.tmps (.tmp t) v:=by
 have:=H.ev (x:=.tmp t) h
 simp only [Act.eval] at this
 simp [RV,LH,this]
theorem ny {t:TypeId} {sz bytes:Nat} {zero:List ah} (ht:Ty P t sz bytes zero true) (H:St N D w0 F G0 G L T a w) {s b o:Nat} {cs:List ah} (h:lk T s=some (.pointer (some ⟨b,o,none⟩))) (hl:cs.length=sz) (hc:∀ j v,cs[j]?=some v->w.cell? ⟨b,o+j,none⟩=some v) :
  RV P w a.tmps (.cell s t) (.agg cs.toArray):=by
 have:=H.ev (x:=.tmp s) h
 simp only [Act.eval] at this
 have h1:=run_loadCells (P:=P) b w cs o 0 #[] (fun j v hj=>by simpa using hc j v hj)
 simp only [Array.empty_append,hl] at h1
 simp [RV,LH,this,asAddr,loadVar,dU,ht.TF,ht.zY,loadCells,h1]
theorem TH {t:TypeId} {sz bytes:Nat} {zero:List ah} (ht:Ty P t sz bytes zero false) (H:St N D w0 F G0 G L T a w) {s b o:Nat} {v:ah} (h:lk T s=some (.pointer (some ⟨b,o,none⟩))) (hc:w.cell? ⟨b,o,none⟩=some v) :
  RV P w a.tmps (.cell s t) v:=by
 have:=H.ev (x:=.tmp s) h
 simp only [Act.eval] at this
 simp only [RV,LH,this,asAddr,loadVar,dU,ht.TF,nS,uf,ug,if_false,ZC hc]
inductive EH (P:Program) (w:World) (tmps:Array ah):List ResultVar->List ah->Prop
 | nil:EH P w tmps [] []
 | cons {rv rs v vs}:RV P w tmps rv v->EH P w tmps rs vs->EH P w tmps (rv :: rs) (v :: vs)
def Zm:List ah->ah
 | [v]=>v
 | vs=>.tuple vs.toArray
theorem ayS {fn:Func} {rs:List ResultVar} {vs:List ah} {tmps:Array ah} (hr:fn.results=rs.toArray) (h:EH P w tmps rs vs):(results fn tmps).run P w=.ok (Zm vs) w:=by
 have hm:∀ {rs:List ResultVar} {vs:List ah},EH P w tmps rs vs->(rs.mapM (LH tmps)).run P w=.ok vs w:=by
  intro rs vs h
  induction h with
  | nil=>simp
  | cons h1 _ ih =>
   unfold RV at h1
   simp only [List.mapM_cons,dU,h1,nS,ih,uf]
 have hm':=hm h
 have hres:results fn tmps=(do let vs <- fn.results.mapM (LH tmps);pure (if h:vs.size=1 then vs[0] else .tuple vs)):=rfl
 rw [hres,hr,Array.mapM_eq_mapM_toList]
 simp only [map_eq_pure_bind,dU,hm',nS,uf]
 match vs with
 | []=>rfl
 | [v]=>rfl
 | v :: u :: vs=>simp [Zm]
theorem leave {fn:Func} {rs:List ResultVar} {vs:List ah} {R:Ending->World->Prop} (v:ah) (H:St N [] w0 F G0 G L T a w) (hr:fn.results=rs.toArray) (h:EH P w a.tmps rs vs) (hv:Zm vs=v) (hR:R (.returned v) w) :
  bodyPostM (FW none) 0 P fn R .ret a w∧bodyPostM (FW none) 0 P fn R .normal a w:=by
 subst hv
 have h1:LeavesInM (FW none) 0 P fn a.tmps R a.defers .returning w:=by
  rw [H.uU]
  exact ⟨_,ayS hr h,hR⟩
 exact ⟨h1,h1⟩
theorem leave0 {fn:Func} {R:Ending->World->Prop} (H:St N [] w0 F G0 G L T a w) (hr:fn.results=#[]) (hR:R (.returned (.tuple #[])) w) :
  bodyPostM (FW none) 0 P fn R .ret a w∧bodyPostM (FW none) 0 P fn R .normal a w:=leave (rs:=[]) _ H hr .nil M hR
theorem leave1 {fn:Func} {rs:List ResultVar} {v:ah} {R:Ending->World->Prop} (H:St N [] w0 F G0 G L T a w) (hr:fn.results=rs.toArray) (h:EH P w a.tmps rs [v]) (hR:R (.returned v) w) :
  bodyPostM (FW none) 0 P fn R .ret a w∧bodyPostM (FW none) 0 P fn R .normal a w:=leave _ H hr h M hR
theorem kJ {fn:Func} {rs:List ResultVar} {v u:ah} {vs:List ah} {R:Ending->World->Prop} (H:St N [] w0 F G0 G L T a w) (hr:fn.results=rs.toArray) (h:EH P w a.tmps rs (v :: u :: vs)) (hR:R (.returned (.tuple (v :: u :: vs).toArray)) w) :
  bodyPostM (FW none) 0 P fn R .ret a w∧bodyPostM (FW none) 0 P fn R .normal a w:=leave _ H hr h M hR
theorem Hp.ret {R:ah->GH->Prop} {v:ah} (h:Hp w0 (fun k=>k < w0.heap.size) G0 G L w) (hR:R v G):bG w0 G0 R (.returned v) w :=
 ⟨v,G,rfl,⟨h.os,h.tape,h.output,h.size,h.fr⟩,⟨h.gm,fun k o hk=>(h.gx k o hk).imp id (fun hn=>Nat.le_of_not_lt hn),h.ro⟩,hR⟩
end steps
end
section
abbrev OL:=List (Nat × Obj)
structure gJ (G:GH) (L:OL) (w:World):Prop where
 ro:Hold G w
 own:∀ p∈L,w.heap[p.1]?=some p.2
 sep:∀ p∈L,G p.1=none
 nd:L.Pairwise fun p q=>p.1≠q.1
structure Change (w w':World) (G G':GH) (L L':OL):Prop where
 os:w'.os=w.os
 tape:w'.tape=w.tape
 output:w'.output=w.output
 size:w.heap.size<=w'.heap.size
 fr:∀ k,k < w.heap.size->(∀ p∈L,p.1≠k)->w'.heap[k]?=w.heap[k]?
 gm:∀ k o,G k=some o->G' k=some o
 gx:∀ k o,G' k=some o->G k=some o∨w.heap.size<=k∨∃ p∈L,p.1=k
 owns:gJ G' L' w'
 lx:∀ p∈L',w.heap.size<=p.1∨∃ q∈L,q.1=p.1
def Fr (w:World) (L0:OL):Nat->Prop:=fun k=>k < w.heap.size∧∀ p∈L0,p.1≠k
section
variable {N:Nat} {D:List Deferred} {w0 w w':World} {F:Nat->Prop} {G0 G G':GH} {L L' Li L0:OL} {T:List (Nat × ah)} {a:Act}
theorem Hp.owns (h:Hp w0 F G0 G (Li++L) w):gJ G L w :=
 ⟨h.ro,fun p hp=>h.own p (List.mem_append_right _ hp),fun p hp=>h.vB p (List.mem_append_right _ hp),(List.pairwise_append.1 h.nd).2.1⟩
theorem Hp.change (h:Hp w0 F G0 G (Li++L) w) (hc:Change w w' G G' L L'):Hp w0 F G0 G' (Li++L') w':=by
 have hnd:=List.pairwise_append.1 h.nd
 have Xt:∀ k,F k->k < w.heap.size:=fun k hk=>Nat.lt_of_lt_of_le (h.wQ k hk) h.size
 have Ko:∀ p∈Li,p.1 < w.heap.size∧∀ q∈L,q.1≠p.1:=fun p hp=>⟨lt_of_heap (h.own p (List.mem_append_left _ hp)),fun q hq e=>hnd.2.2 p hp q hq e.symm⟩
 refine ⟨hc.os.trans h.os,hc.tape.trans h.tape,hc.output.trans h.output,Nat.le_trans h.size hc.size,h.wQ,fun k hk=>?_,hc.owns.ro,fun k o hk=>hc.gm k o (h.gm k o hk),fun k o hk=>?_,fun p hp=>?_,fun p hp=>?_,fun p hp=>?_,?_⟩
 ·exact (hc.fr k (Xt k hk) fun p hp e=>h.vw p (List.mem_append_right _ hp) (e ▸ hk)).trans (h.fr k hk)
 ·rcases hc.gx k o hk with hk|hk|⟨p,hp,rfl⟩
  ·exact h.gx k o hk
  ·exact .inr fun hf=>absurd (Xt k hf) O
  ·exact .inr (h.vw p (List.mem_append_right _ hp))
 ·rcases jQ.1 hp with hp|hp
  ·exact (hc.fr _ (Ko p hp).1 (Ko p hp).2).trans (h.own p (List.mem_append_left _ hp))
  ·exact hc.owns.own p hp
 ·rcases jQ.1 hp with hp|hp
  ·cases hg:G' p.1 with
   | none=>rfl
   | some o =>
    rcases hc.gx _ o hg with hk|hk|⟨q,hq,e⟩
    ·rw [h.vB p (List.mem_append_left _ hp)] at hk;cases hk
    ·exact absurd (Ko p hp).1 O
    ·exact absurd e ((Ko p hp).2 q hq)
  ·exact hc.owns.sep p hp
 ·rcases jQ.1 hp with hp|hp
  ·exact h.vw p (List.mem_append_left _ hp)
  ·rcases hc.lx p hp with hk|⟨q,hq,e⟩
   ·exact fun hf=>absurd (Xt _ hf) O
   ·exact e ▸ h.vw q (List.mem_append_right _ hq)
 ·refine List.pairwise_append.2 ⟨hnd.1,hc.owns.nd,fun p hp q hq e=>?_⟩
  rcases hc.lx q hq with hk|⟨q',hq',e'⟩
  ·have:=(Ko p hp).1;omega
  ·exact (Ko p hp).2 q' hq' (e'.trans e.symm)
theorem Hp.ajR (h:Hp w0 (Fr w0 L0) G0 G L w):Change w0 w G0 G L0 L:=by
 have hn:∀ k,¬ Fr w0 L0 k->w0.heap.size<=k∨∃ p∈L0,p.1=k:=by
  intro k hk
  by_cases hlt:k < w0.heap.size
  ·right
   apply Classical.byContradiction
   intro hno
   exact hk ⟨hlt,fun p hp e=>hno ⟨p,hp,e⟩⟩
  ·exact .inl O
 exact ⟨h.os,h.tape,h.output,h.size,fun k h1 h2=>h.fr k ⟨h1,h2⟩,h.gm,fun k o hk=>(h.gx k o hk).imp id (hn k),⟨h.ro,h.own,h.vB,h.nd⟩,fun p hp=>hn _ (h.vw p hp)⟩
theorem gJ.hp (h:gJ G L w):Hp w (Fr w L) G G L w :=
 ⟨rfl,rfl,rfl,eG _,fun _ hk=>hk.1,fun _ _=>rfl,h.ro,fun _ _ h=>h,fun _ _ h=>.inl h,h.own,h.sep,fun p hp hf=>hf.2 p hp M,h.nd⟩
theorem Change.trans {w2:World} {G2:GH} {L2:OL} (h1:Change w w' G G' L L') (h2:Change w' w2 G' G2 L' L2) (hG:Hold G w) (hL:∀ p∈L,p.1 < w.heap.size):Change w w2 G G2 L L2:=by
 refine ⟨h2.os.trans h1.os,h2.tape.trans h1.tape,h2.output.trans h1.output,Nat.le_trans h1.size h2.size,fun k hk hn=>?_,fun k o hk=>h2.gm k o (h1.gm k o hk),fun k o hk=>?_,h2.owns,fun p hp=>?_⟩
 ·refine (h2.fr k (Nat.lt_of_lt_of_le hk h1.size) fun p hp e=>?_).trans (h1.fr k hk hn)
  rcases h1.lx p hp with hk'|⟨q,hq,e'⟩
  ·omega
  ·exact hn q hq (e'.trans e)
 ·rcases h2.gx k o hk with hk|hk|⟨p,hp,rfl⟩
  ·exact h1.gx k o hk
  ·exact .inr (.inl (Nat.le_trans h1.size hk))
  ·rcases h1.lx p hp with hk'|⟨q,hq,e'⟩
   ·exact .inr (.inl hk')
   ·exact .inr (.inr ⟨q,hq,e'⟩)
 ·rcases h2.lx p hp with hk|⟨q,hq,e⟩
  ·exact .inl (Nat.le_trans h1.size hk)
  ·rcases h1.lx q hq with hk'|⟨q',hq',e'⟩
   ·exact .inl (e ▸ hk')
   ·exact .inr ⟨q',hq',e'.trans e⟩
theorem Hp.perm (h:Hp w0 F G0 G L w) (hp:L.Perm L'):Hp w0 F G0 G L' w :=
 ⟨h.os,h.tape,h.output,h.size,h.wQ,h.fr,h.ro,h.gm,h.gx,fun p hq=>h.own p (hp.mem_iff.2 hq),fun p hq=>h.vB p (hp.mem_iff.2 hq),fun p hq=>h.vw p (hp.mem_iff.2 hq),(hp.pairwise_iff (fun {x y} (h:x.1≠y.1) e=>h e.symm)).1 h.nd⟩
theorem St.perm (h:St N D w0 F G0 G L T a w) (hp:L.Perm L'):St N D w0 F G0 G L' T a w:=⟨h.oP,h.get,h.uU,h.hp.perm hp⟩
def fV (w:World) (G:GH) (L:OL) (R:ah->GH->OL->Prop):Ending->World->Prop:=fun e w'=>∃ v G' L',e=.returned v∧Change w w' G G' L L'∧R v G' L'
theorem Hp.gL {R:ah->GH->OL->Prop} {v:ah} (h:Hp w0 (Fr w0 L0) G0 G L w) (hR:R v G L):fV w0 G0 L0 R (.returned v) w:=⟨v,G,L,M,h.ajR,hR⟩
end
section steps
variable {N:Nat} {D:List Deferred} {w0:World} {F:Nat->Prop} {G0 G:GH} {L Li L0:OL} {T:List (Nat × ah)}
variable {r:Option Nat} {P:Program} {ops:Array Oper} {Q:Exit->Act->World->Prop} {rest:List Oper} {a:Act} {w:World}
variable {d:Nat} {ty:TypeId} {pos:String} {aQ:Array Edge} {g:Option (Nat × Bool)}
theorem jy {f:FuncId} {caps args:List ah} {R:Ending->World->Prop} (en:∀ args w,(callFunc f args).run P w=.ok (.enter f args) w) (h:Calls P f (args++caps).toArray w R):sJ P (.func (.func f) #[] caps.toArray) args w R:=by
 refine ⟨?_⟩
 have e:(do let d <- Deferred.ofValue (.func (.func f) #[] caps.toArray) args.toArray;invoke d.target d.args:Sem Next).run P w=.ok (.enter f (args++caps).toArray) w:=by
  simp [Deferred.ofValue,dU,invoke,en]
 rw [e]
 exact h
theorem El {x:Operand} {fv:ah} {xs:List Operand} {vs:List ah} {ts:Array TypeId} {R:ah->GH->OL->Prop} (H:St N D w0 F G0 G (Li++L) T a w) (hw:Region.wanted ⟨some d,.call { callee:=.value x,args:=xs.toArray,argTypes:=ts },ty,pos,aQ,g⟩ (yielded ops a.tmps)=true)
  (hf:ev T x=some fv) (hx:evs T xs=some vs) (hc:sJ P fv vs w (fV w G L R)) (hd:Nat.blt d N=true)
  (k:∀ v G' L' a' w',R v G' L'->(∀ k o,G k=some o->G' k=some o)->St N D w0 F G0 G' (Li++L') ((d,v) :: T) a' w'->WL r P ops Q rest a' w'):WL r P ops Q (⟨some d,.call { callee:=.value x,args:=xs.toArray,argTypes:=ts },ty,pos,aQ,g⟩ :: rest) a w:=by
 refine aao (nx:=_) (R:=fV w G L R) hw M M ?_ ?_
 ·have h1:=H.evs hx
  have e:(execOp a.eval ⟨some d,.call { callee:=.value x,args:=xs.toArray,argTypes:=ts },ty,pos,aQ,g⟩)=(do let d <- Deferred.ofValue fv vs.toArray;invoke d.target d.args:Sem Next):=by
   simp only [execOp,resolve,H.ev hf,List.map_toArray,h1]
  rw [e]
  exact hc.go
 ·rintro e w' ⟨v,G',L',rfl,hb,hR⟩
  exact ⟨v,M,k v G' L' _ w' hR hb.gm (H.put hd v (H.hp.change hb))⟩
theorem gM {f:FuncId} {xs:List Operand} {vs:List ah} {ts:Array TypeId} {R:ah->GH->OL->Prop} (en:∀ args w,(callFunc f args).run P w=.ok (.enter f args) w) (H:St N D w0 F G0 G (Li++L) T a w) (hw:Region.wanted ⟨some d,.call { callee:=.value (.func f),args:=xs.toArray,argTypes:=ts },ty,pos,aQ,g⟩ (yielded ops a.tmps)=true)
  (hx:evs T xs=some vs) (hc:Calls P f vs.toArray w (fV w G L R)) (hd:Nat.blt d N=true)
  (k:∀ v G' L' a' w',R v G' L'->(∀ k o,G k=some o->G' k=some o)->St N D w0 F G0 G' (Li++L') ((d,v) :: T) a' w'->WL r P ops Q rest a' w'):WL r P ops Q (⟨some d,.call { callee:=.value (.func f),args:=xs.toArray,argTypes:=ts },ty,pos,aQ,g⟩ :: rest) a w:=by
 refine El (fv:=.func (.func f) #[] #[]) H hw M hx ?_ hd k
 have h:=jy (caps:=[]) (args:=vs) en (by simpa using hc)
 exact h
abbrev AP:=List ah->GH->Prop
def zw (xs:List AP) (k:Nat) (args:List ah) (g:GH):Prop:=∃ p,xs[k]?=some p∧p args g
def PI (P:Program) (fv:ah) (Gi:GH) (xs:List AP) (J:Nat->GH->OL->Prop) (Jx:GH->OL->Prop):Prop :=
 ∀ k args G L w,zw xs k args G->(∀ b o,Gi b=some o->G b=some o)->J k G L->gJ G L w ->
  sJ P fv args w (fV w G L fun v G' L'=>∃ b,v=.bool b∧(b=true->J (k+1) G' L')∧(b=false->Jx G' L'))
def F6 (J:Nat->GH->OL->Prop):Prop:=∀ k (G G':GH) L,(∀ b o,G b=some o->G' b=some o)->J k G L->J k G' L
def MB (J:GH->OL->Prop):Prop:=∀ (G G':GH) L,(∀ b o,G b=some o->G' b=some o)->J G L->J G' L
def Iter (P:Program) (Gi:GH) (gv:ah) (xs:List AP):Prop :=
 ∀ (J:Nat->GH->OL->Prop) (Jx:GH->OL->Prop) (fv:ah) (G:GH) (L:OL) (w:World),fv.cells=#[fv]->(∀ b o,Gi b=some o->G b=some o)->F6 J->MB Jx->J 0 G L->gJ G L w->PI P fv G xs J Jx ->
  sJ P gv [fv] w (fV w G L fun _ G' L'=>J xs.length G' L'∨Jx G' L')
theorem Iter.mono {Gi ED:GH} {gv:ah} {xs:List AP} (h:Iter P Gi gv xs) (hm:∀ b o,Gi b=some o->ED b=some o):Iter P ED gv xs :=
 fun J Jx fv G L w h0 h1=>h J Jx fv G L w h0 fun b o hb=>h1 b o (hm b o hb)
def BZ:List Nat->List ah->List (Nat × ah)->List (Nat × ah)
 | p :: ps,v :: vs,T=>BZ ps vs ((p,v) :: T)
 | _,_,T=>T
theorem ajJ:∀ (ps:List Nat) (vs:List ah) (T:List (Nat × ah)) (tm:Array ah),tm.size=N->(∀ t v,lk T t=some v->tm[t]?=some v)->ps.all (Nat.blt · N)=true ->
  ((ps.zip vs).foldl (fun t (x:Nat × ah)=>t.setIfInBounds x.1 x.2) tm).size=N∧∀ t v,lk (BZ ps vs T) t=some v->((ps.zip vs).foldl (fun t (x:Nat × ah)=>t.setIfInBounds x.1 x.2) tm)[t]?=some v
 | [],_,T,tm,h1,h2,_=>⟨h1,by simpa [BZ] using h2⟩
 | p :: ps,[],T,tm,h1,h2,_=>⟨h1,by simpa [BZ] using h2⟩
 | p :: ps,v :: vs,T,tm,h1,h2,h3=>by
  simp only [List.all_cons,iL] at h3
  have hp:p < tm.size:=by rw [h1];exact Eq.mp Nat.blt_eq h3.1
  simp only [List.zip_cons_cons,List.foldl_cons,BZ]
  refine ajJ ps vs _ _ (by simpa using h1) (fun t u ht=>?_) h3.2
  rw [Array.getElem?_setIfInBounds]
  by_cases e:p=t
  ·subst e;rw [yg] at ht;simp [hp];simpa using ht
  ·rw [wW e] at ht;simp [e];exact h2 t u ht
structure Rec where
 fn:FuncId
 tmps:Array ah
 params:Array Tmp
 assign:Code
 body:Code
 defers:Nat
def Rec.at (q:Rec) (s:LoopState) (p:Option Code):Obj:=.loop { state:=s,pending:=p,fn:=q.fn,tmps:=q.tmps,params:=q.params,assign:=q.assign,body:=q.body,defers:=q.defers }
def CbR (w1:World) (G:GH) (L:OL) (Jn:GH->OL->Prop) (Jx:GH->OL->Prop):Ending->World->Prop:=fV w1 G L fun v G' L'=>∃ b,v=.bool b∧(b=true->Jn G' L')∧(b=false->Jx G' L')
theorem FQ {b:Nat} {o:Obj} (o':Obj) (h:w.heap[b]?=some o):wG b o' w (w.putObj b o') :=
 ⟨rfl,rfl,rfl,World.putObj_size,World.putObj_heap_same (lt_of_heap h),fun _ hk=>World.putObj_heap_other hk⟩
theorem adv {l:Nat} {q:Rec} {c:Code} {R:Ending->World->Prop} (H:St N D w0 F G0 G ((l,q.at .ready none) :: L) T a w)
  (k:∀ w',St N D w0 F G0 G ((l,q.at .busy none) :: L) T a w'->WP (some l) P c (roundPost P l R) a w') :
  ∃ w₂,(Instr.beginRound l).run P w=.ok () w₂∧c.wpIn (FW (some l)) 0 P (roundPost P l R) a w₂:=by
 have hl:=H.hp.own _ (dX)
 refine ⟨_,run_beginRound hl M,k _ (H.move ?_)⟩
 exact H.hp.upd (i:=0) M (FQ _ hl)
theorem LD {l:Nat} {q:Rec} {w1:World} {G1:GH} {L1:OL} {Jn Jx:GH->OL->Prop} (jump:Option Code) (H:St N D w1 (Fr w1 L1) G1 G ((l,q.at .busy none) :: L) T a w)
  (h:match jump with|none=>Jn G ((l,q.at .ready none) :: L)|some c=>Jx G ((l,q.at .done (some c)) :: L)) :
  ∃ v w',(Instr.endRound l jump).run P w=.ok v w'∧CbR w1 G1 L1 Jn Jx (.returned v) w':=by
 have hl:=H.hp.own _ (dX)
 refine ⟨_,_,run_endRound jump hl,?_⟩
 cases jump with
 | none=>exact Hp.gL (H.hp.upd (i:=0) M (FQ _ hl)) ⟨true,M,fun _=>h,fun e=>by cases e⟩
 | some c=>exact Hp.gL (H.hp.upd (i:=0) M (FQ _ hl)) ⟨false,M,fun e=>(by cases e),fun _=>h⟩
def Jr (l:Nat) (q:Rec) (bk:OL) (J:GH->OL->Prop):GH->OL->Prop:=fun G L=>∃ Lu,L=(l,q.at .ready none) :: (bk++Lu)∧J G Lu
def PW (l:Nat) (q:Rec) (bk:OL) (Jx:Code->GH->OL->Prop):GH->OL->Prop:=fun G L=>∃ c Lu,L=(l,q.at .done (some c)) :: (bk++Lu)∧Jx c G Lu
def UN (P:Program) (N:Nat) (ps:List Nat) (assign body:Code) (T:List (Nat × ah)) (G:GH) (J:Nat->GH->OL->Prop) (Jx:Code->GH->OL->Prop) (xs:List AP):Prop :=
 ∀ (l:Nat) (q:Rec) (bk:OL) (k:Nat) (args:List ah) (G1:GH) (L1:OL) (w1:World) (a1:Act),zw xs k args G1->(∀ b o,G b=some o->G1 b=some o)->J k G1 L1 ->
  St N [] w1 (Fr w1 ((l,q.at .ready none) :: (bk++L1))) G1 G1 ((l,q.at .ready none) :: (bk++L1)) (BZ ps args T) a1 w1 ->
  WP (some l) P assign (Exit.then (fun a2 w2=>∃ w3,(Instr.beginRound l).run P w2=.ok () w3∧body.wpIn (FW (some l)) 0 P (roundPost P l (CbR w1 G1 ((l,q.at .ready none) :: (bk++L1)) (Jr l q bk (J (k+1))) (PW l q bk Jx))) a2 w3) (fun _ _ _=>False)) a1 w1
theorem adB {fn:FuncId} {tm:Array ah} {ps:List Nat} {assign body:Code} {df l:Nat} {bk:OL} {J:Nat->GH->OL->Prop} {Jx:Code->GH->OL->Prop} {xs:List AP} (h1:tm.size=N) (h2:∀ t v,lk T t=some v->tm[t]?=some v)
  (hps:ps.all (Nat.blt · N)=true) (hlen:∀ k args g,zw xs k args g->args.length=ps.length) (hr:UN P N ps assign body T G J Jx xs) :
  PI P (.func (.yield l) #[] #[]) G xs (fun k=>Jr l ⟨fn,tm,ps.toArray,assign,body,df⟩ bk (J k)) (PW l ⟨fn,tm,ps.toArray,assign,body,df⟩ bk Jx):=by
 intro k args G1 L1 w1 hk hm hJ ho
 obtain ⟨Lu,rfl,hJ⟩:=hJ
 have hl:=ho.own _ (dX)
 have hargs:args.toArray.size=ps.toArray.size:=by simpa using hlen k args _ hk
 have hy:=run_yield (P:=P) (args:=args.toArray) hl hargs
 have hz:(ps.toArray.zip args.toArray).foldl (fun tmps (x:Nat × ah)=>tmps.setIfInBounds x.1 x.2) tm=(ps.zip args).foldl (fun t (x:Nat × ah)=>t.setIfInBounds x.1 x.2) tm:=by
  simp [List.zip_toArray]
 obtain ⟨z1,z2⟩:=ajJ ps args T tm h1 h2 hps
 refine ⟨?_⟩
 have e:(do let d <- Deferred.ofValue (.func (.yield l) #[] #[]) args.toArray;invoke d.target d.args:Sem Next).run P w1=.ok (.round l fn ((ps.zip args).foldl (fun t (x:Nat × ah)=>t.setIfInBounds x.1 x.2) tm) assign body) w1:=by
  simp only [Deferred.ofValue,pure_bind,invoke,Array.empty_append]
  rw [<- hz]
  exact hy
 rw [e]
 refine roundIn_of_wpIn (F:=FW none) trivial ?_
 exact hr l _ bk k args G1 Lu w1 { tmps:=_,defers:=[] } hk hm hJ ⟨z1,z2,M,ho.hp⟩
theorem amn {Av:Operand} {ps:List Nat} {assign body:Code} {gf:FuncId} {caps:List ah} {xs:List AP} {Gi:GH}
  (H:St N D w0 F G0 G L T a w) (hg:ev T Av=some (.func (.func gf) #[] caps.toArray)) (en:∀ args w,(callFunc gf args).run P w=.ok (.enter gf args) w) (hit:Iter P Gi (.func (.func gf) #[] caps.toArray) xs) (hGi:∀ b o,Gi b=some o->G b=some o)
  (hps:ps.all (Nat.blt · N)=true) (hlen:∀ k args g,zw xs k args g->args.length=ps.length)
  (J:Nat->GH->OL->Prop) (Jx:Code->GH->OL->Prop) (zO:F6 J) (hJx:∀ c,MB (Jx c)) (h0:J 0 G L) (Yi:UN P N ps assign body T G J Jx xs)
  (hdone:∀ Dk G1 L1 a1 w1,(∀ b o,G b=some o->G1 b=some o)->J xs.length G1 L1->St N ({ target:=.collected Dk,args:=#[] } :: D) w0 F G0 G1 ((Dk,.deferred (some [])) :: L1) T a1 w1->Q .normal a1 w1)
  (hstop:∀ Dk c G1 L1 a1 w1,(∀ b o,G b=some o->G1 b=some o)->Jx c G1 L1->St N ({ target:=.collected Dk,args:=#[] } :: D) w0 F G0 G1 ((Dk,.deferred (some [])) :: L1) T a1 w1->WP none P c Q a1 w1) :
  WP none P (.rangeFunc Av ps.toArray assign body) Q a w:=by
 refine wpIn_rangeFunc ?_
 intro fn _
 have hev:=H.ev hg
 let q:Rec:=⟨fn,a.tmps,ps.toArray,assign,body,w.heap.size⟩
 obtain ⟨W1,hW1⟩:∃ W1,W1=(w.alloc (.deferred (some []))).alloc (q.at .ready none):=⟨_,M⟩
 have H1:Hp w0 F G0 G ((w.heap.size+1,q.at .ready none) :: (w.heap.size,.deferred (some [])) :: L) W1:=by
  have:=(H.hp.alloc (.deferred (some []))).alloc (q.at .ready none)
  rw [World.size_alloc] at this
  rw [hW1];exact this
 refine ⟨w.heap.size+1,[{ target:=.collected w.heap.size,args:=#[] }],W1,{ target:=.fn (.func gf) caps.toArray,args:=#[.func (.yield (w.heap.size+1)) #[] #[]] },W1,gf,
  #[.func (.yield (w.heap.size+1)) #[] #[]]++caps.toArray,W1,by rw [hW1];exact run_enterLoop_outer fn a.tmps ps.toArray assign body,?_,fun _ _=>trivial,?_,PO none,?_⟩
 ·simp only [resolve,rangeCall,hev]
  simp [Deferred.ofValue,Act.eval]
 ·simp [invoke,en]
 ·have hcv:=hit (fun k=>Jr (w.heap.size+1) q [(w.heap.size,.deferred (some []))] (J k)) (PW (w.heap.size+1) q [(w.heap.size,.deferred (some []))] Jx) (.func (.yield (w.heap.size+1)) #[] #[]) G
   ((w.heap.size+1,q.at .ready none) :: (w.heap.size,.deferred (some [])) :: L) W1 rfl hGi (fun k G G' L hm ⟨Lu,e,h⟩=>⟨Lu,e,zO k G G' Lu hm h⟩) (fun G G' L hm ⟨c,Lu,e,h⟩=>⟨c,Lu,e,hJx c G G' Lu hm h⟩) ⟨L,M,h0⟩ (Hp.owns (Li:=[]) H1) (adB H.oP H.get hps hlen Yi)
  replace hcv:=hcv.go
  have e:(do let d <- Deferred.ofValue (.func (.func gf) #[] caps.toArray) [Value.func (.yield (w.heap.size+1)) #[] #[]].toArray;invoke d.target d.args:Sem Next).run P W1=.ok (.enter gf (#[.func (.yield (w.heap.size+1)) #[] #[]]++caps.toArray)) W1:=by
   simp [Deferred.ofValue,invoke,en]
  rw [e] at hcv
  refine (VU hcv).mono ?_
  rintro e w2 ⟨v,G2,L2,rfl,hch,hJ⟩
  have H2:=Hp.change (Li:=[]) H1 hch
  rcases hJ with ⟨Lu,rfl,hJ⟩|⟨c,Lu,rfl,hJ⟩
  ·have hl:=H2.own _ (dX)
   have H3:=(H2.upd (i:=0) M (FQ (q.at .exhausted none) hl)).drop (Dp _ _)
   exact ⟨none,_,run_endLoop hl (by simp),hdone _ G2 Lu _ _ hch.gm hJ ⟨H.oP,H.get,by simp [H.uU],H3⟩⟩
  ·have hl:=H2.own _ (dX)
   have H3:=(H2.upd (i:=0) M (FQ (q.at .exhausted (some c)) hl)).drop (Dp _ _)
   exact ⟨some c,_,run_endLoop hl (by simp),hstop _ c G2 Lu _ _ hch.gm hJ ⟨H.oP,H.get,by simp [H.uU],H3⟩⟩
theorem YV {fn:Func} {R:Ending->World->Prop} {b:Nat} (H:St N ({ target:=.collected b,args:=#[] } :: D) w0 F G0 G L T a w) (i:Nat) (hi:L[i]?=some (b,.deferred (some [])))
  (k:∀ a' w',St N D w0 F G0 G (L.eraseIdx i) T a' w'->bodyPostM (FW none) 0 P fn R .ret a' w'):bodyPostM (FW none) 0 P fn R .ret a w∧bodyPostM (FW none) 0 P fn R .normal a w:=by
 have hb:=H.hp.own _ (lV hi)
 have H2:=(H.hp.upd hi (FQ (.deferred none) hb)).drop (L':=L.eraseIdx i) (by
  have h1:(L.set i (b,.deferred none)).eraseIdx i=L.eraseIdx i:=by
   apply List.ext_getElem?
   intro j
   simp only [List.getElem?_eraseIdx,List.getElem?_set]
   split <;> split <;> first|rfl|omega
  rw [<- h1];exact List.eraseIdx_sublist _ _)
 have hk:=k { a with defers:=D } _ ⟨H.oP,H.get,M,H2⟩
 have h1:LeavesInM (FW none) 0 P fn a.tmps R a.defers .returning w:=by
  rw [H.uU]
  exact ⟨by simp,.inl ⟨b,_,M,run_takeDeferred hb,hk⟩⟩
 exact ⟨h1,h1⟩
theorem St.giveUp {b:Nat} {o:Obj} (h:St N D w0 F G0 G L T a w) (i:Nat) (hi:L[i]?=some (b,o)):St N D w0 F G0 (G.add b o) (L.eraseIdx i) T a w:=⟨h.oP,h.get,h.uU,h.hp.giveUp i hi⟩
theorem St.afP {b:Nat} {o:Obj} (h:St N D w0 F G0 G L T a w) (i:Nat) (hi:L[i]?=some (b,o)):G b=none:=h.hp.vB _ (lV hi)
theorem jA {f:FuncId} {fn:Func} {c:Code} {vs:List ah} {R:Ending->World->Prop} (hf:P.funcs[f]?=some fn) (hb:fn.body=some c) (hN:fn.ntmps=N) (hle:Nat.ble vs.length N=true)
  (hT:Gp 0 vs=T) (ho:gJ G L w) (h:∀ a,St N [] w (Fr w L) G G L T a w->WP none P c (bodyPostM (FW none) 0 P fn R) a w):Calls P f vs.toArray w R :=
 enter hf hb hN hle hT ho.ro (fun _ hk=>hk.1) ho.own ho.sep (fun p hp hf=>hf.2 p hp M) ho.nd h
end steps
end
inductive Dat where
 | lf (v:ah)
 | sl (sz:Nat) (rows:List (List Dat))
mutual
def ak (G:GH):Dat->ah->Prop
 | .lf u,v=>v=u∧Value.oneCell' u=true
 | .sl sz rows,v=>∃ A c,v=.slice A rows.length c∧rows.length<=c∧c<=maxLen∧(rows≠[]->∃ b o,A=some ⟨b,o,none⟩∧oz G sz b o rows)
def oz (G:GH) (sz b:Nat):Nat->List (List Dat)->Prop
 | _,[]=>True
 | o,r :: rs=>(∃ cs,cs.length=sz∧(∀ j v,cs[j]?=some v->aH G b (o+j)=some v)∧bB G r cs)∧oz G sz b (o+sz) rs
def bB (G:GH):List Dat->List ah->Prop
 | [],cs=>cs=[]
 | d :: ds,cs=>∃ v vs,cs=v :: vs∧ak G d v∧bB G ds vs
end
theorem aC {G G':GH} (hm:∀ k o,G k=some o->G' k=some o) {b o:Nat} {v:ah} (h:aH G b o=some v):aH G' b o=some v:=by
 unfold aH at h |-
 cases hg:G b with
 | none=>rw [hg] at h;cases h
 | some ob=>rw [hg] at h;rw [hm b ob hg];exact h
mutual
theorem ak.mono {G G':GH} (hm:∀ k o,G k=some o->G' k=some o):∀ {d:Dat} {v:ah},ak G d v->ak G' d v
 | .lf u,v,h=>by simpa [ak] using h
 | .sl sz rows,v,h=>by
  simp only [ak] at h |-
  obtain ⟨A,c,h1,h2,h3,h4⟩:=h
  exact ⟨A,c,h1,h2,h3,fun hn=>let ⟨b,o,e,hr⟩:=h4 hn;⟨b,o,e,oz.mono hm hr⟩⟩
theorem oz.mono {G G':GH} (hm:∀ k o,G k=some o->G' k=some o) {sz b:Nat}:∀ {rows:List (List Dat)} {o:Nat},oz G sz b o rows->oz G' sz b o rows
 | [],o,_=>by simp [oz]
 | r :: rs,o,h=>by
  simp only [oz] at h |-
  obtain ⟨⟨cs,h1,h2,h3⟩,h4⟩:=h
  exact ⟨⟨cs,h1,fun j v hj=>aC hm (h2 j v hj),bB.mono hm h3⟩,oz.mono hm h4⟩
theorem bB.mono {G G':GH} (hm:∀ k o,G k=some o->G' k=some o):∀ {ds:List Dat} {cs:List ah},bB G ds cs->bB G' ds cs
 | [],cs,h=>by simpa [bB] using h
 | d :: ds,cs,h=>by
  simp only [bB] at h |-
  obtain ⟨v,vs,h1,h2,h3⟩:=h
  exact ⟨v,vs,h1,ak.mono hm h2,bB.mono hm h3⟩
end
theorem oz.get {G:GH} {sz b:Nat}:∀ {rows:List (List Dat)} {o k:Nat} {r:List Dat},oz G sz b o rows->rows[k]?=some r->∃ cs,cs.length=sz∧(∀ j v,cs[j]?=some v->aH G b (o+k*sz+j)=some v)∧bB G r cs
 | [],_,_,_,_,h=>by simp at h
 | r :: rs,o,0,q,h,hk=>by
  simp only [BU,pO] at hk
  subst hk
  simp only [oz] at h
  simpa using h.1
 | r :: rs,o,k+1,q,h,hk=>by
  simp only [List.getElem?_cons_succ] at hk
  simp only [oz] at h
  obtain ⟨cs,h1,h2,h3⟩:=oz.get h.2 hk
  exact ⟨cs,h1,fun j v hj=>by rw [<- h2 j v hj];congr 1;rw [Nat.succ_mul];omega,h3⟩
theorem ak.slice {G:GH} {sz:Nat} {rows:List (List Dat)} {v:ah} (h:ak G (.sl sz rows) v):∃ A c,v=.slice A rows.length c∧rows.length<=c∧c<=maxLen ∧
  ∀ k r,rows[k]?=some r->∃ b o cs,A=some ⟨b,o,none⟩∧cs.length=sz∧(∀ j u,cs[j]?=some u->aH G b (o+k*sz+j)=some u)∧bB G r cs:=by
 simp only [ak] at h
 obtain ⟨A,c,h1,h2,h3,h4⟩:=h
 refine ⟨A,c,h1,h2,h3,fun k r hk=>?_⟩
 obtain ⟨b,o,e,hr⟩:=h4 (by rintro rfl;simp at hk)
 obtain ⟨cs,g1,g2,g3⟩:=hr.get hk
 exact ⟨b,o,cs,e,g1,g2,g3⟩
theorem oz.mk {G:GH} {sz b:Nat}:∀ {rows:List (List Dat)} {o:Nat},(∀ k r,rows[k]?=some r->∃ cs,cs.length=sz∧(∀ j u,cs[j]?=some u->aH G b (o+k*sz+j)=some u)∧bB G r cs)->oz G sz b o rows
 | [],o,_=>by simp [oz]
 | r :: rs,o,h=>by
  simp only [oz]
  refine ⟨by simpa using h 0 r M,oz.mk fun k q hk=>?_⟩
  obtain ⟨cs,h1,h2,h3⟩:=h (k+1) q (by simpa using hk)
  exact ⟨cs,h1,fun j v hj=>by rw [<- h2 j v hj];congr 1;rw [Nat.succ_mul];omega,h3⟩
abbrev vi (n:Int):ah:=.int .i64 n
structure aO where
 key:Int
 value:Int
structure gG where
 rev:Int
 move:Int
structure bZ where
 rev:Int
 key:Int
 before:Int
 had:Bool
structure zC where
 ins:Int
 move:Int
 bK:List gG
 layers:List bZ
structure dN where
 props:List aO
 marks:zC
mutual
inductive au where
 | mk (kind code id:Int) (text:ByteArray) (head:dN) (flow:List au) (rows:List aV)
inductive aV where
 | mk (head:dN) (cells:List aX)
inductive aX where
 | mk (id:Int) (head:dN) (flow:List au)
end
namespace au
def kind:au->Int|.mk k _ _ _ _ _ _=>k
def code:au->Int|.mk _ c _ _ _ _ _=>c
def id:au->Int|.mk _ _ i _ _ _ _=>i
def text:au->ByteArray|.mk _ _ _ t _ _ _=>t
def head:au->dN|.mk _ _ _ _ h _ _=>h
def flow:au->List au|.mk _ _ _ _ _ f _=>f
def rows:au->List aV|.mk _ _ _ _ _ _ r=>r
end au
namespace aV
def head:aV->dN|.mk h _=>h
def cells:aV->List aX|.mk _ c=>c
end aV
namespace aX
def id:aX->Int|.mk i _ _=>i
def head:aX->dN|.mk _ h _=>h
def flow:aX->List au|.mk _ _ f=>f
end aX
abbrev li (n:Int):Dat:=.lf (.int .i64 n)
def aO.dat (p:aO):List Dat:=[li p.key,li p.value]
def gG.dat (p:gG):List Dat:=[li p.rev,li p.move]
def bZ.dat (p:bZ):List Dat:=[li p.rev,li p.key,li p.before,.lf (.bool p.had)]
def zC.dat (m:zC):List Dat:=[li m.ins,li m.move,.sl 2 (m.bK.map gG.dat),.sl 4 (m.layers.map bZ.dat)]
def dN.dat (h:dN):List Dat:=.sl 2 (h.props.map aO.dat) :: h.marks.dat
mutual
def au.dat:au->List Dat
 | .mk k c i t h f r=>li k :: li c :: li i :: .lf (.string t) :: (h.dat++[.sl 11 (JX f),.sl 6 (Nc r)])
def aV.dat:aV->List Dat
 | .mk h cs=>h.dat++[.sl 7 (Nb cs)]
def aX.dat:aX->List Dat
 | .mk i h f=>li i :: (h.dat++[.sl 11 (JX f)])
def JX:List au->List (List Dat)
 | []=>[]
 | x :: r=>x.dat :: JX r
def Nc:List aV->List (List Dat)
 | []=>[]
 | x :: r=>x.dat :: Nc r
def Nb:List aX->List (List Dat)
 | []=>[]
 | x :: r=>x.dat :: Nb r
end
theorem Wo:∀ l:List au,JX l=l.map au.dat
 | []=>by simp [JX]
 | x :: r=>by simp [JX,Wo r]
theorem aee:∀ l:List aV,Nc l=l.map aV.dat
 | []=>by simp [Nc]
 | x :: r=>by simp [Nc,aee r]
theorem aed:∀ l:List aX,Nb l=l.map aX.dat
 | []=>by simp [Nb]
 | x :: r=>by simp [Nb,aed r]
theorem au.rW (x:au):x.dat=li x.kind :: li x.code :: li x.id :: .lf (.string x.text) :: (x.head.dat++[.sl 11 (x.flow.map au.dat),.sl 6 (x.rows.map aV.dat)]):=by
 cases x;simp [au.dat,au.kind,au.code,au.id,au.text,au.head,au.flow,au.rows,Wo,aee]
theorem aV.rW (x:aV):x.dat=x.head.dat++[.sl 7 (x.cells.map aX.dat)]:=by
 cases x;simp [aV.dat,aV.head,aV.cells,aed]
theorem aX.rW (x:aX):x.dat=li x.id :: (x.head.dat++[.sl 11 (x.flow.map au.dat)]):=by
 cases x;simp [aX.dat,aX.id,aX.head,aX.flow,Wo]
structure jr (G:GH) (x:dN) (p d l:ah):Prop where
 props:ak G (.sl 2 (x.props.map aO.dat)) p
 bK:ak G (.sl 2 (x.marks.bK.map gG.dat)) d
 layers:ak G (.sl 4 (x.marks.layers.map bZ.dat)) l
theorem jr.mono {G G':GH} (hm:∀ k o,G k=some o->G' k=some o) {x:dN} {p d l:ah} (h:jr G x p d l):jr G' x p d l:=⟨h.props.mono hm,h.bK.mono hm,h.layers.mono hm⟩
theorem ak.form {G:GH} {sz:Nat} {rows:List (List Dat)} {v:ah} (h:ak G (.sl sz rows) v):∃ A n c,v=.slice A n c:=by
 obtain ⟨A,c,h,_⟩:=h.slice
 exact ⟨A,_,c,h⟩
theorem bB.item {G:GH} {x:au} {cs:List ah} (h:bB G x.dat cs):∃ pA pn pc dA dn dc lA ln lc fA fn fc rA rn rc,cs=[vi x.kind,vi x.code,vi x.id,.string x.text,.slice pA pn pc,vi x.head.marks.ins,vi x.head.marks.move,.slice dA dn dc,.slice lA ln lc,.slice fA fn fc,.slice rA rn rc] ∧
  jr G x.head (.slice pA pn pc) (.slice dA dn dc) (.slice lA ln lc)∧ak G (.sl 11 (x.flow.map au.dat)) (.slice fA fn fc)∧ak G (.sl 6 (x.rows.map aV.dat)) (.slice rA rn rc):=by
 rw [au.rW] at h
 simp only [dN.dat,zC.dat,qm,mO,bB] at h
 obtain ⟨v1,_,rfl,h1,v2,_,rfl,h2,v3,_,rfl,h3,v4,_,rfl,h4,p,_,rfl,hp,v5,_,rfl,h5,v6,_,rfl,h6,d,_,rfl,hd,l,_,rfl,hl,f,_,rfl,hf,r,_,rfl,hr,rfl⟩:=h
 obtain ⟨pA,pn,pc,rfl⟩:=hp.form
 obtain ⟨dA,dn,dc,rfl⟩:=hd.form
 obtain ⟨lA,ln,lc,rfl⟩:=hl.form
 obtain ⟨fA,fn,fc,rfl⟩:=hf.form
 obtain ⟨rA,rn,rc,rfl⟩:=hr.form
 simp only [ak] at h1 h2 h3 h4 h5 h6
 obtain ⟨rfl,-⟩:=h1;obtain ⟨rfl,-⟩:=h2;obtain ⟨rfl,-⟩:=h3;obtain ⟨rfl,-⟩:=h4;obtain ⟨rfl,-⟩:=h5;obtain ⟨rfl,-⟩:=h6
 exact ⟨pA,pn,pc,dA,dn,dc,lA,ln,lc,fA,fn,fc,rA,rn,rc,M,⟨hp,hd,hl⟩,hf,hr⟩
theorem bB.row {G:GH} {x:aV} {cs:List ah} (h:bB G x.dat cs):∃ pA pn pc dA dn dc lA ln lc cA cn cc,cs=[.slice pA pn pc,vi x.head.marks.ins,vi x.head.marks.move,.slice dA dn dc,.slice lA ln lc,.slice cA cn cc]∧jr G x.head (.slice pA pn pc) (.slice dA dn dc) (.slice lA ln lc)∧ak G (.sl 7 (x.cells.map aX.dat)) (.slice cA cn cc):=by
 rw [aV.rW] at h
 simp only [dN.dat,zC.dat,qm,mO,bB] at h
 obtain ⟨p,_,rfl,hp,v5,_,rfl,h5,v6,_,rfl,h6,d,_,rfl,hd,l,_,rfl,hl,f,_,rfl,hf,rfl⟩:=h
 obtain ⟨pA,pn,pc,rfl⟩:=hp.form
 obtain ⟨dA,dn,dc,rfl⟩:=hd.form
 obtain ⟨lA,ln,lc,rfl⟩:=hl.form
 obtain ⟨fA,fn,fc,rfl⟩:=hf.form
 simp only [ak] at h5 h6
 obtain ⟨rfl,-⟩:=h5;obtain ⟨rfl,-⟩:=h6
 exact ⟨pA,pn,pc,dA,dn,dc,lA,ln,lc,fA,fn,fc,M,⟨hp,hd,hl⟩,hf⟩
theorem bB.cell {G:GH} {x:aX} {cs:List ah} (h:bB G x.dat cs):∃ pA pn pc dA dn dc lA ln lc fA fn fc,cs=[vi x.id,.slice pA pn pc,vi x.head.marks.ins,vi x.head.marks.move,.slice dA dn dc,.slice lA ln lc,.slice fA fn fc]∧jr G x.head (.slice pA pn pc) (.slice dA dn dc) (.slice lA ln lc)∧ak G (.sl 11 (x.flow.map au.dat)) (.slice fA fn fc):=by
 rw [aX.rW] at h
 simp only [dN.dat,zC.dat,qm,mO,bB] at h
 obtain ⟨v1,_,rfl,h1,p,_,rfl,hp,v5,_,rfl,h5,v6,_,rfl,h6,d,_,rfl,hd,l,_,rfl,hl,f,_,rfl,hf,rfl⟩:=h
 obtain ⟨pA,pn,pc,rfl⟩:=hp.form
 obtain ⟨dA,dn,dc,rfl⟩:=hd.form
 obtain ⟨lA,ln,lc,rfl⟩:=hl.form
 obtain ⟨fA,fn,fc,rfl⟩:=hf.form
 simp only [ak] at h1 h5 h6
 obtain ⟨rfl,-⟩:=h1;obtain ⟨rfl,-⟩:=h5;obtain ⟨rfl,-⟩:=h6
 exact ⟨pA,pn,pc,dA,dn,dc,lA,ln,lc,fA,fn,fc,M,⟨hp,hd,hl⟩,hf⟩
theorem ak.one {G:GH}:∀ {d:Dat} {v:ah},ak G d v->Value.oneCell' v=true
 | .lf u,v,h=>by simp only [ak] at h;rw [h.1];exact h.2
 | .sl sz rows,v,h=>by obtain ⟨A,n,c,rfl⟩:=h.form;rfl
theorem bB.one {G:GH}:∀ {ds:List Dat} {cs:List ah},bB G ds cs->cs.all Value.oneCell'=true
 | [],cs,h=>by simp only [bB] at h;subst h;rfl
 | d :: ds,cs,h=>by
  simp only [bB] at h
  obtain ⟨v,vs,rfl,h1,h2⟩:=h
  simp only [List.all_cons,h1.one,h2.one,Bool.and_self]
theorem bB.length {G:GH}:∀ {ds:List Dat} {cs:List ah},bB G ds cs->cs.length=ds.length
 | [],cs,h=>by simp only [bB] at h;subst h;rfl
 | d :: ds,cs,h=>by
  simp only [bB] at h
  obtain ⟨v,vs,rfl,h1,h2⟩:=h
  simp [h2.length]
theorem bB.mkItem {G:GH} {x:au} {p d l f r:ah} (hh:jr G x.head p d l) (hf:ak G (.sl 11 (x.flow.map au.dat)) f) (hr:ak G (.sl 6 (x.rows.map aV.dat)) r) :
  bB G x.dat [vi x.kind,vi x.code,vi x.id,.string x.text,p,vi x.head.marks.ins,vi x.head.marks.move,d,l,f,r]:=by
 rw [au.rW]
 simp only [dN.dat,zC.dat,qm,mO,bB]
 exact ⟨_,_,M,by simp [ak,Value.oneCell'],_,_,M,by simp [ak,Value.oneCell'],_,_,M,by simp [ak,Value.oneCell'],_,_,M,by simp [ak,Value.oneCell'],_,_,M,hh.props,_,_,M,by simp [ak,Value.oneCell'],_,_,M,by simp [ak,Value.oneCell'],_,_,M,hh.bK,_,_,M,hh.layers,_,_,M,hf,_,_,M,hr,M⟩
theorem bB.Sr {G:GH} {x:aV} {p d l c:ah} (hh:jr G x.head p d l) (hc:ak G (.sl 7 (x.cells.map aX.dat)) c) :
  bB G x.dat [p,vi x.head.marks.ins,vi x.head.marks.move,d,l,c]:=by
 rw [aV.rW]
 simp only [dN.dat,zC.dat,qm,mO,bB]
 exact ⟨_,_,M,hh.props,_,_,M,by simp [ak,Value.oneCell'],_,_,M,by simp [ak,Value.oneCell'],_,_,M,hh.bK,_,_,M,hh.layers,_,_,M,hc,M⟩
theorem bB.Sq {G:GH} {x:aX} {p d l f:ah} (hh:jr G x.head p d l) (hf:ak G (.sl 11 (x.flow.map au.dat)) f) :
  bB G x.dat [vi x.id,p,vi x.head.marks.ins,vi x.head.marks.move,d,l,f]:=by
 rw [aX.rW]
 simp only [dN.dat,zC.dat,qm,mO,bB]
 exact ⟨_,_,M,by simp [ak,Value.oneCell'],_,_,M,hh.props,_,_,M,by simp [ak,Value.oneCell'],_,_,M,by simp [ak,Value.oneCell'],_,_,M,hh.bK,_,_,M,hh.layers,_,_,M,hf,M⟩
mutual
def nA:Dat->Nat
 | .lf v=>(match v with|.string s=>s.size|_=>0)+1
 | .sl _ rows=>1+fu rows
def fu:List (List Dat)->Nat
 | []=>0
 | r :: rs=>1+dD r+fu rs
def dD:List Dat->Nat
 | []=>0
 | d :: ds=>nA d+dD ds
end
theorem LW (a b:List (List Dat)):fu (a++b)=fu a+fu b:=by
 induction a with
 | nil=>simp [fu]
 | cons x a ih=>simp only [qm,fu,ih];omega
theorem Z7 (a b:List Dat):dD (a++b)=dD a+dD b:=by
 induction a with
 | nil=>simp [dD]
 | cons x a ih=>simp only [qm,dD,ih];omega
theorem pK:∀ rows:List (List Dat),rows.length<=fu rows
 | []=>eG _
 | r :: rs=>by have:=pK rs;simp only [lW,fu];omega
theorem TT:∀ {rows:List (List Dat)} {k:Nat} {r:List Dat},rows[k]?=some r->dD r < fu rows
 | [],_,_,h=>by simp at h
 | q :: rs,0,r,h=>by simp only [BU,pO] at h;subst h;simp only [fu];omega
 | q :: rs,k+1,r,h=>by have:=TT (rows:=rs) (k:=k) (r:=r) (by simpa using h);simp only [fu];omega
abbrev dH (l:List au):Nat:=fu (l.map au.dat)
abbrev iK (l:List aV):Nat:=fu (l.map aV.dat)
abbrev ji (l:List aX):Nat:=fu (l.map aX.dat)
abbrev mX (h:dN):Nat:=dD h.dat
theorem FU (h:dN):mX h=fu (h.props.map aO.dat)+fu (h.marks.bK.map gG.dat)+fu (h.marks.layers.map bZ.dat)+5:=by
 simp only [mX,dN.dat,zC.dat,dD,nA];omega
theorem Ag (x:au):dD x.dat=x.text.size+mX x.head+dH x.flow+iK x.rows+6:=by
 rw [au.rW];simp only [dD,nA,Z7,mX,dH,iK,ji];omega
theorem Ew (x:aV):dD x.dat=mX x.head+ji x.cells+1:=by
 rw [aV.rW];simp only [dD,nA,Z7,mX,dH,iK,ji];omega
theorem Ev (x:aX):dD x.dat=mX x.head+dH x.flow+2:=by
 rw [aX.rW];simp only [dD,nA,Z7,mX,dH,iK,ji];omega
theorem Py {l:List au} {k:Nat} (h:k < l.length):l[k].text.size+mX l[k].head+dH l[k].flow+iK l[k].rows+6 < dH l:=by
 rw [<- Ag];exact TT (k:=k) (by simp [h])
theorem Uj {l:List aV} {k:Nat} (h:k < l.length):mX l[k].head+ji l[k].cells+1 < iK l:=by
 rw [<- Ew];exact TT (k:=k) (by simp [h])
theorem Ui {l:List aX} {k:Nat} (h:k < l.length):mX l[k].head+dH l[k].flow+2 < ji l:=by
 rw [<- Ev];exact TT (k:=k) (by simp [h])
theorem Mh (l:List au):l.length<=dH l:=by have:=pK (l.map au.dat);simpa using this
theorem Pz (l:List aV):l.length<=iK l:=by have:=pK (l.map aV.dat);simpa using this
theorem Px (l:List aX):l.length<=ji l:=by have:=pK (l.map aX.dat);simpa using this
theorem TU {r:List Dat}:∀ {rows:List (List Dat)},r∈rows->dD r < fu rows
 | [],h=>by cases h
 | q :: rs,h=>by
  rcases gK.1 h with rfl|h
  ·simp only [fu];omega
  ·have:=TU h;simp only [fu];omega
theorem aar {x:au} {l:List au} (h:x∈l):dD x.dat < dH l:=TU (List.mem_map_of_mem h)
theorem akF {x:aV} {l:List aV} (h:x∈l):dD x.dat < iK l:=TU (List.mem_map_of_mem h)
theorem akB {x:aX} {l:List aX} (h:x∈l):dD x.dat < ji l:=TU (List.mem_map_of_mem h)
section
def yM (l:List Oper) (i:Nat):List Nat:=match l[i]? with|some o=>(o.after.toList.filter (Region.binds .any)).map (·.on)|none=>[]
def dV (l:List Oper) (i:Nat):Option Nat:=(l[i]?).bind (·.dst)
def xO (l:List Oper) (bJ:List (List Nat)):Bool :=
 (List.range l.length).all fun i=>(yM l i).all (fun j=>Nat.blt j i) && (bJ.getD i []).all fun j=>(yM l i).contains j || (yM l i).any fun k=>Nat.blt k i && (bJ.getD k []).contains j
def cO (S:Nat->Bool) (i:Nat):Nat->Bool:=fun j=>if j=i then true else S j
section
variable {r:Option Nat} {P:Program} {Q:Exit->Act->World->Prop} {l:List Oper} {bJ:List (List Nat)} {a:Act} {w:World}
theorem adP (hk:xO l bJ=true) {S:Nat->Bool} (hd:∀ i,S i=true->∀ j∈yM l i,S j=true):∀ i,i < l.length->(∀ j∈yM l i,S j=true)->∀ j∈bJ.getD i [],S j=true:=by
 intro i
 induction i using Nat.strongRecOn with
 | _ i ih =>
  intro hi hdi j hj
  have h1:=jE.1 hk i (vN.2 hi)
  simp only [iL,jE] at h1
  have h2:=h1.2 j hj
  simp only [Bool.or_eq_true,qE,List.any_eq_true,iL] at h2
  rcases h2 with h2|⟨k,hk1,hk2,hk3⟩
  ·exact hdi j h2
  ·have hlt:k < i:=Eq.mp Nat.blt_eq hk2
   exact ih k hlt O (hd k (hdi k hk1)) j hk3
theorem aBf {ops:Array Oper} {i:Nat} {o:Oper} {K:Act->World->Prop} (ho:ops[i]?=some o) (h:WL r P ops (fun e a' w'=>e=.normal∧K a' w') [o] a w):wpOpIn (FW r) 0 P ops Q i K a w:=by
 unfold wpOpIn
 simp only [ho]
 have h':wpListIn (FW r) 0 P ops (fun e a' w'=>e=.normal∧K a' w') [o] a w:=h
 unfold wpListIn at h'
 by_cases hw:Region.wanted o (yielded ops a.tmps)=true
 ·rw [aD hw] at h' |-
  refine ⟨fun _ _=>trivial,?_⟩
  have h2:=h'.2
  generalize (o.semAt (FW r).round a.eval).run P w=res at h2 |-
  cases res with
  | ok x w1 =>
   cases x with
   | value v=>exact h2.2
   | skip=>exact h2.2
   | defer d=>exact h2.2
   | enter f args=>exact ⟨h2.1,h2.2.mono fun e w2 he=>by
     cases e with
     | returned v=>exact he.2
     | panicked ch=>exact absurd he.1 (by simp)
     | outgrown=>obtain ⟨_,_,h3,_⟩:=he;exact absurd h3 (by simp)⟩
   | row ZI args=>exact ⟨h2.1,h2.2.mono fun v w2 he=>he.2⟩
   | round l f t U0 b=>exact ⟨h2.1,h2.2.mono fun e w2 he=>by
     cases e with
     | returned v=>exact he.2
     | panicked ch=>exact absurd he.1 (by simp)
     | outgrown=>obtain ⟨_,_,h3,_⟩:=he;exact absurd h3 (by simp)⟩
   | _=>exact h2.elim
  | halt x w1 =>
   cases x with
   | panic v=>exact absurd h2.1 (by simp)
   | _=>exact h2.elim
 ·rw [av hw] at h' |-
  exact ⟨fun _ _=>trivial,h'.2.2⟩
theorem count_set {L:List Bool}:∀ {i:Nat},L[i]?=some false->(L.set i true).count false+1=L.count false:=by
 induction L with
 | nil=>intro i h;simp at h
 | cons b L ih =>
  intro i h
  cases i with
  | zero=>simp at h;subst h;simp
  | succ i =>
   simp only [List.getElem?_cons_succ] at h
   have:=ih h
   simp only [List.set_cons_succ,List.count_cons]
   omega
theorem adw {id:Nat} (hm:P.follows .mixedOrders=true) (bJ:List (List Nat)) (hk:xO l bJ=true) (X:(Nat->Bool)->Act->World->Prop) (h0:X (fun _=>false) a w.drew)
  (hstep:∀ i o S a w,l[i]?=some o->X S a w->S i=false->(∀ j∈bJ.getD i [],S j=true)->(∀ j,j < l.length->i∈bJ.getD j []->S j=false)->WL r P l.toArray (fun e a' w'=>e=.normal∧X (cO S i) a' w') [o] a w)
  (hend:∀ S a w,(∀ i,i < l.length->S i=true)->X S a w->Q .normal a w):WP r P (.region id l.toArray true) Q a w:=by
 have key:∀ (fuel:Nat) (listed:Array Bool) (S:Nat->Bool) (a:Act) (w:World),listed.size=l.length->(∀ i,i < l.length->listed[i]?=some (S i))->listed.toList.count false<=fuel->(∀ i,i < l.length->S i=true->∀ j∈yM l i,S j=true)->(∀ i,l.length<=i->S i=false)->X S a w ->
   wpAnyIn (FW r) 0 P .any l.toArray Q fuel listed a w:=by
  intro fuel
  induction fuel with
  | zero =>
   intro listed S a w hsz hS hc hdn hbig hX
   have hall:∀ i,i < l.length->S i=true:=by
    intro i hi
    cases aM:S i with
    | true=>rfl
    | false =>
     have h1:=hS i hi
     rw [aM] at h1
     have:false∈listed.toList:=lV (by simpa using h1)
     have:=List.count_pos_iff.2 this
     omega
   refine ⟨?_,hend S a w hall hX⟩
   apply List.eq_nil_iff_forall_not_mem.2
   intro i hi
   obtain ⟨h1,o,ho,-⟩:=mem_ready.1 hi
   have hil:i < l.length:=by simpa using (Array.getElem?_eq_some_iff.1 ho).1
   have h2:=hS i hil
   rw [hall i hil] at h2
   rw [Array.getD_eq_getD_getElem?,h2] at h1
   cases h1
  | succ fuel ih =>
   intro listed S a w hsz hS hc hdn hbig hX
   have hget:∀ i d,i < l.length->listed.getD i d=S i:=fun i d hi=>by rw [Array.getD_eq_getD_getElem?,hS i hi];rfl
   refine ⟨fun hnil=>?_,fun i hi=>?_⟩
   ·by_cases hall:∀ i,i < l.length->S i=true
    ·exact hend S a w hall hX
    ·exfalso
     have hex:∃ i,i < l.length∧S i=false:=by
      apply Classical.byContradiction
      intro hno
      apply hall
      intro i hi
      cases aM:S i with
      | true=>rfl
      | false=>exact absurd ⟨i,hi,aM⟩ hno
     obtain ⟨i,hi,aM,hmin⟩:∃ i,i < l.length∧S i=false∧∀ j,j < i->S j=true:=by
      obtain ⟨i0,hi0,hs0⟩:=hex
      clear hall
      induction i0 using Nat.strongRecOn with
      | _ i0 ihh =>
       by_cases hlt:∃ j,j < i0∧S j=false
       ·obtain ⟨j,hj,hsj⟩:=hlt
        exact ihh j hj O hsj
       ·refine ⟨i0,hi0,hs0,fun j hj=>?_⟩
        cases hSj:S j with
        | true=>rfl
        | false=>exact absurd ⟨j,hj,hSj⟩ hlt
     have hr:i∈Region.ready .any l.toArray listed:=by
      rw [mem_ready]
      refine ⟨by rw [hget i true hi,aM],l[i],by simp [hi],fun e he hb=>?_⟩
      have hk1:=jE.1 hk i (vN.2 hi)
      simp only [iL,jE] at hk1
      have hin:e.on∈yM l i:=by
       simp only [yM,eB hi,List.mem_map,List.mem_filter]
       exact ⟨e,⟨by simpa using he,hb⟩,M⟩
      have hlt:e.on < i:=Eq.mp Nat.blt_eq (hk1.1 _ hin)
      rw [hget _ _ O]
      exact hmin _ hlt
     rw [hnil] at hr
     cases hr
   ·obtain ⟨h1,o,ho,atO⟩:=mem_ready.1 hi
    have hil:i < l.length:=by simpa using (Array.getElem?_eq_some_iff.1 ho).1
    have ho':l[i]?=some o:=by simpa using ho
    have aM:S i=false:=by rw [<- hget i true hil];exact h1
    have hdi:∀ j∈yM l i,S j=true:=by
     intro j hj
     simp only [yM,ho',List.mem_map,List.mem_filter] at hj
     obtain ⟨e,⟨he,hb⟩,rfl⟩:=hj
     have h2:=atO e (by simpa using he) hb
     by_cases hjl:e.on < l.length
     ·rwa [hget _ _ hjl] at h2
     ·have hk1:=jE.1 hk i (vN.2 hil)
      simp only [iL,jE] at hk1
      have hin:e.on∈yM l i:=by
       simp only [yM,ho',List.mem_map,List.mem_filter]
       exact ⟨e,⟨he,hb⟩,M⟩
      have hlt:e.on < i:=Eq.mp Nat.blt_eq (hk1.1 _ hin)
      omega
    have agu:∀ i,S i=true->∀ j∈yM l i,S j=true:=by
     intro k hk' j hj
     by_cases hkl:k < l.length
     ·exact hdn k hkl hk' j hj
     ·rw [hbig k O] at hk';cases hk'
    refine aBf ho ?_
    have hs:=hstep i o S a w ho' hX aM (adP hk agu i hil hdi) (fun j hjl hj=>by
     cases hSj:S j with
     | false=>rfl
     | true=>have:=adP hk agu j hjl (hdn j hjl hSj) i hj;rw [this] at aM;cases aM)
    have hmono:∀ e a' w',(e=Exit.normal∧X (cO S i) a' w')->(e=Exit.normal∧wpAnyIn (FW r) 0 P .any l.toArray Q fuel (listed.setIfInBounds i true) a' w'):=by
     rintro e a' w' ⟨he,hX'⟩
     refine ⟨he,ih _ (cO S i) a' w' (by simpa using hsz) (fun j hj=>?_) ?_ (fun j hj hSj q hq=>?_) (fun j hj=>?_) hX'⟩
     ·rw [Array.getElem?_setIfInBounds]
      unfold cO
      by_cases e:i=j
      ·subst e;simp [hsz,hil]
      ·rw [av e,av (Ne.symm e)];exact hS j hj
     ·have h3:listed.toList[i]?=some false:=by have:=hS i hil;rw [aM] at this;simpa using this
      have:=count_set h3
      simp only [Array.toList_setIfInBounds]
      omega
     ·unfold cO at hSj |-
      split
      ·rfl
      ·split at hSj
       ·rename_i e;subst e;exact hdi q hq
       ·exact hdn j hj hSj q hq
     ·unfold cO
      rw [av O]
      exact hbig j hj
    have hs':wpListIn (FW r) 0 P l.toArray (fun e a' w'=>e=.normal∧X (cO S i) a' w') [o] a w:=hs
    show wpListIn (FW r) 0 P l.toArray _ [o] a w
    unfold wpListIn at hs' |-
    split
    ·rename_i hw
     rw [aD hw] at hs'
     refine ⟨fun _ _=>trivial,?_⟩
     have h2:=hs'.2
     generalize (o.semAt (FW r).round a.eval).run P w=res at h2 |-
     cases res with
     | ok x w1 =>
      cases x with
      | value v=>exact hmono _ _ _ h2
      | skip=>exact hmono _ _ _ h2
      | defer d=>exact hmono _ _ _ h2
      | enter f args=>exact ⟨h2.1,h2.2.mono fun e w2 he=>by
        cases e with
        | returned v=>exact hmono _ _ _ he
        | panicked ch=>exact absurd he.1 (by simp)
        | outgrown=>obtain ⟨_,_,h3,_⟩:=he;exact absurd h3 (by simp)⟩
      | row ZI args=>exact ⟨h2.1,h2.2.mono fun v w2 he=>hmono _ _ _ he⟩
      | round l f t U0 b=>exact ⟨h2.1,h2.2.mono fun e w2 he=>by
        cases e with
        | returned v=>exact hmono _ _ _ he
        | panicked ch=>exact absurd he.1 (by simp)
        | outgrown=>obtain ⟨_,_,h3,_⟩:=he;exact absurd h3 (by simp)⟩
      | _=>exact h2.elim
     | halt x w1 =>
      cases x with
      | panic v=>exact absurd h2.1 (by simp)
      | _=>exact h2.elim
    ·rename_i hw
     rw [av hw] at hs'
     exact ⟨fun _ _=>trivial,hmono _ _ _ hs'.2⟩
 refine wpIn_region_any hm (key _ _ (fun _=>false) a w.drew (by simp) (fun i hi=>by simp [hi]) ?_ (fun _ _ h=>by cases h) (fun _ _=>rfl) h0)
 simp
end
def full (N:Nat) (a:Act):List (Nat × ah):=(List.range N).map fun t=>(t,a.tmps.getD t undef)
theorem Sj (T U:List (Nat × ah)) (t:Nat):lk (T++U) t=match lk T t with|some v=>some v|none=>lk U t:=by
 induction T with
 | nil=>rfl
 | cons p T ih =>
  obtain ⟨s,v⟩:=p
  by_cases e:s=t
  ·subst e;rw [qm,yg,yg]
  ·rw [qm,wW e,wW e,ih]
theorem ahP (f:Nat->ah):∀ (L:List Nat) (t:Nat),t∈L->lk (L.map fun t=>(t,f t)) t=some (f t)
 | [],_,h=>by cases h
 | s :: L,t,h=>by
  simp only [fD]
  by_cases e:s=t
  ·subst e;rw [yg]
  ·rw [wW e]
   exact ahP f L t ((gK.1 h).resolve_left (Ne.symm e))
theorem Sk {N t:Nat} (a:Act) (h:t < N):lk (full N a) t=some (a.tmps.getD t undef):=ahP (fun t=>a.tmps.getD t undef) _ t (vN.2 h)
section
variable {N:Nat} {D:List Deferred} {w0:World} {F:Nat->Prop} {G0 G G1 G2:GH} {L L1 L2:OL} {T Xs:List (Nat × ah)}
variable {r:Option Nat} {P:Program} {Q:Exit->Act->World->Prop} {l:List Oper} {a a':Act} {w w':World}
theorem St.full (H:St N D w0 F G0 G L T a w):St N D w0 F G0 G L (T++full N a) a w:=by
 refine ⟨H.oP,fun t v ht=>?_,H.uU,H.hp⟩
 rw [Sj] at ht
 cases hT:lk T t with
 | some u=>rw [hT] at ht;simp only [pO] at ht;subst ht;exact H.get t u hT
 | none =>
  rw [hT] at ht
  by_cases hlt:t < N
  ·rw [Sk a hlt] at ht
   simp only [pO] at ht
   have h2:t < a.tmps.size:=by rw [H.oP];exact hlt
   rw [<- ht,Array.getD_eq_getD_getElem?,Array.getElem?_eq_getElem h2]
   rfl
  ·exfalso
   have:∀ (L:List Nat),t∉L->lk (L.map fun t=>(t,a.tmps.getD t undef)) t=none:=by
    intro L
    induction L with
    | nil=>intro _;rfl
    | cons s L ih=>intro h;simp only [fD];rw [wW (fun e=>h (by simp [e])),ih (fun h'=>h (by simp [h']))]
   rw [show lk (Proofs.YtdiflmikikiedaaGreat.full N a) t=none from this _ (by simp;omega)] at ht
   cases ht
theorem St.gZ (H:St N D w0 F G0 G L T a w) {t:Nat} {v:ah} (h:a.tmps[t]?=some v):St N D w0 F G0 G L ((t,v) :: T) a w :=
 ⟨H.oP,fun s u hs=>by
  by_cases e:t=s
  ·subst e;rw [yg] at hs;simp only [pO] at hs;subst hs;exact h
  ·rw [wW e] at hs;exact H.get s u hs,H.uU,H.hp⟩
def DX (N:Nat) (D:List Deferred) (w0:World) (F:Nat->Prop) (G0 G:GH) (L:OL) (T:List (Nat × ah)) (l:List Oper) (pr:Nat->ah->GH->Prop) (S:Nat->Bool) (a:Act) (w:World):Prop :=
 ∃ G1,(∀ k o,G k=some o->G1 k=some o)∧St N D w0 F G0 G1 L T a w∧∀ i d,S i=true->dV l i=some d->∃ v,a.tmps[d]?=some v∧pr i v G1
def pR (l:List Oper) (T:List (Nat × ah)) (i:Nat):Bool :=
 match dV l i with|none=>true|some d=>(lk T d).isNone && (List.range l.length).all fun j=>bif Nat.beq i j then true else !(dV l j == some d)
def anX (l:List Oper) (T:List (Nat × ah)):Bool :=
 (List.range l.length).all (pR l T)
theorem wL {pr:Nat->ah->GH->Prop} {S:Nat->Bool} {i d:Nat} {v:ah} (hok:pR l T i=true) (kC:∀ i v (G G':GH),(∀ k o,G k=some o->G' k=some o)->pr i v G->pr i v G') (hi:dV l i=some d) (hdl:Nat.blt i l.length=true)
  (HT:St N D w0 F G0 G1 L T a w) (Hb:St N D w0 F G0 G1 L (Xs++full N a) a w) (hG:∀ k o,G k=some o->G1 k=some o) (hv:∀ i d,S i=true->dV l i=some d->∃ v,a.tmps[d]?=some v∧pr i v G1)
  (hG2:∀ k o,G1 k=some o->G2 k=some o) (hp:pr i v G2) (H:St N D w0 F G0 G2 L ((d,v) :: (Xs++full N a)) a' w'):DX N D w0 F G0 G L T l pr (cO S i) a' w':=by
 have hil:i < l.length:=Eq.mp Nat.blt_eq hdl
 have hok1:=hok
 rw [pR,hi] at hok1
 simp only [iL,Option.isNone_iff_eq_none,jE,vN] at hok1
 have hsame:∀ t,t≠d->a'.tmps[t]?=a.tmps[t]?:=by
  intro t ht
  by_cases hlt:t < N
  ·have h1:∃ u,lk (Xs++full N a) t=some u:=by
    rw [Sj]
    cases lk Xs t with
    | some u=>exact ⟨u,M⟩
    | none=>exact ⟨_,Sk a hlt⟩
   obtain ⟨u,hu⟩:=h1
   rw [Hb.get t u hu,H.get t u (by rw [wW (Ne.symm ht)];exact hu)]
  ·rw [Array.getElem?_eq_none (by rw [H.oP];omega),Array.getElem?_eq_none (by rw [Hb.oP];omega)]
 refine ⟨G2,fun k o hk=>hG2 k o (hG k o hk),⟨H.oP,fun t u ht=>?_,H.uU,H.hp⟩,fun j e hj he=>?_⟩
 ·rw [hsame t (fun e=>by rw [e,hok1.1] at ht;cases ht)]
  exact HT.get t u ht
 ·by_cases hji:j=i
  ·subst hji
   rw [hi] at he
   simp only [pO] at he
   subst he
   exact ⟨v,H.get d v (yg _ _ _),hp⟩
  ·have hSj:S j=true:=by unfold cO at hj;rwa [av hji] at hj
   obtain ⟨u,hu1,hu2⟩:=hv j e hSj he
   have hjl:j < l.length:=by
    unfold dV at he
    by_cases hl:j < l.length
    ·exact hl
    ·rw [List.getElem?_eq_none O] at he;cases he
   have hne:e≠d:=by
    intro e'
    subst e'
    have h2:=hok1.2 j hjl
    have hb:Nat.beq i j=false:=by
     cases h:Nat.beq i j with
     | false=>rfl
     | true=>exact absurd (BS h).symm hji
    rw [hb,he] at h2
    simp at h2
   exact ⟨u,by rw [hsame e hne];exact hu1,kC j u _ _ hG2 hu2⟩
def wC (l:List Oper) (bJ:List (List Nat)) (B:List Nat):Bool :=
 (List.range B.length).all (fun p=>match B[p]? with|none=>false|some b=>Nat.blt b l.length && (List.range l.length).all fun i=>B.contains i && !(B.take p).contains i || (bJ.getD b []).contains i) &&
 (List.range l.length).all fun i=>B.contains i || (bJ.getD i []).all fun j=>!B.contains j
def qb (l:List Oper):List Nat->List Oper
 | []=>[]
 | b :: B=>match l[b]? with|some o=>o :: qb l B|none=>qb l B
theorem nG {ops:Array Oper} {Q':Exit->Act->World->Prop} (hq:∀ e a w,Q e a w->Q' e a w):∀ {L:List Oper} {a:Act} {w:World},WL r P ops Q L a w->WL r P ops Q' L a w
 | [],a,w,h=>hq _ _ _ h
 | o :: L,a,w,h=>by
  have h':wpListIn (FW r) 0 P ops Q (o :: L) a w:=h
  show wpListIn (FW r) 0 P ops Q' (o :: L) a w
  unfold wpListIn at h' |-
  split
  ·rename_i hw
   rw [aD hw] at h'
   refine ⟨h'.1,?_⟩
   have h2:=h'.2
   generalize (o.semAt (FW r).round a.eval).run P w=res at h2 |-
   cases res with
   | ok x w1 =>
    cases x with
    | value v=>exact nG hq h2
    | skip=>exact nG hq h2
    | defer d=>exact nG hq h2
    | enter f args=>exact ⟨h2.1,h2.2.mono fun e w2 he=>by
      cases e with
      | returned v=>exact nG hq he
      | panicked ch=>exact hq _ _ _ he
      | outgrown=>obtain ⟨x,y,h3⟩:=he;exact ⟨x,y,hq _ _ _ h3⟩⟩
    | row ZI args=>exact ⟨h2.1,h2.2.mono fun v w2 he=>nG hq he⟩
    | round l f t U0 b=>exact ⟨h2.1,h2.2.mono fun e w2 he=>by
      cases e with
      | returned v=>exact nG hq he
      | panicked ch=>exact hq _ _ _ he
      | outgrown=>obtain ⟨x,y,h3⟩:=he;exact ⟨x,y,hq _ _ _ h3⟩⟩
    | _=>exact h2.elim
   | halt x w1 =>
    cases x with
    | panic v=>exact hq _ _ _ h2
    | _=>exact h2.elim
  ·rename_i hw
   rw [av hw] at h'
   exact ⟨h'.1,nG hq h'.2⟩
theorem aky {ops:Array Oper} {o:Oper} {L:List Oper} {K:Act->World->Prop} (hK:∀ a w,WL r P ops (fun e a w=>e=.normal∧Q .normal a w) L a w->K a w) (h:WL r P ops (fun e a w=>e=.normal∧Q .normal a w) (o :: L) a w):WL r P ops (fun e a' w'=>e=.normal∧K a' w') [o] a w:=by
 have h':wpListIn (FW r) 0 P ops (fun e a w=>e=.normal∧Q .normal a w) (o :: L) a w:=h
 show wpListIn (FW r) 0 P ops _ [o] a w
 unfold wpListIn at h' |-
 split
 ·rename_i hw
  rw [aD hw] at h'
  refine ⟨h'.1,?_⟩
  have h2:=h'.2
  generalize (o.semAt (FW r).round a.eval).run P w=res at h2 |-
  cases res with
  | ok x w1 =>
   cases x with
   | value v=>exact ⟨M,hK _ _ h2⟩
   | skip=>exact ⟨M,hK _ _ h2⟩
   | defer d=>exact ⟨M,hK _ _ h2⟩
   | enter f args=>exact ⟨h2.1,h2.2.mono fun e w2 he=>by
     cases e with
     | returned v=>exact ⟨M,hK _ _ he⟩
     | panicked ch=>exact absurd he.1 (by simp)
     | outgrown=>obtain ⟨_,_,h3,_⟩:=he;exact absurd h3 (by simp)⟩
   | row ZI args=>exact ⟨h2.1,h2.2.mono fun v w2 he=>⟨M,hK _ _ he⟩⟩
   | round l f t U0 b=>exact ⟨h2.1,h2.2.mono fun e w2 he=>by
     cases e with
     | returned v=>exact ⟨M,hK _ _ he⟩
     | panicked ch=>exact absurd he.1 (by simp)
     | outgrown=>obtain ⟨_,_,h3,_⟩:=he;exact absurd h3 (by simp)⟩
   | _=>exact h2.elim
  | halt x w1 =>
   cases x with
   | panic v=>exact absurd h2.1 (by simp)
   | _=>exact h2.elim
 ·rename_i hw
  rw [av hw] at h'
  exact ⟨h'.1,M,hK _ _ h'.2⟩
theorem aml {id:Nat} (hm:P.follows .mixedOrders=true) (bJ:List (List Nat)) (B:List Nat) (hk:xO l bJ=true) (hB:wC l bJ B=true) (pr:Nat->ah->GH->Prop) (kC:∀ i v (G G':GH),(∀ k o,G k=some o->G' k=some o)->pr i v G->pr i v G')
  (H:St N D w0 F G0 G L T a w)
  (hstep:∀ i o S a w G1,l[i]?=some o->B.contains i=false->S i=false->(∀ j∈bJ.getD i [],S j=true)->(∀ k o,G k=some o->G1 k=some o)->St N D w0 F G0 G1 L T a w->(∀ i d,S i=true->dV l i=some d->∃ v,a.tmps[d]?=some v∧pr i v G1) ->
   WL r P l.toArray (fun e a' w'=>e=.normal∧DX N D w0 F G0 G L T l pr (cO S i) a' w') [o] a w)
  (hend:∀ a w G1,(∀ k o,G k=some o->G1 k=some o)->St N D w0 F G0 G1 L T a w->(∀ i d,B.contains i=false->dV l i=some d->∃ v,a.tmps[d]?=some v∧pr i v G1)->WL r P l.toArray (fun e a w=>e=.normal∧Q .normal a w) (qb l B) a w):WP r P (.region id l.toArray true) Q a w:=by
 have hB1:∀ p b,B[p]?=some b->b < l.length∧∀ i,i < l.length->(B.contains i=false∨(B.take p).contains i=true)->i∈bJ.getD b []:=by
  intro p b hp
  simp only [wC,iL] at hB
  have h1:=jE.1 hB.1 p (vN.2 (ko.1 hp).1)
  rw [hp] at h1
  simp only [iL,jE,vN] at h1
  refine ⟨Eq.mp Nat.blt_eq h1.1,fun i hi hor=>?_⟩
  have h2:=h1.2 i hi
  rcases hor with h3|h3
  ·have h4:i∉B:=by simpa using h3
   simpa [h4] using h2
  ·have h4:i∈B.take p:=by simpa using h3
   simpa [h4] using h2
 have hB2:∀ i,i < l.length->B.contains i=false->∀ j∈bJ.getD i [],B.contains j=false:=by
  intro i hi hb j hj
  simp only [wC,iL] at hB
  have h1:=jE.1 hB.2 i (vN.2 hi)
  rw [hb] at h1
  simp only [Bool.false_or,jE] at h1
  simpa using h1 j hj
 refine adw hm bJ hk (fun S a w=>((∀ i,B.contains i=true->S i=false)∧DX N D w0 F G0 G L T l pr S a w) ∨
   ∃ p,(∀ i,i < l.length->B.contains i=false->S i=true)∧(∀ i,(B.take p).contains i=true->S i=true)∧(∀ q b,B[q]?=some b->p<=q->S b=false)∧WL r P l.toArray (fun e a w=>e=.normal∧Q .normal a w) (qb l (B.drop p)) a w)
  (.inl ⟨fun _ _=>rfl,G,fun _ _ h=>h,H.move H.hp.drew,fun _ _ h=>by cases h⟩) ?_ ?_
 ·intro i o S a w ho hX aM jm hdesc
  have hil:i < l.length:=(ko.1 ho).1
  by_cases hbi:B.contains i=true
  ·-- an operation of the tail: all that stands ahead of it is done
   obtain ⟨p0,hp0⟩:=List.getElem?_of_mem (by simpa using hbi:i∈B)
   have hall:∀ j,j < l.length->B.contains j=false->S j=true:=fun j hj hb=>jm j ((hB1 p0 i hp0).2 j hj (.inl hb))
   have Yf:∃ p,(∀ i,(B.take p).contains i=true->S i=true)∧(∀ q b,B[q]?=some b->p<=q->S b=false)∧WL r P l.toArray (fun e a w=>e=.normal∧Q .normal a w) (qb l (B.drop p)) a w:=by
    rcases hX with ⟨h1,G1,hG,HS,hv⟩|⟨p,_,h2,h3,h4⟩
    ·refine ⟨0,by simp,fun q b hq _=>h1 b (by simpa using lV hq),?_⟩
     refine hend a w G1 hG HS fun j e hb he=>?_
     have hjl:j < l.length:=by
      unfold dV at he
      by_cases hl:j < l.length
      ·exact hl
      ·rw [List.getElem?_eq_none O] at he;cases he
     exact hv j e (hall j hjl hb) he
    ·exact ⟨p,h2,h3,h4⟩
   obtain ⟨p,h2,h3,h4⟩:=Yf
   -- i is the next one
   have hpp:p<=p0:=by
    rcases Nat.lt_or_ge p0 p with hlt|hge
    ·have:(B.take p).contains i=true:=by
      simp only [qE]
      exact lV (i:=p0) (by rw [uN,aD hlt];exact hp0)
     rw [h2 i this] at aM;cases aM
    ·exact hge
   have Ii:p < B.length:=by have:=(ko.1 hp0).1;omega
   have hbp:B[p]?=some B[p]:=eB Ii
   have heq:B[p]=i:=by
    rcases Nat.lt_or_ge p p0 with hlt|hge
    ·exfalso
     have hin:B[p]∈bJ.getD i []:=(hB1 p0 i hp0).2 _ (hB1 p _ hbp).1 (.inr (by
      simp only [qE]
      exact lV (i:=p) (by rw [uN,aD hlt];exact hbp)))
     have:=jm _ hin
     rw [h3 p _ hbp (eG _)] at this;cases this
    ·have:p=p0:=by omega
     subst this
     rw [hbp] at hp0;simpa using hp0
   have hdrop:B.drop p=i :: B.drop (p+1):=by rw [rR Ii,heq]
   have hops:qb l (B.drop p)=o :: qb l (B.drop (p+1)):=by rw [hdrop];simp [qb,ho]
   rw [hops] at h4
   refine aky (fun a' w' h5=>.inr ⟨p+1,fun j hj hb=>?_,fun j hj=>?_,fun q b hq hpq=>?_,h5⟩) h4
   ·unfold cO;split
    ·rfl
    ·exact hall j hj hb
   ·unfold cO;split
    ·rfl
    ·rename_i hne
     refine h2 j ?_
     simp only [qE] at hj |-
     rw [kG Ii,jQ] at hj
     rcases hj with hj|hj
     ·exact hj
     ·simp only [oC] at hj;exact absurd (hj.trans heq) hne
   ·unfold cO
    rw [av ?_]
    ·exact h3 q b hq O
    ·rintro rfl
     -- i would stand twice in B: it would come ahead of itself
     have h6:=(hB1 q b hq).2 b (hB1 q b hq).1 (.inr (by
      simp only [qE]
      exact lV (i:=p) (by rw [uN,aD O];rw [hbp,heq])))
     rw [jm _ h6] at aM;cases aM
  ·have HV:B.contains i=false:=by cases h:B.contains i with|false=>rfl|true=>exact absurd h hbi
   rcases hX with ⟨h1,G1,hG,HS,hv⟩|⟨p,h0,_,_,_⟩
   ·refine nG (fun e a' w' ⟨he,hD⟩=>⟨he,.inl ⟨fun j hj=>?_,hD⟩⟩) (hstep i o S a w G1 ho HV aM jm hG HS hv)
    unfold cO
    rw [av (by rintro rfl;rw [HV] at hj;cases hj)]
    exact h1 j hj
   ·rw [h0 i hil HV] at aM;cases aM
 ·intro S a w hall hX
  rcases hX with ⟨h1,G1,hG,HS,hv⟩|⟨p,_,_,h3,h4⟩
  ·have hnil:B=[]:=by
    cases B with
    | nil=>rfl
    | cons b B=>have h5:=h1 b (by simp);rw [hall b (hB1 0 b M).1] at h5;cases h5
   subst hnil
   have h6:=hend a w G1 hG HS fun j e _ he=>by
    have hjl:j < l.length:=by
     unfold dV at he
     by_cases hl:j < l.length
     ·exact hl
     ·rw [List.getElem?_eq_none O] at he;cases he
    exact hv j e (hall j hjl) he
   exact h6.2
  ·have hnil:B.drop p=[]:=by
    cases hd:B.drop p with
    | nil=>rfl
    | cons b B' =>
     have hb:B[p]?=some b:=by
      have:=cZ (fun x:List Nat=>x[0]?) hd
      simpa using this
     have h5:=h3 p b hb (eG _)
     rw [hall b (hB1 p b hb).1] at h5;cases h5
   rw [hnil] at h4
   exact h4.2
def allI (φ:Nat->Oper->Prop):Nat->List Oper->Prop
 | _,[]=>True
 | i,o :: r=>φ i o∧allI φ (i+1) r
theorem dB {φ:Nat->Oper->Prop} {i:Nat}:allI φ i []:=trivial
theorem bN {φ:Nat->Oper->Prop} {i:Nat} {o:Oper} {r:List Oper} (h:φ i o) (t:allI φ (i+1) r):allI φ i (o :: r):=⟨h,t⟩
theorem yH {φ:Nat->Oper->Prop}:∀ {l:List Oper} {s:Nat},allI φ s l->∀ i o,l[i]?=some o->φ (s+i) o
 | [],s,_,i,o,h=>by simp at h
 | x :: l,s,h,0,o,ho=>by simp at ho;subst ho;exact h.1
 | x :: l,s,h,i+1,o,ho=>by
  have:=yH h.2 i o (by simpa using ho)
  rwa [show s+1+i=s+(i+1) by omega] at this
theorem Ce {id:Nat} (hm:P.follows .mixedOrders=true) (bJ:List (List Nat)) (B:List Nat) (hk:xO l bJ=true) (hB:wC l bJ B=true) (pr:Nat->ah->GH->Prop) (kC:∀ i v (G G':GH),(∀ k o,G k=some o->G' k=some o)->pr i v G->pr i v G')
  (H:St N D w0 F G0 G L T a w)
  (hstep:allI (fun i o=>∀ S a w G1,B.contains i=false->S i=false->(∀ j∈bJ.getD i [],S j=true)->(∀ k o,G k=some o->G1 k=some o)->St N D w0 F G0 G1 L T a w->(∀ i d,S i=true->dV l i=some d->∃ v,a.tmps[d]?=some v∧pr i v G1) ->
   WL r P l.toArray (fun e a' w'=>e=.normal∧DX N D w0 F G0 G L T l pr (cO S i) a' w') [o] a w) 0 l)
  (hend:∀ a w G1,(∀ k o,G k=some o->G1 k=some o)->St N D w0 F G0 G1 L T a w->(∀ i d,B.contains i=false->dV l i=some d->∃ v,a.tmps[d]?=some v∧pr i v G1)->WL r P l.toArray (fun e a w=>e=.normal∧Q .normal a w) (qb l B) a w):WP r P (.region id l.toArray true) Q a w :=
 aml hm bJ B hk hB pr kC H (fun i o S a w G1 ho hb hs hc hg HS hv=>by
  have:=yH hstep i o ho
  rw [gy] at this
  exact this S a w G1 hb hs hc hg HS hv) hend
theorem aAd {pr:Nat->ah->GH->Prop} {i d j t:Nat} {op:Op} {ty:TypeId} {pos:String} {aQ:Array Edge} {want b:Bool} {bJ:List (List Nat)} {B:List Nat} (hok:pR l T i=true) (kC:∀ i v (G G':GH),(∀ k o,G k=some o->G' k=some o)->pr i v G->pr i v G')
  (hi:dV l i=some d) (hdl:Nat.blt i l.length=true) (hjd:dV l j=some t) (hjc:(bJ.getD i []).contains j=true) (hd:Nat.blt d N=true) (hb:∀ v G,pr j v G->v=.bool b) (hbw:b=!want) (hu:∀ G,pr i undef G) :
  ∀ S a w G1,B.contains i=false->S i=false->(∀ j∈bJ.getD i [],S j=true)->(∀ k o,G k=some o->G1 k=some o)->St N D w0 F G0 G1 L T a w->(∀ i d,S i=true->dV l i=some d->∃ v,a.tmps[d]?=some v∧pr i v G1) ->
   WL r P l.toArray (fun e a' w'=>e=.normal∧DX N D w0 F G0 G L T l pr (cO S i) a' w') [⟨some d,op,ty,pos,aQ,some (j,want)⟩] a w:=by
 intro S a w G1 _ _ hc hG HT hv
 obtain ⟨u,hu1,hu2⟩:=hv j t (hc j (qE.1 hjc)) hjd
 obtain rfl:=hb _ _ hu2
 have H:=(HT.gZ hu1).full
 refine aju H (by unfold dV at hjd;simpa using hjd) (show lk ((t,Value.bool b) :: (T++full N a)) t=_ by simp [lk]) hbw hd ?_
 intro a' H'
 refine aG ⟨M,?_⟩
 exact wL (Xs:=(t,.bool b) :: T) hok kC hi hdl HT H hG hv (fun _ _ h=>h) (hu G1) H'
def UZ (pr:Nat->ah->GH->Prop):List (Nat × Nat × ah)->Prop
 | []=>True
 | (j,_,u) :: r=>(∀ v G,pr j v G->v=u)∧UZ pr r
def CZ (us:List (Nat × Nat × ah)) (T:List (Nat × ah)):List (Nat × ah):=us.foldl (fun T x=>(x.2.1,x.2.2) :: T) T
theorem aaJ {pr:Nat->ah->GH->Prop} {S:Nat->Bool} {ds:List Nat}:∀ {us:List (Nat × Nat × ah)} {T:List (Nat × ah)},us.all (fun x=>ds.contains x.1 && (dV l x.1 == some x.2.1))=true->UZ pr us->(∀ j∈ds,S j=true)->(∀ i d,S i=true->dV l i=some d->∃ v,a.tmps[d]?=some v∧pr i v G1)->St N D w0 F G0 G1 L T a w->St N D w0 F G0 G1 L (CZ us T) a w
 | [],_,_,_,_,_,H=>H
 | (j,t,u) :: r,T,h,hu,hc,hv,H=>by
  simp only [List.all_cons,iL,beq_iff_eq] at h
  obtain ⟨v,hv1,hv2⟩:=hv j t (hc j (qE.1 h.1.1)) h.1.2
  obtain rfl:=hu.1 v _ hv2
  exact aaJ (us:=r) h.2 hu.2 hc hv (H.gZ hv1)
theorem gB {pr:Nat->ah->GH->Prop} {i d:Nat} {o:Oper} {bJ:List (List Nat)} {B:List Nat} (us:List (Nat × Nat × ah)) (hus:us.all (fun x=>(bJ.getD i []).contains x.1 && (dV l x.1 == some x.2.1))=true) (hu:UZ pr us) (hok:pR l T i=true) (kC:∀ i v (G G':GH),(∀ k o,G k=some o->G' k=some o)->pr i v G->pr i v G')
  (hi:dV l i=some d) (hdl:Nat.blt i l.length=true)
  (k:∀ S a w G1,(∀ k o,G k=some o->G1 k=some o)->St N D w0 F G0 G1 L T a w->St N D w0 F G0 G1 L (CZ us T++full N a) a w ->
   (∀ {a' w' G2 v},St N D w0 F G0 G2 L ((d,v) :: (CZ us T++full N a)) a' w'->(∀ k o,G1 k=some o->G2 k=some o)->pr i v G2->WL r P l.toArray (fun e a' w'=>e=.normal∧DX N D w0 F G0 G L T l pr (cO S i) a' w') [] a' w')->WL r P l.toArray (fun e a' w'=>e=.normal∧DX N D w0 F G0 G L T l pr (cO S i) a' w') [o] a w) :
  ∀ S a w G1,B.contains i=false->S i=false->(∀ j∈bJ.getD i [],S j=true)->(∀ k o,G k=some o->G1 k=some o)->St N D w0 F G0 G1 L T a w->(∀ i d,S i=true->dV l i=some d->∃ v,a.tmps[d]?=some v∧pr i v G1) ->
   WL r P l.toArray (fun e a' w'=>e=.normal∧DX N D w0 F G0 G L T l pr (cO S i) a' w') [o] a w:=by
 intro S a w G1 _ _ hc hG HT hv
 have H:=aaJ hus hu hc hv HT
 exact k S a w G1 hG HT H.full fun H' hG2 hp=>aG ⟨M,wL (Xs:=CZ us T) hok kC hi hdl HT H.full hG hv hG2 hp H'⟩
end
end
section
section
variable {N:Nat} {D:List Deferred} {w0:World} {F:Nat->Prop} {G0 G:GH} {L:List (Nat × Obj)} {T:List (Nat × ah)}
variable {r:Option Nat} {P:Program} {ops:Array Oper} {Q:Exit->Act->World->Prop} {rest:List Oper} {w:World}
variable {d:Nat} {ty:TypeId} {pos:String} {aQ:Array Edge}
theorem kH {a:Act} {l:List Oper} (H:St N D w0 F G0 G L T a w) (k:∀ a,St N D w0 F G0 G L T a w->WL r P ops Q l a w):WL r P ops Q l a w:=k a H
theorem Rm {x:Operand} {v:ah} (h:(ev T x,Nat.blt d N)=(some v,true)) (k:∀ a',St N D w0 F G0 G L ((d,v) :: T) a' w->WL r P ops Q rest a' w) :
  ∀ a,St N D w0 F G0 G L T a w->WL r P ops Q (⟨some d,.move x,ty,pos,aQ,none⟩ :: rest) a w:=fun _ H=>by
 simp only [iQ] at h
 exact LM H wn h.1 h.2 k
theorem Ra {x:Operand} {v:ah} (h:(ev T x,Nat.blt d N)=(some v,true)) (k:∀ a',St N D w0 F G0 G L ((d,v) :: T) a' w->WL r P ops Q rest a' w) :
  ∀ a,St N D w0 F G0 G L T a w->WL r P ops Q (⟨some d,.assign x,ty,pos,aQ,none⟩ :: rest) a w:=fun _ H=>by
 simp only [iQ] at h
 exact aza H wn h.1 h.2 k
theorem Rc {op:BinOp} {x y:Operand} {t yt:TypeId} {kd:IntKind} {p q:Int} {b:Bool} (h:(ev T x,ev T y,M7 op p q,Nat.blt d N)=(some (.int kd p),some (.int kd q),some b,true)) (k:∀ a',St N D w0 F G0 G L ((d,.bool b) :: T) a' w->WL r P ops Q rest a' w) :
  ∀ a,St N D w0 F G0 G L T a w->WL r P ops Q (⟨some d,.binOp op t x y yt,ty,pos,aQ,none⟩ :: rest) a w:=fun _ H=>by
 simp only [iQ] at h
 exact LJ H wn h.1 h.2.1 h.2.2.1 h.2.2.2 k
theorem Rf {s:TypeId} {x:Operand} {n b o off:Nat} (hs:dP P s n off) (h:(ev T x,Nat.blt d N)=(some (.pointer (some ⟨b,o,none⟩)),true)) (k:∀ a',St N D w0 F G0 G L ((d,.pointer (some ⟨b,o+off,none⟩)) :: T) a' w->WL r P ops Q rest a' w) :
  ∀ a,St N D w0 F G0 G L T a w->WL r P ops Q (⟨some d,.fieldAddr s x n,ty,pos,aQ,none⟩ :: rest) a w:=fun _ H=>by
 simp only [iQ] at h
 exact LK hs H wn h.1 h.2 k
theorem Rn {x:Operand} {t:TypeId} {b:Bool} (h:(ev T x,Nat.blt d N)=(some (.bool b),true)) (k:∀ a',St N D w0 F G0 G L ((d,.bool (!b)) :: T) a' w->WL r P ops Q rest a' w) :
  ∀ a,St N D w0 F G0 G L T a w->WL r P ops Q (⟨some d,.unOp .not t x,ty,pos,aQ,none⟩ :: rest) a w:=fun _ H=>by
 simp only [iQ] at h
 exact ajt H wn h.1 h.2 k
theorem Rk {x:Operand} {p:Addr} (h:(ev T x,Nat.blt d N)=(some (.pointer (some p)),true)) (k:∀ a',St N D w0 F G0 G L ((d,.pointer (some p)) :: T) a' w->WL r P ops Q rest a' w) :
  ∀ a,St N D w0 F G0 G L T a w->WL r P ops Q (⟨some d,.nilCheck x,ty,pos,aQ,none⟩ :: rest) a w:=fun _ H=>by
 simp only [iQ] at h
 exact zm H wn h.1 h.2 k
theorem Rl {x:Operand} {t e:TypeId} {A:Option Addr} {n c:Nat} (hs:P.underlying t=some (.slice e)) (h:(ev T x,Nat.blt d N)=(some (.slice A n c),true)) (k:∀ a',St N D w0 F G0 G L ((d,.int .i64 n) :: T) a' w->WL r P ops Q rest a' w) :
  ∀ a,St N D w0 F G0 G L T a w->WL r P ops Q (⟨some d,.call { callee:=.builtin .len,args:=#[x],argTypes:=#[t] },ty,pos,aQ,none⟩ :: rest) a w:=fun _ H=>by
 simp only [iQ] at h
 exact ajr hs H wn h.1 h.2 k
theorem Ro {t:TypeId} {sz bytes:Nat} {zero:List ah} (ht:Ty P t sz bytes zero false) (i:Nat) {x:Operand} {b o:Nat} {v:ah} {c:Array ah} {e:TypeId} {fz:Nat × Nat} (h:(ev T x,L[i]?,Nat.blt d N,c[o]?)=(some (.pointer (some ⟨b,o,none⟩)),some (b,.cells c e fz),true,some v))
  (k:∀ a',St N D w0 F G0 G L ((d,v) :: T) a' w->WL r P ops Q rest a' w) :
  ∀ a,St N D w0 F G0 G L T a w->WL r P ops Q (⟨some d,.load t x,ty,pos,aQ,none⟩ :: rest) a w:=fun _ H=>by
 simp only [iQ] at h
 exact rG ht H wn h.1 (H.hp.yu i h.2.1 h.2.2.2) h.2.2.1 k
theorem bQ {d':Nat} {ty':TypeId} {pos':String} {alm:Array Edge} {s:TypeId} {x:Operand} {n b o off:Nat} (hs:dP P s n off) {t:TypeId} {sz bytes:Nat} {zero:List ah} (ht:Ty P t sz bytes zero false) (i:Nat) {v:ah} {c:Array ah} {e:TypeId} {fz:Nat × Nat}
  (h:(ev T x,Nat.blt d N)=(some (.pointer (some ⟨b,o,none⟩)),true)) (h':(L[i]?,Nat.blt d' N,c[o+off]?)=(some (b,.cells c e fz),true,some v))
  (k:∀ a',St N D w0 F G0 G L ((d',v) :: (d,.pointer (some ⟨b,o+off,none⟩)) :: T) a' w->WL r P ops Q rest a' w) :
  ∀ a,St N D w0 F G0 G L T a w->WL r P ops Q (⟨some d,.fieldAddr s x n,ty,pos,aQ,none⟩ :: ⟨some d',.load t (.tmp d),ty',pos',alm,none⟩ :: rest) a w :=
 Rf hs h (Ro ht i (by simp only [iQ] at h' |-;exact ⟨yg ..,h'.1,h'.2.1,h'.2.2⟩) k)
theorem lv {a:Act} {fn:Func} {t:Nat} {v:ah} {R:Ending->World->Prop} (H:St N [] w0 F G0 G L T a w) (hr:fn.results=#[.tmp t]) (h:lk T t=some v) (hR:R (.returned v) w):bodyPostM (FW none) 0 P fn R .ret a w :=
 (leave1 H (rs:=[.tmp t]) hr (.cons (fM H h) .nil) hR).1
theorem St.rt {a:Act} {R:ah->GH->Prop} {v:ah} (H:St N D w0 (fun k=>k < w0.heap.size) G0 G L T a w) (hR:R v G):bG w0 G0 R (.returned v) w:=H.hp.ret hR
theorem St.ro {a:Act} (H:St N D w0 F G0 G L T a w):∀ k o,G k=some o->w.heap[k]?=some o:=H.hp.ro
theorem iJ {H:GH}:∀ k o,H k=some o->H k=some o:=fun _ _ h=>h
end
theorem eN {N:Nat} {w:World} {G:GH} {P:Program} (T:List (Nat × ah)) {f:FuncId} {fn:Func} {c:Code} {vs:List ah} {R:Ending->World->Prop} (hf:P.funcs[f]?=some fn) (hb:fn.body=some c) (hN:fn.ntmps=N) (hle:Nat.ble vs.length N=true)
  (hT:Gp 0 vs=T) (hG:Hold G w) (h:∀ a,St N [] w (fun k=>k < w.heap.size) G G [] T a w->WP none P c (bodyPostM (FW none) 0 P fn R) a w):Calls P f vs.toArray w R :=
 enter hf hb hN hle hT hG (fun _ h=>h) (fun _ h=>by cases h) (fun _ h=>by cases h) (fun _ h=>by cases h) List.Pairwise.nil h
def pvW:List ah->Nat->ah->Prop
 | [],_,_=>True
 | x :: _,0,v=>v=x
 | _ :: l,i+1,v=>pvW l i v
def Zv (vs:List ah) (i:Nat) (v:ah) (_:GH):Prop:=pvW vs i v
section
variable {N:Nat} {D:List Deferred} {w0:World} {F:Nat->Prop} {G0 G:GH} {L:OL} {T:List (Nat × ah)}
variable {P:Program} {l:List Oper} {r:Option Nat}
abbrev Mv (N:Nat) (D:List Deferred) (w0:World) (F:Nat->Prop) (G0 G:GH) (L:OL) (T:List (Nat × ah)) (r:Option Nat) (P:Program) (l:List Oper) (pr:Nat->ah->GH->Prop) (i d:Nat) (o:Oper) (us:List (Nat × Nat × ah)):Prop :=
 ∀ S a w G1,(∀ k o,G k=some o->G1 k=some o)->St N D w0 F G0 G1 L T a w->St N D w0 F G0 G1 L (CZ us T++full N a) a w ->
   (∀ {a' w' G2 v},St N D w0 F G0 G2 L ((d,v) :: (CZ us T++full N a)) a' w'->(∀ k o,G1 k=some o->G2 k=some o)->pr i v G2->WL r P l.toArray (fun e a' w'=>e=.normal∧DX N D w0 F G0 G L T l pr (cO S i) a' w') [] a' w')->WL r P l.toArray (fun e a' w'=>e=.normal∧DX N D w0 F G0 G L T l pr (cO S i) a' w') [o] a w
abbrev xC (N:Nat) (D:List Deferred) (w0:World) (F:Nat->Prop) (G0 G:GH) (L:OL) (T:List (Nat × ah)) (r:Option Nat) (P:Program) (l:List Oper) (bJ:List (List Nat)) (B:List Nat) (pr:Nat->ah->GH->Prop) (i:Nat) (o:Oper):Prop :=
 ∀ S a w G1,B.contains i=false->S i=false->(∀ j∈bJ.getD i [],S j=true)->(∀ k o,G k=some o->G1 k=some o)->St N D w0 F G0 G1 L T a w->(∀ i d,S i=true->dV l i=some d->∃ v,a.tmps[d]?=some v∧pr i v G1) ->
   WL r P l.toArray (fun e a' w'=>e=.normal∧DX N D w0 F G0 G L T l pr (cO S i) a' w') [o] a w
variable {pr:Nat->ah->GH->Prop} {i d:Nat} {o:Oper} {bJ:List (List Nat)} {B:List Nat}
theorem UM (h:(dV l i,Nat.blt i l.length)=(some d,true)) (k:Mv N D w0 F G0 G L T r P l pr i d o [])
  (hok:pR l T i=true:=by kernel_rfl) (kC:∀ i v (G G':GH),(∀ k o,G k=some o->G' k=some o)->pr i v G->pr i v G':=by exact fun _ _ _ _ _ h=>h):xC N D w0 F G0 G L T r P l bJ B pr i o:=by
 simp only [iQ] at h
 exact gB [] M trivial hok kC h.1 h.2 k
theorem gN (j t:Nat) {x:ah} (h:(dV l i,Nat.blt i l.length,[(j,t,x)].all (fun x=>(bJ.getD i []).contains x.1 && (dV l x.1 == some x.2.1)))=(some d,true,true)) (hu:pr j=fun v _=>v=x) (k:Mv N D w0 F G0 G L T r P l pr i d o [(j,t,x)])
  (hok:pR l T i=true:=by kernel_rfl) (kC:∀ i v (G G':GH),(∀ k o,G k=some o->G' k=some o)->pr i v G->pr i v G':=by exact fun _ _ _ _ _ h=>h):xC N D w0 F G0 G L T r P l bJ B pr i o:=by
 simp only [iQ] at h
 exact gB _ h.2.2 ⟨fun v G h=>by rw [hu] at h;exact h,aB⟩ hok kC h.1 h.2.1 k
theorem eT (j t j' t':Nat) {x x':ah} (h:(dV l i,Nat.blt i l.length,[(j,t,x),(j',t',x')].all (fun x=>(bJ.getD i []).contains x.1 && (dV l x.1 == some x.2.1)))=(some d,true,true)) (hu:(pr j,pr j')=(fun v _=>v=x,fun v _=>v=x')) (k:Mv N D w0 F G0 G L T r P l pr i d o [(j,t,x),(j',t',x')])
  (hok:pR l T i=true:=by kernel_rfl) (kC:∀ i v (G G':GH),(∀ k o,G k=some o->G' k=some o)->pr i v G->pr i v G':=by exact fun _ _ _ _ _ h=>h):xC N D w0 F G0 G L T r P l bJ B pr i o:=by
 simp only [iQ] at h hu
 exact gB _ h.2.2 ⟨fun v G h=>by rw [hu.1] at h;exact h,fun v G h=>by rw [hu.2] at h;exact h,aB⟩ hok kC h.1 h.2.1 k
theorem Dj (j t j' t' j2 t2:Nat) {x x' x2:ah} (h:(dV l i,Nat.blt i l.length,[(j,t,x),(j',t',x'),(j2,t2,x2)].all (fun x=>(bJ.getD i []).contains x.1 && (dV l x.1 == some x.2.1)))=(some d,true,true)) (hu:(pr j,pr j',pr j2)=(fun v _=>v=x,fun v _=>v=x',fun v _=>v=x2)) (k:Mv N D w0 F G0 G L T r P l pr i d o [(j,t,x),(j',t',x'),(j2,t2,x2)])
  (hok:pR l T i=true:=by kernel_rfl) (kC:∀ i v (G G':GH),(∀ k o,G k=some o->G' k=some o)->pr i v G->pr i v G':=by exact fun _ _ _ _ _ h=>h):xC N D w0 F G0 G L T r P l bJ B pr i o:=by
 simp only [iQ] at h hu
 exact gB _ h.2.2 ⟨fun v G h=>by rw [hu.1] at h;exact h,fun v G h=>by rw [hu.2.1] at h;exact h,fun v G h=>by rw [hu.2.2] at h;exact h,aB⟩ hok kC h.1 h.2.1 k
theorem aZ (j:Nat) {t:Nat} {op:Op} {ty:TypeId} {pos:String} {aQ:Array Edge} {want b b':Bool} (he:b'=b) (h:(dV l i,Nat.blt i l.length,dV l j,(bJ.getD i []).contains j,Nat.blt d N,b,b)=(some d,true,some t,true,true,!want,b)) (hv:pr j=fun v _=>v=.bool b')
  (hok:pR l T i=true:=by kernel_rfl) (kC:∀ i v (G G':GH),(∀ k o,G k=some o->G' k=some o)->pr i v G->pr i v G':=by exact fun _ _ _ _ _ h=>h) (hu:∀ G,pr i undef G:=by exact fun _=>rfl):xC N D w0 F G0 G L T r P l bJ B pr i ⟨some d,op,ty,pos,aQ,some (j,want)⟩:=by
 simp only [iQ] at h
 exact aAd (b:=b) hok kC h.1 h.2.1 h.2.2.1 h.2.2.2.1 h.2.2.2.2.1 (fun v G g=>by rw [hv] at g;rw [<- he];exact g) h.2.2.2.2.2.1 hu
theorem bT {X:(Nat->Bool)->Act->World->GH->Prop} {b:Bool} (h:b=true):∀ S a w G1,b=false->X S a w G1:=fun _ _ _ _ hB=>by rw [h] at hB;cases hB
theorem ay {φ:Nat->Oper->Prop} {i:Nat} {o1 o2 o3 o4:Oper} {r:List Oper} (h1:φ i o1) (h2:φ (i+1) o2) (h3:φ (i+1+1) o3) (h4:φ (i+1+1+1) o4) (t:allI φ (i+1+1+1+1) r):allI φ i (o1 :: o2 :: o3 :: o4 :: r):=⟨h1,h2,h3,h4,t⟩
end
section
variable {N:Nat} {D:List Deferred} {w0:World} {F:Nat->Prop} {G0 G:GH} {L:List (Nat × Obj)} {T:List (Nat × ah)}
variable {r:Option Nat} {P:Program} {ops:Array Oper} {Q:Exit->Act->World->Prop} {rest:List Oper} {w:World}
variable {d:Nat} {ty:TypeId} {pos:String} {aQ:Array Edge} {j t:Nat} {want b:Bool}
theorem YM {x:Operand} {v:ah} (hb:b=want) (h:((ops[j]?).bind (·.dst),lk T t,ev T x,Nat.blt d N)=(some t,some (.bool b),some v,true)) (k:∀ a',St N D w0 F G0 G L ((d,v) :: T) a' w->WL r P ops Q rest a' w) :
  ∀ a,St N D w0 F G0 G L T a w->WL r P ops Q (⟨some d,.move x,ty,pos,aQ,some (j,want)⟩ :: rest) a w:=fun _ H=>by
 simp only [iQ] at h
 exact LM H (wg H h.1 h.2.1 hb) h.2.2.1 h.2.2.2 k
theorem YN {x:Operand} {y:TypeId} {v:Bool} (hb:b=want) (h:((ops[j]?).bind (·.dst),lk T t,ev T x,Nat.blt d N)=(some t,some (.bool b),some (.bool v),true)) (k:∀ a',St N D w0 F G0 G L ((d,.bool (!v)) :: T) a' w->WL r P ops Q rest a' w) :
  ∀ a,St N D w0 F G0 G L T a w->WL r P ops Q (⟨some d,.unOp .not y x,ty,pos,aQ,some (j,want)⟩ :: rest) a w:=fun _ H=>by
 simp only [iQ] at h
 exact ajt H (wg H h.1 h.2.1 hb) h.2.2.1 h.2.2.2 k
theorem YC {op:BinOp} {x y:Operand} {u yt:TypeId} {kd:IntKind} {p q:Int} {c:Bool} (hb:b=want) (h:((ops[j]?).bind (·.dst),lk T t,ev T x,ev T y,M7 op p q,Nat.blt d N)=(some t,some (.bool b),some (.int kd p),some (.int kd q),some c,true)) (k:∀ a',St N D w0 F G0 G L ((d,.bool c) :: T) a' w->WL r P ops Q rest a' w) :
  ∀ a,St N D w0 F G0 G L T a w->WL r P ops Q (⟨some d,.binOp op u x y yt,ty,pos,aQ,some (j,want)⟩ :: rest) a w:=fun _ H=>by
 simp only [iQ] at h
 exact LJ H (wg H h.1 h.2.1 hb) h.2.2.1 h.2.2.2.1 h.2.2.2.2.1 h.2.2.2.2.2 k
theorem YF {s:TypeId} {x:Operand} {n e o off:Nat} (hs:dP P s n off) (hb:b=want) (h:((ops[j]?).bind (·.dst),lk T t,ev T x,Nat.blt d N)=(some t,some (.bool b),some (.pointer (some ⟨e,o,none⟩)),true)) (k:∀ a',St N D w0 F G0 G L ((d,.pointer (some ⟨e,o+off,none⟩)) :: T) a' w->WL r P ops Q rest a' w) :
  ∀ a,St N D w0 F G0 G L T a w->WL r P ops Q (⟨some d,.fieldAddr s x n,ty,pos,aQ,some (j,want)⟩ :: rest) a w:=fun _ H=>by
 simp only [iQ] at h
 exact LK hs H (wg H h.1 h.2.1 hb) h.2.2.1 h.2.2.2 k
theorem YO {u:TypeId} {sz bytes:Nat} {zero:List ah} (ht:Ty P u sz bytes zero false) (i:Nat) {x:Operand} {e o:Nat} {v:ah} {c:Array ah} {y:TypeId} {fz:Nat × Nat} (hb:b=want) (h:((ops[j]?).bind (·.dst),lk T t,ev T x,L[i]?,Nat.blt d N,c[o]?)=(some t,some (.bool b),some (.pointer (some ⟨e,o,none⟩)),some (e,.cells c y fz),true,some v))
  (k:∀ a',St N D w0 F G0 G L ((d,v) :: T) a' w->WL r P ops Q rest a' w) :
  ∀ a,St N D w0 F G0 G L T a w->WL r P ops Q (⟨some d,.load u x,ty,pos,aQ,some (j,want)⟩ :: rest) a w:=fun _ H=>by
 simp only [iQ] at h
 exact rG ht H (wg H h.1 h.2.1 hb) h.2.2.1 (H.hp.yu i h.2.2.2.1 h.2.2.2.2.2) h.2.2.2.2.1 k
theorem YR {u:TypeId} {sz bytes:Nat} {zero:List ah} (ht:Ty P u sz bytes zero false) {x:Operand} {e o:Nat} {v:ah} (hb:b=want) (h:((ops[j]?).bind (·.dst),lk T t,ev T x,Nat.blt d N)=(some t,some (.bool b),some (.pointer (some ⟨e,o,none⟩)),true)) (hv:aH G e o=some v)
  (k:∀ a',St N D w0 F G0 G L ((d,v) :: T) a' w->WL r P ops Q rest a' w) :
  ∀ a,St N D w0 F G0 G L T a w->WL r P ops Q (⟨some d,.load u x,ty,pos,aQ,some (j,want)⟩ :: rest) a w:=fun _ H=>by
 simp only [iQ] at h
 exact rG ht H (wg H h.1 h.2.1 hb) h.2.2.1 (H.hp.aH hv) h.2.2.2 k
theorem Rg {u:TypeId} {sz bytes:Nat} {zero:List ah} (ht:Ty P u sz bytes zero false) {x:Operand} {e o:Nat} {v:ah} (h:(ev T x,Nat.blt d N)=(some (.pointer (some ⟨e,o,none⟩)),true)) (hv:aH G e o=some v)
  (k:∀ a',St N D w0 F G0 G L ((d,v) :: T) a' w->WL r P ops Q rest a' w) :
  ∀ a,St N D w0 F G0 G L T a w->WL r P ops Q (⟨some d,.load u x,ty,pos,aQ,none⟩ :: rest) a w:=fun _ H=>by
 simp only [iQ] at h
 exact rG ht H wn h.1 (H.hp.aH hv) h.2 k
theorem YL {x:Operand} {u e:TypeId} {A:Option Addr} {n c:Nat} (hs:P.underlying u=some (.slice e)) (hb:b=want) (h:((ops[j]?).bind (·.dst),lk T t,ev T x,Nat.blt d N)=(some t,some (.bool b),some (.slice A n c),true)) (k:∀ a',St N D w0 F G0 G L ((d,.int .i64 n) :: T) a' w->WL r P ops Q rest a' w) :
  ∀ a,St N D w0 F G0 G L T a w->WL r P ops Q (⟨some d,.call { callee:=.builtin .len,args:=#[x],argTypes:=#[u] },ty,pos,aQ,some (j,want)⟩ :: rest) a w:=fun _ H=>by
 simp only [iQ] at h
 exact ajr hs H (wg H h.1 h.2.1 hb) h.2.2.1 h.2.2.2 k
theorem Ks {op:Op} (hb:b=!want) (h:((ops[j]?).bind (·.dst),lk T t,Nat.blt d N)=(some t,some (.bool b),true)) (k:∀ a',St N D w0 F G0 G L ((d,undef) :: T) a' w->WL r P ops Q rest a' w) :
  ∀ a,St N D w0 F G0 G L T a w->WL r P ops Q (⟨some d,op,ty,pos,aQ,some (j,want)⟩ :: rest) a w:=fun _ H=>by
 simp only [iQ] at h
 exact aju H h.1 h.2.1 hb h.2.2 k
theorem aL {d2:Nat} {o1 o2:Op} {ty2:TypeId} {pos2:String} {UY:Array Edge} (hb:b=!want) (h:((ops[j]?).bind (·.dst),lk T t,lk ((d,undef) :: T) t,Nat.blt d N,Nat.blt d2 N)=(some t,some (.bool b),some (.bool b),true,true)) (k:∀ a',St N D w0 F G0 G L ((d2,undef) :: (d,undef) :: T) a' w->WL r P ops Q rest a' w) :
  ∀ a,St N D w0 F G0 G L T a w->WL r P ops Q (⟨some d,o1,ty,pos,aQ,some (j,want)⟩ :: ⟨some d2,o2,ty2,pos2,UY,some (j,want)⟩ :: rest) a w:=by
 simp only [iQ] at h
 exact Ks hb (by rw [h.1,h.2.1,h.2.2.2.1]) (Ks hb (by rw [h.1,h.2.2.1,h.2.2.2.2]) k)
theorem aP {d2 d3:Nat} {o1 o2 o3:Op} {ty2 ty3:TypeId} {pos2 axE:String} {UY aln:Array Edge} (hb:b=!want) (h:((ops[j]?).bind (·.dst),lk T t,lk ((d,undef) :: T) t,lk ((d2,undef) :: (d,undef) :: T) t,Nat.blt d N,Nat.blt d2 N,Nat.blt d3 N)=(some t,some (.bool b),some (.bool b),some (.bool b),true,true,true)) (k:∀ a',St N D w0 F G0 G L ((d3,undef) :: (d2,undef) :: (d,undef) :: T) a' w->WL r P ops Q rest a' w) :
  ∀ a,St N D w0 F G0 G L T a w->WL r P ops Q (⟨some d,o1,ty,pos,aQ,some (j,want)⟩ :: ⟨some d2,o2,ty2,pos2,UY,some (j,want)⟩ :: ⟨some d3,o3,ty3,axE,aln,some (j,want)⟩ :: rest) a w:=by
 simp only [iQ] at h
 exact Ks hb (by rw [h.1,h.2.1,h.2.2.2.2.1]) (aL hb (by rw [h.1,h.2.2.1,h.2.2.2.1,h.2.2.2.2.2.1,h.2.2.2.2.2.2]) k)
theorem Ku {op:Op} (h:((ops[j]?).bind (·.dst),lk T t,Nat.blt d N)=(some t,some undef,true)) (k:∀ a',St N D w0 F G0 G L ((d,undef) :: T) a' w->WL r P ops Q rest a' w) :
  ∀ a,St N D w0 F G0 G L T a w->WL r P ops Q (⟨some d,op,ty,pos,aQ,some (j,want)⟩ :: rest) a w:=fun _ H=>by
 simp only [iQ] at h
 exact azp H h.1 h.2.1 h.2.2 k
theorem Pt {c x y:Operand} {v:ah} (hb:b=true) (h:(ev T c,ev T x,Nat.blt d N)=(some (.bool b),some v,true)) (k:∀ a',St N D w0 F G0 G L ((d,v) :: T) a' w->WL r P ops Q rest a' w) :
  ∀ a,St N D w0 F G0 G L T a w->WL r P ops Q (⟨some d,.pick c x y,ty,pos,aQ,none⟩ :: rest) a w:=fun _ H=>by
 simp only [iQ] at h
 exact OQ H wn h.1 hb h.2.1 h.2.2 k
theorem Pf {c x y:Operand} {v:ah} (hb:b=false) (h:(ev T c,ev T y,Nat.blt d N)=(some (.bool b),some v,true)) (k:∀ a',St N D w0 F G0 G L ((d,v) :: T) a' w->WL r P ops Q rest a' w) :
  ∀ a,St N D w0 F G0 G L T a w->WL r P ops Q (⟨some d,.pick c x y,ty,pos,aQ,none⟩ :: rest) a w:=fun _ H=>by
 simp only [iQ] at h
 exact TM H wn h.1 hb h.2.1 h.2.2 k
theorem PT {c x y:Operand} {v:ah} {b':Bool} (hb:b=want) (hb':b'=true) (h:((ops[j]?).bind (·.dst),lk T t,ev T c,ev T x,Nat.blt d N)=(some t,some (.bool b),some (.bool b'),some v,true)) (k:∀ a',St N D w0 F G0 G L ((d,v) :: T) a' w->WL r P ops Q rest a' w) :
  ∀ a,St N D w0 F G0 G L T a w->WL r P ops Q (⟨some d,.pick c x y,ty,pos,aQ,some (j,want)⟩ :: rest) a w:=fun _ H=>by
 simp only [iQ] at h
 exact OQ H (wg H h.1 h.2.1 hb) h.2.2.1 hb' h.2.2.2.1 h.2.2.2.2 k
theorem PF {c x y:Operand} {v:ah} {b':Bool} (hb:b=want) (hb':b'=false) (h:((ops[j]?).bind (·.dst),lk T t,ev T c,ev T y,Nat.blt d N)=(some t,some (.bool b),some (.bool b'),some v,true)) (k:∀ a',St N D w0 F G0 G L ((d,v) :: T) a' w->WL r P ops Q rest a' w) :
  ∀ a,St N D w0 F G0 G L T a w->WL r P ops Q (⟨some d,.pick c x y,ty,pos,aQ,some (j,want)⟩ :: rest) a w:=fun _ H=>by
 simp only [iQ] at h
 exact TM H (wg H h.1 h.2.1 hb) h.2.2.1 hb' h.2.2.2.1 h.2.2.2.2 k
theorem Ri {s e:TypeId} {sz bytes:Nat} {zero:List ah} {agg:Bool} (hs:P.underlying s=some (.slice e)) (ht:Ty P e sz bytes zero agg) {x y:Operand} {q o n c:Nat} {kd:IntKind} {z:Int} {i:Nat}
  (h:(ev T x,ev T y,Nat.blt d N)=(some (.slice (some ⟨q,o,none⟩) n c),some (.int kd z),true)) (hz:z=(i:Int)) (k:∀ a',St N D w0 F G0 G L ((d,.pointer (some ⟨q,o+i*sz,none⟩)) :: T) a' w->WL r P ops Q rest a' w) (hn:i < n:=by first|assumption|omega) :
  ∀ a,St N D w0 F G0 G L T a w->WL r P ops Q (⟨some d,.indexAddr s x y,ty,pos,aQ,none⟩ :: rest) a w:=fun _ H=>by
 simp only [iQ] at h
 exact zZ hs ht i H wn h.1 h.2.1 hz hn h.2.2 k
theorem YI {s e:TypeId} {sz bytes:Nat} {zero:List ah} {agg:Bool} (hs:P.underlying s=some (.slice e)) (ht:Ty P e sz bytes zero agg) {x y:Operand} {q o n c:Nat} {kd:IntKind} {z:Int} {i:Nat} (hb:b=want)
  (h:((ops[j]?).bind (·.dst),lk T t,ev T x,ev T y,Nat.blt d N)=(some t,some (.bool b),some (.slice (some ⟨q,o,none⟩) n c),some (.int kd z),true)) (hz:z=(i:Int)) (k:∀ a',St N D w0 F G0 G L ((d,.pointer (some ⟨q,o+i*sz,none⟩)) :: T) a' w->WL r P ops Q rest a' w) (hn:i < n:=by first|assumption|omega) :
  ∀ a,St N D w0 F G0 G L T a w->WL r P ops Q (⟨some d,.indexAddr s x y,ty,pos,aQ,some (j,want)⟩ :: rest) a w:=fun _ H=>by
 simp only [iQ] at h
 exact zZ hs ht i H (wg H h.1 h.2.1 hb) h.2.2.1 h.2.2.2.1 hz hn h.2.2.2.2 k
theorem Rd {x y:Operand} {u yt:TypeId} {p q z:Int} (h:(ev T x,ev T y,p+q,Nat.blt d N)=(some (.int .i64 p),some (.int .i64 q),z,true)) (k:∀ a',St N D w0 F G0 G L ((d,.int .i64 z) :: T) a' w->WL r P ops Q rest a' w) (h1:-9223372036854775808<=z:=by omega) (h2:z < 9223372036854775808:=by omega) :
  ∀ a,St N D w0 F G0 G L T a w->WL r P ops Q (⟨some d,.binOp .add u x y yt,ty,pos,aQ,none⟩ :: rest) a w:=fun _ H=>by
 simp only [iQ] at h
 exact OP z H wn h.1 h.2.1 h.2.2.1 h1 h2 h.2.2.2 k
theorem Rs {x y:Operand} {u yt:TypeId} {p q z:Int} (h:(ev T x,ev T y,p - q,Nat.blt d N)=(some (.int .i64 p),some (.int .i64 q),z,true)) (k:∀ a',St N D w0 F G0 G L ((d,.int .i64 z) :: T) a' w->WL r P ops Q rest a' w) (h1:-9223372036854775808<=z:=by omega) (h2:z < 9223372036854775808:=by omega) :
  ∀ a,St N D w0 F G0 G L T a w->WL r P ops Q (⟨some d,.binOp .sub u x y yt,ty,pos,aQ,none⟩ :: rest) a w:=fun _ H=>by
 simp only [iQ] at h
 exact zo z H wn h.1 h.2.1 h.2.2.1 h1 h2 h.2.2.2 k
theorem Rv {x:Operand} {u:TypeId} {s:ByteArray} (hs:P.underlying u=some .string) (h:(ev T x,Nat.blt d N)=(some (.string s),true)) (k:∀ a',St N D w0 F G0 G L ((d,.int .i64 s.size) :: T) a' w->WL r P ops Q rest a' w) :
  ∀ a,St N D w0 F G0 G L T a w->WL r P ops Q (⟨some d,.call { callee:=.builtin .len,args:=#[x],argTypes:=#[u] },ty,pos,aQ,none⟩ :: rest) a w:=fun _ H=>by
 simp only [iQ] at h
 exact FM hs H wn h.1 h.2 k
theorem Kz {X:Act->World->Prop} (hK:∀ a w,X a w->WL r P ops Q [] a w) (k:∀ a,St N D w0 F G0 G L T a w->X a w):∀ a,St N D w0 F G0 G L T a w->WL r P ops Q [] a w:=fun a H=>hK a w (k a H)
theorem Kn {X:Act->World->Prop} (hK:∀ a w,X a w->Q .normal a w) (k:∀ a,St N D w0 F G0 G L T a w->X a w):∀ a,St N D w0 F G0 G L T a w->WL r P ops Q [] a w:=fun a H=>aG (hK a w (k a H))
theorem aj {X:Act->World->Prop} {x:Operand} {v:ah} (hK:∀ a w,X a w->WL r P ops Q [] a w) (h:(ev T x,Nat.blt d N)=(some v,true)) (k:∀ a',St N D w0 F G0 G L ((d,v) :: T) a' w->X a' w):∀ a,St N D w0 F G0 G L T a w->WL r P ops Q [⟨some d,.assign x,ty,pos,aQ,none⟩] a w:=Ra h (Kz hK k)
theorem bD {X:Act->World->Prop} {x:Operand} {v:ah} (hK:∀ a w,X a w->Q .normal a w) (h:(ev T x,Nat.blt d N)=(some v,true)) (k:∀ a',St N D w0 F G0 G L ((d,v) :: T) a' w->X a' w):∀ a,St N D w0 F G0 G L T a w->WL r P ops Q [⟨some d,.assign x,ty,pos,aQ,none⟩] a w:=Ra h (Kn hK k)
theorem Kc {X:Act->World->Prop} (hK:∀ a w,X a w->Q .normal a w) (k:∀ a,St N D w0 F G0 G L T a w->X a w):∀ a,St N D w0 F G0 G L T a w->WP r P .skip Q a w:=fun a H=>iE (hK a w (k a H))
theorem SR {id:Nat} {l:List Oper} {y:Code} (h:∀ K:Act->World->Prop,(∀ a w,WP r P y Q a w->WL r P l.toArray (Exit.then K Q) [] a w)->∀ a,St N D w0 F G0 G L T a w->WL r P l.toArray (Exit.then K Q) l a w):∀ a,St N D w0 F G0 G L T a w->WP r P (.seq (.region id l.toArray false) y) Q a w:=fun a H=>dz fun K hK=>h K hK a H
theorem SQ {x y:Code} (h:∀ K:Act->World->Prop,(∀ a w,WP r P y Q a w->K a w)->∀ a,St N D w0 F G0 G L T a w->WP r P x (Exit.then K Q) a w):∀ a,St N D w0 F G0 G L T a w->WP r P (.seq x y) Q a w:=fun a H=>bO fun K hK=>h K hK a H
theorem SC {id:Nat} {l:List Oper} (h:∀ a,St N D w0 F G0 G L T a w->WL r P l.toArray Q l a w):∀ a,St N D w0 F G0 G L T a w->WP r P (.region id l.toArray false) Q a w:=fun a H=>nU (h a H)
theorem SB {id:Nat} {c:Code} (h:∀ a,St N D w0 F G0 G L T a w->WP r P c (Exit.inBlock id Q) a w):∀ a,St N D w0 F G0 G L T a w->WP r P (.block id c) Q a w:=fun a H=>EL (h a H)
theorem kP {a:Act} {c:Code} (H:St N D w0 F G0 G L T a w) (k:∀ a,St N D w0 F G0 G L T a w->WP r P c Q a w):WP r P c Q a w:=k a H
theorem lr {a:Act} {fn:Func} {v:ah} {R:Ending->World->Prop} (H:St N [] w0 F G0 G L T a w) (hr:fn.results=#[.tmp t]) (hQ:(lk T t,Q .ret a w)=(some v,bodyPostM (FW none) 0 P fn R .ret a w)) (hR:R (.returned v) w):WP none P .ret Q a w:=by
 simp only [iQ] at hQ
 exact fE (by rw [hQ.2];exact lv H hr hQ.1 hR)
theorem dT {p:Prop} [Decidable p] (h:decide p=true):p:=pQ h
theorem dF {p:Prop} [Decidable p] (h:decide p=false):¬p:=of_decide_eq_false h
end
section
variable {N:Nat} {D:List Deferred} {w0:World} {F:Nat->Prop} {G0 G:GH} {L:OL} {T:List (Nat × ah)}
variable {P:Program} {l:List Oper} {r:Option Nat} {pr:Nat->ah->GH->Prop} {i d:Nat} {o:Oper} {bJ:List (List Nat)} {B:List Nat} {v:ah}
abbrev BO (N:Nat) (D:List Deferred) (w0:World) (F:Nat->Prop) (G0 G:GH) (L:OL) (T:List (Nat × ah)) (r:Option Nat) (P:Program) (l:List Oper) (d:Nat) (v:ah) (o:Oper) (us:List (Nat × Nat × ah)):Prop :=
 ∀ {Q:Exit->Act->World->Prop} {a:Act} {w:World} {G1:GH} (_:∀ k o,G k=some o->G1 k=some o),(∀ a',St N D w0 F G0 G1 L ((d,v) :: (CZ us T++full N a)) a' w->WL r P l.toArray Q [] a' w)->∀ a',St N D w0 F G0 G1 L (CZ us T++full N a) a' w->WL r P l.toArray Q [o] a' w
abbrev P8 (N:Nat) (D:List Deferred) (w0:World) (F:Nat->Prop) (G0 G:GH) (L:OL) (T:List (Nat × ah)) (r:Option Nat) (P:Program) (l:List Oper) (d:Nat) (v:ah) (o:Oper) (us:List (Nat × Nat × ah)):Prop :=
 ∀ {Q:Exit->Act->World->Prop} {a:Act} {w:World} {G1:GH},(∀ a',St N D w0 F G0 G1 L ((d,v) :: (CZ us T++full N a)) a' w->WL r P l.toArray Q [] a' w)->∀ a',St N D w0 F G0 G1 L (CZ us T++full N a) a' w->WL r P l.toArray Q [o] a' w
theorem BO.k {us:List (Nat × Nat × ah)} (hv:pr i=fun u _=>u=v) (k:BO N D w0 F G0 G L T r P l d v o us):Mv N D w0 F G0 G L T r P l pr i d o us :=
 fun _ a w G1 hG _ H fin=>k hG (fun _ H=>fin H (fun _ _ h=>h) (by rw [hv])) a H
theorem X0 (h:(dV l i,Nat.blt i l.length,pr i)=(some d,true,fun u _=>u=v)) (k:BO N D w0 F G0 G L T r P l d v o [])
  (hok:pR l T i=true:=by kernel_rfl) (kC:∀ i v (G G':GH),(∀ k o,G k=some o->G' k=some o)->pr i v G->pr i v G':=by exact fun _ _ _ _ _ h=>h):xC N D w0 F G0 G L T r P l bJ B pr i o:=by
 simp only [iQ] at h
 exact UM (by rw [h.1,h.2.1]) (BO.k h.2.2 k) hok kC
theorem X1 (j t:Nat) {x:ah} (h:(dV l i,Nat.blt i l.length,pr j,pr i,[(j,t,x)].all (fun x=>(bJ.getD i []).contains x.1 && (dV l x.1 == some x.2.1)))=(some d,true,fun v _=>v=x,fun u _=>u=v,true)) (k:BO N D w0 F G0 G L T r P l d v o [(j,t,x)])
  (hok:pR l T i=true:=by kernel_rfl) (kC:∀ i v (G G':GH),(∀ k o,G k=some o->G' k=some o)->pr i v G->pr i v G':=by exact fun _ _ _ _ _ h=>h):xC N D w0 F G0 G L T r P l bJ B pr i o:=by
 simp only [iQ] at h
 exact gN j t (by rw [h.1,h.2.1,h.2.2.2.2]) h.2.2.1 (BO.k h.2.2.2.1 k) hok kC
theorem X2 (j t j' t':Nat) {x x':ah} (h:(dV l i,Nat.blt i l.length,pr j,pr j',pr i,[(j,t,x),(j',t',x')].all (fun x=>(bJ.getD i []).contains x.1 && (dV l x.1 == some x.2.1)))=(some d,true,fun v _=>v=x,fun v _=>v=x',fun u _=>u=v,true)) (k:BO N D w0 F G0 G L T r P l d v o [(j,t,x),(j',t',x')])
  (hok:pR l T i=true:=by kernel_rfl) (kC:∀ i v (G G':GH),(∀ k o,G k=some o->G' k=some o)->pr i v G->pr i v G':=by exact fun _ _ _ _ _ h=>h):xC N D w0 F G0 G L T r P l bJ B pr i o:=by
 simp only [iQ] at h
 exact eT j t j' t' (by rw [h.1,h.2.1,h.2.2.2.2.2]) (by rw [h.2.2.1,h.2.2.2.1]) (BO.k h.2.2.2.2.1 k) hok kC
theorem X3 (j t j' t' j2 t2:Nat) {x x' x2:ah} (h:(dV l i,Nat.blt i l.length,pr j,pr j',pr j2,pr i,[(j,t,x),(j',t',x'),(j2,t2,x2)].all (fun x=>(bJ.getD i []).contains x.1 && (dV l x.1 == some x.2.1)))=(some d,true,fun v _=>v=x,fun v _=>v=x',fun v _=>v=x2,fun u _=>u=v,true)) (k:BO N D w0 F G0 G L T r P l d v o [(j,t,x),(j',t',x'),(j2,t2,x2)])
  (hok:pR l T i=true:=by kernel_rfl) (kC:∀ i v (G G':GH),(∀ k o,G k=some o->G' k=some o)->pr i v G->pr i v G':=by exact fun _ _ _ _ _ h=>h):xC N D w0 F G0 G L T r P l bJ B pr i o:=by
 simp only [iQ] at h
 exact Dj j t j' t' j2 t2 (by rw [h.1,h.2.1,h.2.2.2.2.2.2]) (by rw [h.2.2.1,h.2.2.2.1,h.2.2.2.2.1]) (BO.k h.2.2.2.2.2.1 k) hok kC
theorem Z0 (h:(dV l i,Nat.blt i l.length,pr i)=(some d,true,fun u _=>u=v)) (k:P8 N D w0 F G0 G L T r P l d v o [])
  (hok:pR l T i=true:=by kernel_rfl) (kC:∀ i v (G G':GH),(∀ k o,G k=some o->G' k=some o)->pr i v G->pr i v G':=by exact fun _ _ _ _ _ h=>h):xC N D w0 F G0 G L T r P l bJ B pr i o:=X0 h (fun _=>k) hok kC
theorem Z1 (j t:Nat) {x:ah} (h:(dV l i,Nat.blt i l.length,pr j,pr i,[(j,t,x)].all (fun x=>(bJ.getD i []).contains x.1 && (dV l x.1 == some x.2.1)))=(some d,true,fun v _=>v=x,fun u _=>u=v,true)) (k:P8 N D w0 F G0 G L T r P l d v o [(j,t,x)])
  (hok:pR l T i=true:=by kernel_rfl) (kC:∀ i v (G G':GH),(∀ k o,G k=some o->G' k=some o)->pr i v G->pr i v G':=by exact fun _ _ _ _ _ h=>h):xC N D w0 F G0 G L T r P l bJ B pr i o:=X1 j t h (fun _=>k) hok kC
theorem Z2 (j t j' t':Nat) {x x':ah} (h:(dV l i,Nat.blt i l.length,pr j,pr j',pr i,[(j,t,x),(j',t',x')].all (fun x=>(bJ.getD i []).contains x.1 && (dV l x.1 == some x.2.1)))=(some d,true,fun v _=>v=x,fun v _=>v=x',fun u _=>u=v,true)) (k:P8 N D w0 F G0 G L T r P l d v o [(j,t,x),(j',t',x')])
  (hok:pR l T i=true:=by kernel_rfl) (kC:∀ i v (G G':GH),(∀ k o,G k=some o->G' k=some o)->pr i v G->pr i v G':=by exact fun _ _ _ _ _ h=>h):xC N D w0 F G0 G L T r P l bJ B pr i o:=X2 j t j' t' h (fun _=>k) hok kC
theorem Z3 (j t j' t' j2 t2:Nat) {x x' x2:ah} (h:(dV l i,Nat.blt i l.length,pr j,pr j',pr j2,pr i,[(j,t,x),(j',t',x'),(j2,t2,x2)].all (fun x=>(bJ.getD i []).contains x.1 && (dV l x.1 == some x.2.1)))=(some d,true,fun v _=>v=x,fun v _=>v=x',fun v _=>v=x2,fun u _=>u=v,true)) (k:P8 N D w0 F G0 G L T r P l d v o [(j,t,x),(j',t',x'),(j2,t2,x2)])
  (hok:pR l T i=true:=by kernel_rfl) (kC:∀ i v (G G':GH),(∀ k o,G k=some o->G' k=some o)->pr i v G->pr i v G':=by exact fun _ _ _ _ _ h=>h):xC N D w0 F G0 G L T r P l bJ B pr i o:=X3 j t j' t' j2 t2 h (fun _=>k) hok kC
theorem St.aN {a:Act} {w:World} {p:ah->Prop} (H:St N D w0 F G0 G L T a w) (h:∃ u,a.tmps[d]?=some u∧p u) (he:p=fun u=>u=v):St N D w0 F G0 G L ((d,v) :: T) a w:=by
 subst he
 obtain ⟨u,h1,h2⟩:=h
 exact H.gZ (h2 ▸ h1)
theorem dI {a:Act} {w:World} {Q:Exit->Act->World->Prop} {id:Nat} (hm:P.follows .mixedOrders=true) (bJ:List (List Nat)) (B:List Nat) (hk:(xO l bJ && wC l bJ B)=true) (vs:List ah) (H:St N D w0 F G0 G L T a w)
  (hstep:allI (fun i o=>xC N D w0 F G0 G L T r P l bJ B (Zv vs) i o) 0 l)
  (hend:∀ a w G1,(∀ k o,G k=some o->G1 k=some o)->St N D w0 F G0 G1 L T a w->(∀ i d,B.contains i=false->dV l i=some d->∃ v,a.tmps[d]?=some v∧Zv vs i v G1)->WL r P l.toArray (fun e a w=>e=.normal∧Q .normal a w) (qb l B) a w):WP r P (.region id l.toArray true) Q a w:=by
 rw [iL] at hk
 exact Ce hm bJ B hk.1 hk.2 (Zv vs) (fun _ _ _ _ _ h=>h) H hstep hend
variable {w:World} {ops:Array Oper} {Q:Exit->Act->World->Prop} {b:Bool} {t:Nat} {x:Operand} {c1 c2:Code}
theorem Cd (h:ev T x=some (.bool b)) (k1:b=true->∀ a,St N D w0 F G0 G L T a w->WP r P c1 Q a w) (k2:b=false->∀ a,St N D w0 F G0 G L T a w->WP r P c2 Q a w):∀ a,St N D w0 F G0 G L T a w->WP r P (.cond x c1 c2) Q a w:=fun a H=>jw H h (fun h=>k1 h a H) (fun h=>k2 h a H)
theorem Ct (h:ev T x=some (.bool b)) (hb:b=true) (k:∀ a,St N D w0 F G0 G L T a w->WP r P c1 Q a w):∀ a,St N D w0 F G0 G L T a w->WP r P (.cond x c1 c2) Q a w:=fun a H=>Cc H h hb (k a H)
theorem Cf (h:ev T x=some (.bool b)) (hb:b=false) (k:∀ a,St N D w0 F G0 G L T a w->WP r P c2 Q a w):∀ a,St N D w0 F G0 G L T a w->WP r P (.cond x c1 c2) Q a w:=fun a H=>sQ H h hb (k a H)
theorem Sp {X:Act->Prop} (t:Nat) (h:lk T t=some (.bool b)) (k1:b=true->∀ a,St N D w0 F G0 G L T a w->X a) (k2:b=false->∀ a,St N D w0 F G0 G L T a w->X a):∀ a,St N D w0 F G0 G L T a w->X a:=fun a H=>ZM H t h (fun h=>k1 h a H) (fun h=>k2 h a H)
theorem LR {fn:Func} {R:Ending->World->Prop} (hr:fn.results=#[.tmp t]) (hQ:(lk T t,Q .ret)=(some v,fun a w=>bodyPostM (FW none) 0 P fn R .ret a w)) (hR:∀ {a},St N [] w0 F G0 G L T a w->R (.returned v) w):∀ a,St N [] w0 F G0 G L T a w->WP none P .ret Q a w:=fun a H=>by
 simp only [iQ] at hQ
 exact lr H hr (by rw [hQ.1,hQ.2]) (hR H)
end
def ra:Nat->Nat->List Nat
 | _,0=>[]
 | a,n+1=>a :: ra (a+1) n
theorem lca {α:Type} (a:α) (l m:List α):a :: l++m=a :: (l++m):=rfl
theorem bM {α:Type} (l:List α):[]++l=l:=rfl
theorem aI {p:Prop} [Decidable p] (h:p):decide p=true:=mP h
theorem aY {p:Prop} [Decidable p] (h:¬p):decide p=false:=mY h
abbrev Di (pr:Nat->ah->GH->Prop):Prop:=∀ i v (G G':GH),(∀ k o,G k=some o->G' k=some o)->pr i v G->pr i v G'
abbrev Jm {α:Type} (pr:α->Nat->ah->GH->Prop):Prop:=∀ x i v (G G':GH),(∀ k o,G k=some o->G' k=some o)->pr x i v G->pr x i v G'
abbrev Mo2 {α β:Type} (pr:α->β->Nat->ah->GH->Prop):Prop:=∀ x y i v (G G':GH),(∀ k o,G k=some o->G' k=some o)->pr x y i v G->pr x y i v G'
theorem dY {N:Nat} {D:List Deferred} {w0 w:World} {F:Nat->Prop} {G0:GH} {a:Act} {ι:Type} {Tc:List (Nat × ah)} {Lc:List (Nat × Obj)} {Tv:ι->List (Nat × ah)} {Lv:ι->List (Nat × Obj)} {Gv:ι->GH} {Pr:ι->Prop} {m:ι->Nat} {i:ι} (i':ι)
  (H:St N D w0 F G0 (Gv i') (Lc++Lv i') (Tv i'++Tc) a w) (hP:Pr i') (hm:m i' < m i:=by first|omega|(dsimp only;omega)) :
  ∃ i',(St N D w0 F G0 (Gv i') (Lc++Lv i') (Tv i'++Tc) a w∧Pr i')∧m i' < m i:=⟨i',⟨H,hP⟩,hm⟩
theorem ZQ (x:ah):∀ (vs c:List ah) (o:Nat),setRow (x :: c) (o+1) vs=x :: setRow c o vs
 | [],_,_=>rfl
 | v :: vs,c,o=>by simp only [setRow,List.set_cons_succ];exact ZQ x vs _ _
class Jp (c:List ah) (o:Nat) (vs:List ah) (c':outParam (List ah)):Prop where
 h:setRow c o vs=c'
class Ur (a:Nat) (b:outParam Nat):Prop where
 h:a=b
instance {a:Nat}:Ur a a:=⟨M⟩
instance {c:List ah} {o:Nat}:Jp c o [] c:=⟨M⟩
instance {x:ah} {c c' vs:List ah} {o o':Nat} [e:Ur o (o'+1)] [q:Jp c o' vs c']:Jp (x :: c) o vs (x :: c'):=⟨by rw [e.h,ZQ,q.h]⟩
instance {x v:ah} {c c' vs:List ah} {o:Nat} [e:Ur o 0] [q:Jp c 0 vs c']:Jp (x :: c) o (v :: vs) (v :: c'):=⟨by rw [e.h];simp only [setRow,List.set_cons_zero];rw [ZQ,q.h]⟩
class xE (L:List (Nat × Obj)) (i:Nat) (x:Nat × Obj) (L':outParam (List (Nat × Obj))):Prop where
 h:L.set i x=L'
instance {y x:Nat × Obj} {L:List (Nat × Obj)}:xE (y :: L) 0 x (x :: L):=⟨M⟩
instance {y x:Nat × Obj} {L L':List (Nat × Obj)} {i:Nat} [q:xE L i x L']:xE (y :: L) (i+1) x (y :: L'):=⟨by rw [List.set_cons_succ,q.h]⟩
instance {y x:Nat × Obj} {A B:List (Nat × Obj)}:xE ((y :: A).append B) 0 x (x :: A.append B):=⟨M⟩
instance {y x:Nat × Obj} {A B L':List (Nat × Obj)} {i:Nat} [q:xE (A.append B) i x L']:xE ((y :: A).append B) (i+1) x (y :: L'):=⟨by rw [<- q.h];rfl⟩
instance {x:Nat × Obj} {B L':List (Nat × Obj)} {i:Nat} [q:xE B i x L']:xE (List.append [] B) i x L':=⟨q.h⟩
instance {y x:Nat × Obj} {A B:List (Nat × Obj)}:xE ((y :: A)++B) 0 x (x :: (A++B)):=⟨M⟩
instance {y x:Nat × Obj} {A B L':List (Nat × Obj)} {i:Nat} [q:xE (A++B) i x L']:xE ((y :: A)++B) (i+1) x (y :: L'):=⟨by rw [<- q.h];rfl⟩
instance {x:Nat × Obj} {B L':List (Nat × Obj)} {i:Nat} [q:xE B i x L']:xE ([]++B) i x L':=⟨q.h⟩
theorem dK {c:Prop} {h:Decidable c} (hc:¬c:=by omega) {α:Sort _} {t e:α}:(if c then t else e)=e:=av hc
theorem nk {c:Prop} {h:Decidable c} (hc:c:=by omega) {α:Sort _} {t e:α}:(if c then t else e)=t:=aD hc
theorem aT {P:Program} {f:FuncId} {fn:Func} {c:Code} (hf:P.funcs[f]?=some fn) (hb:fn.body=some c) (hn:(fn.name == "runtime.NumGoroutine")=false:=by kernel_rfl):∀ (args:Array ah) (w:World),(callFunc f args).run P w=.ok (.enter f args) w:=enters hf hb hn
section
variable {N:Nat} {D:List Deferred} {w0:World} {F:Nat->Prop} {G0 G:GH} {L:List (Nat × Obj)} {T:List (Nat × ah)} {r:Option Nat} {P:Program} {ops:Array Oper} {Q:Exit->Act->World->Prop} {rest:List Oper} {a:Act} {w:World} {ty:TypeId} {pos:String} {aQ:Array Edge} {g:Option (Nat × Bool)}
theorem bC {t:TypeId} {sz bytes:Nat} {zero:List ah} {agg:Bool} (ht:Ty P t sz bytes zero agg) {x y:Operand} (i:Nat) {b o:Nat} {c:List ah} {e:TypeId} {v:ah} {vs:List ah} {c':List ah} {L':List (Nat × Obj)} (H:St N D w0 F G0 G L T a w) (hw:Region.wanted ⟨none,.store t x y,ty,pos,aQ,g⟩ (yielded ops a.tmps)=true)
  (h:(ev T x,L[i]?,ev T y,v.cells,Nat.beq vs.length sz,vs.all oneCell',Nat.ble (o+vs.length) c.length)=(some (.pointer (some ⟨b,o,none⟩)),some (b,.cells c.toArray e (0,0)),some v,vs.toArray,true,true,true))
  [q1:Jp c o vs c'] [q2:xE L i (b,.cells c'.toArray e (0,0)) L']
  (k:∀ w',St N D w0 F G0 G L' T a w'->WL r P ops Q rest a w'):WL r P ops Q (⟨none,.store t x y,ty,pos,aQ,g⟩ :: rest) a w:=by
 simp only [iQ] at h
 obtain ⟨hx,hi,hy,hvs,hl,h1,hle⟩:=h
 refine LQ ht i _ H hw hx hi hy hvs hl h1 hle q1.h (fun w' H=>k w' ?_)
 rw [q2.h] at H;exact H
end
section
variable {N:Nat} {D:List Deferred} {w0:World} {F:Nat->Prop} {G0 G G1:GH} {L:OL} {T Xs:List (Nat × ah)} {l:List Oper} {a a':Act} {w w':World}
theorem Ch {pr:Nat->ah->GH->Prop} {S:Nat->Bool} {i d:Nat} {v:ah} (HT:St N D w0 F G0 G1 L T a w) (Hb:St N D w0 F G0 G1 L (Xs++full N a) a w) (hG:∀ k o,G k=some o->G1 k=some o) (hv:∀ i d,S i=true->dV l i=some d->∃ v,a.tmps[d]?=some v∧pr i v G1)
  (kC:∀ i v (G G':GH),(∀ k o,G k=some o->G' k=some o)->pr i v G->pr i v G') (H:St N D w0 F G0 G1 L ((d,v) :: (Xs++full N a)) a' w') (hp:pr i v G1)
  (hok:pR l T i=true:=by kernel_rfl) (hi:dV l i=some d:=by exact rfl) (hdl:Nat.blt i l.length=true:=by exact rfl):DX N D w0 F G0 G L T l pr (cO S i) a' w' :=
 wL hok kC hi hdl HT Hb hG hv (fun _ _ h=>h) hp H
end
end
section
def dw (e sz:Nat) (v:ah) (n:Nat) (xs:List ah) (Lo:OL):Prop :=
 xs.length=n*sz∧((v=.slice none 0 0∧n=0∧Lo=[])∨∃ b cap cur,v=.slice (some ⟨b,0,none⟩) n cap∧Lo=[(b,.cells cur e (0,0))]∧n<=cap∧cap<=maxLen∧cur.size=cap*sz∧cur.toList.take (n*sz)=xs)
theorem dw.nil {e sz:Nat}:dw e sz (.slice none 0 0) 0 [] []:=⟨by simp,.inl ⟨M,M,M⟩⟩
theorem dw.shape {e sz n:Nat} {v:ah} {xs:List ah} {Lo:OL} (h:dw e sz v n xs Lo):∃ A c,v=.slice A n c∧n<=c∧c<=maxLen:=by
 rcases h.2 with ⟨rfl,rfl,_⟩|⟨b,cap,cur,rfl,_,h1,h2,_,_⟩
 ·exact ⟨none,0,M,eG _,by simp [maxLen]⟩
 ·exact ⟨_,cap,M,h1,h2⟩
section
variable {N:Nat} {D:List Deferred} {w0:World} {F:Nat->Prop} {G0 G:GH} {L Li Lo:OL} {T:List (Nat × ah)}
variable {r:Option Nat} {P:Program} {ops:Array Oper} {Q:Exit->Act->World->Prop} {rest:List Oper} {a:Act} {w w':World}
variable {d:Nat} {ty:TypeId} {pos:String} {aQ:Array Edge} {g:Option (Nat × Bool)}
theorem dw.owns {e sz n:Nat} {v:ah} {xs:List ah} (h:dw e sz v n xs Lo) (H:Hp w0 F G0 G (Li++Lo) w):w.ownsRow 0 e sz v n xs:=by
 refine ⟨h.1,?_⟩
 rcases h.2 with ⟨h1,h2,_⟩|⟨b,cap,cur,h1,h2,h3,h4,h5,h6⟩
 ·exact .inl ⟨h1,h2⟩
 ·exact .inr ⟨b,cap,cur,h1,lg _,H.own (b,.cells cur e (0,0)) (by simp [h2]),h3,h4,h5,h6⟩
theorem amO {e sz n n':Nat} {v v':ah} {xs xs':List ah} (h:dw e sz v n xs Lo) (ho:gJ G Lo w) (hown:w'.ownsRow 0 e sz v' n' xs') (hg:w.grownBy w' v.ownBlock) (hb:v'.ownBlock=v.ownBlock∨v'.ownBlock=some w.heap.size) :
  ∃ kF,dw e sz v' n' xs' kF∧Change w w' G G Lo kF:=by
 have hrow:∀ k,v.ownBlock=some k->∃ p∈Lo,p.1=k:=by
  intro k hk
  rcases h.2 with ⟨h1,_,_⟩|⟨b,cap,cur,h1,h2,_⟩
  ·rw [h1] at hk;cases hk
  ·rw [h1] at hk;simp only [Value.ownBlock,pO] at hk;exact ⟨_,by rw [h2];exact List.mem_singleton_self _,hk⟩
 have hro:∀ k o,G k=some o->w'.heap[k]?=some o:=by
  intro k o hk
  rw [hg.block k (lt_of_heap (ho.ro k o hk)) (fun e'=>by
   obtain ⟨p,hp,e2⟩:=hrow k e'.symm
   have:=ho.sep p hp
   rw [e2,hk] at this;cases this)]
  exact ho.ro k o hk
 have hfr:∀ k,k < w.heap.size->(∀ p∈Lo,p.1≠k)->w'.heap[k]?=w.heap[k]?:=fun k hk hn=>hg.block k hk fun e'=>by
  obtain ⟨p,hp,e2⟩:=hrow k e'.symm
  exact hn p hp e2
 rcases hown.2 with ⟨h1,h2⟩|⟨b,cap,cur,h1,_,h3,h4,h5,h6,h7⟩
 ·exact ⟨[],⟨hown.1,.inl ⟨h1,h2,M⟩⟩,⟨hg.os,hg.tape,hg.output,hg.size,hfr,fun _ _ h=>h,fun _ _ h=>.inl h,⟨hro,fun _ h=>(by cases h),fun _ h=>(by cases h),List.Pairwise.nil⟩,fun _ h=>(by cases h)⟩⟩
 ·refine ⟨[(b,.cells cur e (0,0))],⟨hown.1,.inr ⟨b,cap,cur,h1,M,h4,h5,h6,h7⟩⟩,⟨hg.os,hg.tape,hg.output,hg.size,hfr,fun _ _ h=>h,fun _ _ h=>.inl h,⟨hro,fun p hp=>?_,fun p hp=>?_,by simp⟩,fun p hp=>?_⟩⟩
  ·rw [oC.1 hp];exact h3
  ·rw [oC.1 hp]
   cases hgb:G b with
   | none=>rfl
   | some o =>
    exfalso
    rw [h1] at hb
    rcases hb with hb|hb
    ·obtain ⟨p',hp',e2⟩:=hrow b (by rw [<- hb];rfl)
     have:=ho.sep p' hp'
     rw [e2,hgb] at this;cases this
    ·simp only [Value.ownBlock,pO] at hb
     have:=lt_of_heap (ho.ro b o hgb)
     omega
  ·rw [oC.1 hp]
   rw [h1] at hb
   rcases hb with hb|hb
   ·obtain ⟨p',hp',e2⟩:=hrow b (by rw [<- hb];rfl)
    exact .inr ⟨p',hp',e2⟩
   ·simp only [Value.ownBlock,pO] at hb
    exact .inl (by simp only;omega)
theorem og {t e:TypeId} {sz bytes:Nat} {zero:List ah} {agg:Bool} (hs:P.underlying t=some (.slice e)) (ht:Ty P e sz bytes zero agg) (hz:Nat.beq zero.length sz=true) (hsz:Nat.blt 0 sz=true) {x y:Operand} {v:ah} {n m c b2 o2:Nat} {xs news:List ah} (H:St N D w0 F G0 G (Li++Lo) T a w)
  (hw:Region.wanted ⟨some d,.call { callee:=.builtin .append,args:=#[x,y],argTypes:=#[t,t] },ty,pos,aQ,g⟩ (yielded ops a.tmps)=true) (hx:ev T x=some v) (hy:ev T y=some (.slice (some ⟨b2,o2,none⟩) m c)) (hrow:dw e sz v n xs Lo)
  (hn:news.length=m*sz) (hc:∀ j u,news[j]?=some u->w.cell? ⟨b2,o2+j,none⟩=some u) (h1:news.all Value.oneCell'=true) (h63:n+m<=maxLen) (hb:(n+m)*bytes<=140737488355328) (hd:Nat.blt d N=true)
  (k:∀ v' kF a' w',dw e sz v' (n+m) (xs++news) kF->St N D w0 F G0 G (Li++kF) ((d,v') :: T) a' w'->WL r P ops Q rest a' w') :
  WL r P ops Q (⟨some d,.call { callee:=.builtin .append,args:=#[x,y],argTypes:=#[t,t] },ty,pos,aQ,g⟩ :: rest) a w:=by
 obtain ⟨i,z,hi,hi1,hi2,hi3,hi4⟩:=ht.parts
 obtain ⟨v',w2,hrun,r1,r2,_,r4⟩:=run_append_own_at (P:=P) w 0 t ty e i z sz bytes hs hi hi3 hi1 hi2 (by rw [hi4];simpa using BS hz) (Eq.mp Nat.blt_eq hsz) v n xs (hrow.owns H.hp) ⟨b2,o2,none⟩ m c news hn (fun j u hj=>by rw [add_lit];exact hc j u hj) (fun u hu=>jE.1 h1 u hu) h63 hb (lg _)
 obtain ⟨kF,hr,hch⟩:=amO hrow H.hp.owns r1 r2 r4
 refine fQ (v:=v') (w':=w2) hw M ?_ (k v' kF _ w2 hr (H.put hd v' (H.hp.change hch)))
 simp [execOp,resolve,invoke,builtin,H.ev hx,H.ev hy,dU,hrun]
theorem Bu {t e:TypeId} {sz bytes:Nat} {zero:List ah} {agg:Bool} (hs:P.underlying t=some (.slice e)) (ht:Ty P e sz bytes zero agg) {x y:Operand} {A B:Option Addr} {n c c':Nat} (H:St N D w0 F G0 G L T a w)
  (hw:Region.wanted ⟨some d,.call { callee:=.builtin .append,args:=#[x,y],argTypes:=#[t,t] },ty,pos,aQ,g⟩ (yielded ops a.tmps)=true) (hx:ev T x=some (.slice A n c)) (hy:ev T y=some (.slice B 0 c')) (hnc:n<=c) (hd:Nat.blt d N=true)
  (k:∀ a',St N D w0 F G0 G L ((d,.slice A n c) :: T) a' w->WL r P ops Q rest a' w) :
  WL r P ops Q (⟨some d,.call { callee:=.builtin .append,args:=#[x,y],argTypes:=#[t,t] },ty,pos,aQ,g⟩ :: rest) a w:=by
 refine fQ (v:=.slice A n c) (w':=w) hw M ?_ (k _ (H.put hd _ H.hp))
 have h1:∀ w,(Builtin.firstCells sz 0 (.slice B 0 c')).run P w=.ok #[] w:=by intro w;cases B <;> simp [Builtin.firstCells,loadCells,loadCellsFrom]
 have hle:n+0<=c:=by omega
 cases A <;> simp [execOp,resolve,invoke,builtin,H.ev hx,H.ev hy,dU,Builtin.append_,nZ hs,ht.zY,Builtin.lenOf,hnc,h1,storeCells]
theorem CU {t u:TypeId} {e:TypeId} (hs:P.underlying t=some (.slice e)) {x:Operand} {A:Option Addr} {n c:Nat} (H:St N D w0 F G0 G L T a w) (hw:Region.wanted ⟨some d,.binOp .eql t x (.const (.slice none 0 0)) u,ty,pos,aQ,g⟩ (yielded ops a.tmps)=true) (hx:ev T x=some (.slice A n c)) (hd:Nat.blt d N=true)
  (k:∀ a',St N D w0 F G0 G L ((d,.bool A.isNone) :: T) a' w->WL r P ops Q rest a' w):WL r P ops Q (⟨some d,.binOp .eql t x (.const (.slice none 0 0)) u,ty,pos,aQ,g⟩ :: rest) a w:=by
 refine fQ (v:=.bool A.isNone) (w':=w) hw M ?_ (k _ (H.put hd _ H.hp))
 have h1:(Op.equal t (.slice A n c) (.slice none 0 0)).run P w=.ok A.isNone w:=by
  show (Op.equalIn (9999+1) t (.slice A n c) (.slice none 0 0)).run P w=_
  rw [Op.equalIn.eq_2,dU,nZ hs]
  cases A <;> rfl
 have h2:(do eqGuard .eql t x (.const (.slice none 0 0)) (.slice A n c) (.slice none 0 0);binOp .eql t (.slice A n c) (.slice none 0 0):Sem ah).run P w=.ok (.bool A.isNone) w:=by
  have e:(do eqGuard .eql t x (.const (.slice none 0 0)) (.slice A n c) (.slice none 0 0);binOp .eql t (.slice A n c) (.slice none 0 0):Sem ah)=(do pure (.bool (<- Op.equal t (.slice A n c) (.slice none 0 0))):Sem ah):=rfl
  rw [e,dU,h1];rfl
 have e0:execOp a.eval ⟨some d,.binOp .eql t x (.const (.slice none 0 0)) u,ty,pos,aQ,g⟩=(do pure (.value (<- (do eqGuard .eql t x (.const (.slice none 0 0)) (.slice A n c) (.slice none 0 0);binOp .eql t (.slice A n c) (.slice none 0 0):Sem ah))):Sem Next):=by
  simp only [execOp,H.ev hx];rfl
 rw [e0,dU,h2]
 rfl
theorem Bv {t e:TypeId} {sz bytes:Nat} {zero:List ah} {agg:Bool} (hs:P.underlying t=some (.slice e)) (ht:Ty P e sz bytes zero agg) (H:St N D w0 F G0 G L T a w) (hw:Region.wanted ⟨some d,.buildSlice t 0 #[],ty,pos,aQ,g⟩ (yielded ops a.tmps)=true) (hd:Nat.blt d N=true)
  (k:∀ b a' w',w0.heap.size<=b->St N D w0 F G0 G ((b,.cells #[] e (0,0)) :: L) ((d,.slice (some ⟨b,0,none⟩) 0 0) :: T) a' w'->WL r P ops Q rest a' w'):WL r P ops Q (⟨some d,.buildSlice t 0 #[],ty,pos,aQ,g⟩ :: rest) a w:=by
 refine fQ (v:=.slice (some ⟨w.heap.size,0,none⟩) 0 0) (w':=w.alloc (.cells #[] e (0,0))) hw M ?_ (k _ _ _ H.hp.size (H.put hd _ (H.hp.alloc _)))
 have h0:¬ (0*sz > 2 ^ 24):=by simp
 simp [execOp,Instr.buildSlice,dU,nZ hs,ht.zY,Instr.fill,newRow,newObj,Sem.run]
 congr 2
 apply Array.eq_empty_of_size_eq_zero
 simp
theorem dw.empty {e sz b:Nat}:dw e sz (.slice (some ⟨b,0,none⟩) 0 0) 0 [] [(b,.cells #[] e (0,0))] :=
 ⟨by simp,.inr ⟨b,0,#[],M,M,eG _,by simp [maxLen],by simp,by simp⟩⟩
theorem jO {x:Operand} {fv:ah} {xs:List Operand} {vs:List ah} {ts:Array TypeId} {R:ah->GH->Prop} (H:St N D w0 F G0 G L T a w) (hw:Region.wanted ⟨some d,.call { callee:=.value x,args:=xs.toArray,argTypes:=ts },ty,pos,aQ,g⟩ (yielded ops a.tmps)=true)
  (hf:ev T x=some fv) (hx:evs T xs=some vs) (hc:sJ P fv vs w (bG w G R)) (hd:Nat.blt d N=true)
  (k:∀ v G' a' w',R v G'->(∀ k o,G k=some o->G' k=some o)->St N D w0 F G0 G' L ((d,v) :: T) a' w'->WL r P ops Q rest a' w'):WL r P ops Q (⟨some d,.call { callee:=.value x,args:=xs.toArray,argTypes:=ts },ty,pos,aQ,g⟩ :: rest) a w:=by
 refine aao (nx:=_) (R:=bG w G R) hw M M ?_ ?_
 ·have h1:=H.evs hx
  have e:(execOp a.eval ⟨some d,.call { callee:=.value x,args:=xs.toArray,argTypes:=ts },ty,pos,aQ,g⟩)=(do let d <- Deferred.ofValue fv vs.toArray;invoke d.target d.args:Sem Next):=by
   simp only [execOp,resolve,H.ev hf,List.map_toArray,h1]
  rw [e]
  exact hc.go
 ·rintro e w' ⟨v,G',rfl,hb,hx,hR⟩
  exact ⟨v,M,k v G' _ w' hR hx.1 (H.put hd v (H.hp.aaP hb hx))⟩
end
def dx (G:GH) (sz:Nat) (rows:List (List Dat)) (xs:List ah):Prop :=
 ∃ css:List (List ah),xs=css.flatten∧css.length=rows.length∧∀ (j:Nat) (r:List Dat) (cs:List ah),rows[j]?=some r->css[j]?=some cs->bB G r cs∧cs.length=sz
theorem dx.nil {G:GH} {sz:Nat}:dx G sz [] []:=⟨[],M,M,fun j r cs h=>by simp at h⟩
theorem dx.mono {G G':GH} (hm:∀ k o,G k=some o->G' k=some o) {sz:Nat} {rows:List (List Dat)} {xs:List ah} (h:dx G sz rows xs):dx G' sz rows xs:=by
 obtain ⟨css,h1,h2,h3⟩:=h
 exact ⟨css,h1,h2,fun j r cs hr hc=>⟨(h3 j r cs hr hc).1.mono hm,(h3 j r cs hr hc).2⟩⟩
theorem dx.snoc {G:GH} {sz:Nat} {rows:List (List Dat)} {xs:List ah} (h:dx G sz rows xs) {q:List Dat} {cs:List ah} (hr:bB G q cs) (hl:cs.length=sz):dx G sz (rows++[q]) (xs++cs):=by
 obtain ⟨css,h1,h2,h3⟩:=h
 refine ⟨css++[cs],by simp [h1],by simp [h2],fun j r c hj hc=>?_⟩
 by_cases hlt:j < rows.length
 ·rw [zG hlt] at hj
  rw [zG O] at hc
  exact h3 j r c hj hc
 ·have hje:j=rows.length:=by
   have:=(ko.1 hj).1
   simp at this;omega
  subst hje
  rw [uO (eG _),Nat.sub_self] at hj
  rw [uO O,h2,Nat.sub_self] at hc
  simp only [BU,pO] at hj hc
  subst hj;subst hc
  exact ⟨hr,hl⟩
theorem afH {sz:Nat}:∀ {css:List (List ah)} {j:Nat} {cs:List ah},(∀ (j:Nat) (cs:List ah),css[j]?=some cs->cs.length=sz)->css[j]?=some cs->∀ i,i < sz->css.flatten[j*sz+i]?=cs[i]?
 | [],_,_,_,h,_,_=>by simp at h
 | c :: css,0,cs,hl,h,i,hi=>by
  simp only [BU,pO] at h
  subst h
  have:=hl 0 c M
  simp only [List.flatten_cons,Nat.zero_mul,gy]
  rw [zG O]
 | c :: css,j+1,cs,hl,h,i,hi=>by
  have hc:=hl 0 c M
  have ih:=afH (css:=css) (j:=j) (cs:=cs) (fun j cs hj=>hl (j+1) cs (by simpa using hj)) (by simpa using h) i hi
  simp only [List.flatten_cons]
  rw [uO (by rw [hc,Nat.succ_mul];omega),<- ih]
  congr 1
  rw [hc,Nat.succ_mul];omega
theorem oz.cat {G:GH} {sz b:Nat}:∀ {rows:List (List Dat)} {o:Nat},oz G sz b o rows->∃ xs:List ah,xs.length=rows.length*sz∧(∀ j u,xs[j]?=some u->aH G b (o+j)=some u)∧xs.all Value.oneCell'=true∧dx G sz rows xs
 | [],o,_=>⟨[],by simp,fun j u h=>by simp at h,M,dx.nil⟩
 | r :: rs,o,h=>by
  simp only [oz] at h
  obtain ⟨⟨cs,h1,h2,h3⟩,h4⟩:=h
  obtain ⟨xs,g1,g2,g3,css,g4,g5,g6⟩:=oz.cat h4
  refine ⟨cs++xs,by simp [h1,g1,Nat.succ_mul,Nat.add_comm],fun j u hj=>?_,by simp [h3.one,g3],cs :: css,by simp [g4],by simp [g5],fun j q c hj hc=>?_⟩
  ·by_cases hlt:j < cs.length
   ·rw [zG hlt] at hj;exact h2 j u hj
   ·rw [uO O] at hj
    rw [<- g2 _ u hj];congr 1;omega
  ·cases j with
   | zero=>simp only [BU,pO] at hj hc;subst hj;subst hc;exact ⟨h3,h1⟩
   | succ j=>exact g6 j q c (by simpa using hj) (by simpa using hc)
theorem ak.cells {G:GH} {sz:Nat} {rows:List (List Dat)} {A:Option Addr} {n c:Nat} (h:ak G (.sl sz rows) (.slice A n c)):n=rows.length∧n<=c∧c<=maxLen∧(A=none->rows=[]) ∧
  (rows≠[]->∃ b o xs,A=some ⟨b,o,none⟩∧xs.length=n*sz∧(∀ j u,xs[j]?=some u->aH G b (o+j)=some u)∧xs.all Value.oneCell'=true∧dx G sz rows xs):=by
 simp only [ak] at h
 obtain ⟨A',c',h1,h2,h3,h4⟩:=h
 injection h1 with e1 e2 e3
 subst e1;subst e2;subst e3
 refine ⟨M,h2,h3,fun hn=>?_,fun hne=>?_⟩
 ·apply Classical.byContradiction
  intro hne
  obtain ⟨b,o,e,_⟩:=h4 hne
  rw [hn] at e;cases e
 ·obtain ⟨b,o,e,hr⟩:=h4 hne
  obtain ⟨xs,g1,g2,g3,g4⟩:=hr.cat
  exact ⟨b,o,xs,e,g1,g2,g3,g4⟩
theorem ak.qK {G:GH} {sz:Nat} {A:Option Addr} {n c:Nat} (h:n=0) (hc:c<=maxLen):ak G (.sl sz []) (.slice A n c):=by
 subst h
 simp only [ak]
 exact ⟨A,c,M,lg _,hc,fun h=>absurd M h⟩
theorem ak.wz {G:GH} {e sz n b cap:Nat} {cur:Array ah} {xs:List ah} {rows:List (List Dat)} (hb:G b=some (.cells cur e (0,0))) (hl:rows.length=n) (hc:n<=cap) (hm:cap<=maxLen) (ht:cur.toList.take (n*sz)=xs) (fK:dx G sz rows xs) :
  ak G (.sl sz rows) (.slice (some ⟨b,0,none⟩) n cap):=by
 obtain ⟨css,h1,h2,h3⟩:=fK
 simp only [ak]
 refine ⟨_,cap,by rw [hl],O,hm,fun _=>⟨b,0,M,oz.mk fun k q hk=>?_⟩⟩
 have hkl:k < css.length:=by rw [h2];exact (ko.1 hk).1
 have hcs:css[k]?=some css[k]:=eB hkl
 obtain ⟨g1,g2⟩:=h3 k q _ hk hcs
 refine ⟨css[k],g2,fun j u hj=>?_,g1⟩
 have hjs:j < sz:=by rw [<- g2];exact (ko.1 hj).1
 have hlen:∀ (j:Nat) (cs:List ah),css[j]?=some cs->cs.length=sz:=by
  intro j cs hj
  have hjl:j < rows.length:=by rw [<- h2];exact (ko.1 hj).1
  exact (h3 j _ cs (eB hjl) hj).2
 have hf:=afH hlen hcs j hjs
 rw [<- h1,<- ht,hj] at hf
 unfold aH
 rw [hb]
 simp only
 have hlt:k*sz+j < n*sz:=by
  have:(k+1)*sz<=n*sz:=Nat.mul_le_mul_right _ O
  rw [Nat.succ_mul] at this;omega
 rw [uN,aD hlt] at hf
 simpa using hf
theorem St.qp {N:Nat} {D:List Deferred} {w0:World} {F:Nat->Prop} {G0 G:GH} {Li Lo:OL} {T:List (Nat × ah)} {a:Act} {w:World} {e sz n:Nat} {v:ah} {xs:List ah} {rows:List (List Dat)} (H:St N D w0 F G0 G (Li++Lo) T a w)
  (hrow:dw e sz v n xs Lo) (hl:rows.length=n) (fK:dx G sz rows xs):∃ G',(∀ k o,G k=some o->G' k=some o)∧ak G' (.sl sz rows) v∧St N D w0 F G0 G' Li T a w:=by
 rcases hrow.2 with ⟨rfl,h2,rfl⟩|⟨b,cap,cur,rfl,rfl,h3,h4,h5,h6⟩
 ·refine ⟨G,fun _ _ h=>h,?_,by simpa using H⟩
  have:rows=[]:=List.eq_nil_of_length_eq_zero O
  subst this
  simp only [ak]
  exact ⟨none,0,by simp,by simp,by simp [maxLen],fun h=>absurd M h⟩
 ·have hi:(Li++[(b,Obj.cells cur e (0,0))])[Li.length]?=some (b,.cells cur e (0,0)):=by simp
  have hn:=H.afP _ hi
  have hm:∀ k o,G k=some o->(G.add b (.cells cur e (0,0))) k=some o:=fun k o h=>GH.Ju G hn k o h
  refine ⟨_,hm,ak.wz (GH.Jv G b _) hl h3 h4 h6 (fK.mono hm),?_⟩
  have:=H.giveUp _ hi
  rwa [List.eraseIdx_append_of_length_le (eG _),Nat.sub_self,List.eraseIdx_zero,List.tail_cons,ig] at this
theorem St.fF {N:Nat} {D:List Deferred} {w0:World} {F:Nat->Prop} {G0 G:GH} {L:OL} {T:List (Nat × ah)} {a:Act} {w:World} {b:Nat} {o:Obj} (H:St N D w0 F G0 G ((b,o) :: L) T a w) :
  ∃ G',(∀ k o,G k=some o->G' k=some o)∧G' b=some o∧St N D w0 F G0 G' L T a w :=
 ⟨G.add b o,GH.Ju G (H.afP 0 rfl),GH.Jv G b o,H.giveUp 0 rfl⟩
structure Now {α:Type} (xs:List AP) (P:α->AP) (J:Nat->GH->OL->Prop) (je j:Nat) (A:List α) (g:GH) (L:OL):Prop where
 now:J j g L
 rem:∀ i a,A[i]?=some a->xs[j+i]?=some (P a)
 len:j+A.length=je
theorem Now.head {α:Type} {xs:List AP} {P:α->AP} {J:Nat->GH->OL->Prop} {je j:Nat} {x:α} {A:List α} {g:GH} {L:OL} (h:Now xs P J je j (x :: A) g L):xs[j]?=some (P x):=h.rem 0 x M
theorem Now.step {α:Type} {xs:List AP} {P:α->AP} {J:Nat->GH->OL->Prop} {je j:Nat} {x:α} {A:List α} {g g':GH} {L L':OL} (h:Now xs P J je j (x :: A) g L) (hJ:J (j+1) g' L'):Now xs P J je (j+1) A g' L' :=
 ⟨hJ,fun i a hi=>by rw [show j+1+i=j+(i+1) by omega];exact h.rem (i+1) a (by simpa using hi),by have:=h.len;simp only [lW] at this;omega⟩
theorem Now.part {α:Type} {xs:List AP} {P:α->AP} {J:Nat->GH->OL->Prop} {je j:Nat} {A B:List α} {g:GH} {L:OL} (h:Now xs P J je j (A++B) g L):∀ i a,A[i]?=some a->xs[j+i]?=some (P a):=fun i a hi=>h.rem i a (by rw [zG (ko.1 hi).1];exact hi)
theorem Now.jump {α:Type} {xs:List AP} {P:α->AP} {J:Nat->GH->OL->Prop} {je j:Nat} {A B:List α} {g g':GH} {L L':OL} (h:Now xs P J je j (A++B) g L) (hJ:J (j+A.length) g' L'):Now xs P J je (j+A.length) B g' L' :=
 ⟨hJ,fun i a hi=>by rw [Nat.add_assoc];exact h.rem (A.length+i) a (by rw [uO (Nat.le_add_right _ _),MG];exact hi),by have:=h.len;simp only [iW] at this;omega⟩
theorem Hp.mW {R:ah->GH->OL->Prop} {v:ah} {w0 w:World} {G0 G:GH} {L0 L L':OL} (h:Hp w0 (Fr w0 L0) G0 G L w) (hs:L'.Sublist L) (hR:R v G L'):fV w0 G0 L0 R (.returned v) w:=(h.drop hs).gL hR
section
variable {N:Nat} {D:List Deferred} {w0:World} {F:Nat->Prop} {G0 G:GH} {L Li Lo:OL} {T:List (Nat × ah)}
variable {r:Option Nat} {P:Program} {ops:Array Oper} {Q:Exit->Act->World->Prop} {rest:List Oper} {a:Act} {w:World}
variable {d:Nat} {ty:TypeId} {pos:String} {aQ:Array Edge} {g:Option (Nat × Bool)}
theorem ZJ {t e:TypeId} {sz bytes:Nat} {zero:List ah} {agg:Bool} (hs:P.underlying t=some (.slice e)) (ht:Ty P e sz bytes zero agg) (hz:Nat.beq zero.length sz=true) (hsz:Nat.blt 0 sz=true) {x y:Operand} {v:ah} {n m c:Nat} {A:Option Addr} {xs:List ah} {rows:List (List Dat)} (H:St N D w0 F G0 G (Li++Lo) T a w)
  (hw:Region.wanted ⟨some d,.call { callee:=.builtin .append,args:=#[x,y],argTypes:=#[t,t] },ty,pos,aQ,g⟩ (yielded ops a.tmps)=true) (hx:ev T x=some v) (hy:ev T y=some (.slice A m c)) (hrow:dw e sz v n xs Lo)
  (hrep:ak G (.sl sz rows) (.slice A m c)) (h63:n+m<=maxLen) (hb:(n+m)*bytes<=140737488355328) (hd:Nat.blt d N=true)
  (k:∀ v' kF news a' w',dw e sz v' (n+m) (xs++news) kF->dx G sz rows news->St N D w0 F G0 G (Li++kF) ((d,v') :: T) a' w'->WL r P ops Q rest a' w') :
  WL r P ops Q (⟨some d,.call { callee:=.builtin .append,args:=#[x,y],argTypes:=#[t,t] },ty,pos,aQ,g⟩ :: rest) a w:=by
 obtain ⟨hn,hc1,hc2,hnil,hxx⟩:=hrep.cells
 by_cases hr0:rows=[]
 ·have hm0:m=0:=by rw [hn,hr0];rfl
  subst hm0
  obtain ⟨A',c',rfl,h1,h2⟩:=hrow.shape
  refine Bu hs ht H hw hx hy h1 hd fun a' H'=>?_
  exact k _ Lo [] a' w (by simpa using hrow) (by rw [hr0];exact dx.nil) H'
 ·obtain ⟨b,o,news,rfl,hxl,hxc,hx1,fK⟩:=hxx hr0
  exact og hs ht hz hsz H hw hx hy hrow hxl (fun j u hj=>H.hp.aH (hxc j u hj)) hx1 h63 hb hd fun v' kF a' w' hr' H'=>k v' kF news a' w' hr' fK H'
theorem azq {t e:TypeId} {sz bytes:Nat} {zero:List ah} {agg:Bool} (hs:P.underlying t=some (.slice e)) (ht:Ty P e sz bytes zero agg) {x y z:Operand} {A:Option Addr} {n c:Nat} (lo hi:Nat) {p q:Int} (H:St N D w0 F G0 G L T a w)
  (hw:Region.wanted ⟨some d,.slice t x (some y) (some z) none,ty,pos,aQ,g⟩ (yielded ops a.tmps)=true) (hx:ev T x=some (.slice A n c)) (hy:ev T y=some (.int .i64 p)) (hz:ev T z=some (.int .i64 q)) (hp:p=(lo:Int)) (hq:q=(hi:Int)) (h1:lo<=hi) (h2:hi<=c) (hd:Nat.blt d N=true)
  (k:∀ a',St N D w0 F G0 G L ((d,.slice (if c=lo then A else A.map (·.add (lo*sz))) (hi - lo) (c - lo)) :: T) a' w->WL r P ops Q rest a' w):WL r P ops Q (⟨some d,.slice t x (some y) (some z) none,ty,pos,aQ,g⟩ :: rest) a w:=by
 subst hp;subst hq
 refine fQ (v:=.slice (if c=lo then A else A.map (·.add (lo*sz))) (hi - lo) (c - lo)) (w':=w) hw M ?_ (k _ (H.put hd _ H.hp))
 simp [execOp,H.ev hx,H.ev hy,H.ev hz,Instr.sliceAt,Instr.slice,Instr.sliceBounds,Instr.sliceBound,dU,nZ hs,ht.zY,asIntOf,h1,h2]
end
theorem ak.part {G:GH} {sz:Nat} {rows:List (List Dat)} {A:Option Addr} {n c:Nat} (h:ak G (.sl sz rows) (.slice A n c)) (lo hi:Nat) (h1:lo<=hi) (h2:hi<=rows.length) :
  ak G (.sl sz ((rows.drop lo).take (hi - lo))) (.slice (if c=lo then A else A.map (·.add (lo*sz))) (hi - lo) (c - lo)):=by
 obtain ⟨A',c',he,hc1,hc2,hg⟩:=h.slice
 injection he with e1 e2 e3
 subst e1;subst e3
 have hl:((rows.drop lo).take (hi - lo)).length=hi - lo:=by simp;omega
 simp only [ak]
 refine ⟨_,_,by rw [hl],by rw [hl];omega,O,fun hn=>?_⟩
 have hlt:lo < hi:=by
  rcases Nat.lt_or_ge lo hi with h|h
  ·exact h
  ·exact absurd (List.eq_nil_of_length_eq_zero (by rw [hl];omega)) hn
 obtain ⟨b,o,cs,hA,-⟩:=hg lo rows[lo] (by simp)
 subst hA
 refine ⟨b,o+lo*sz,by rw [av O,wH,add_lit],oz.mk fun k r hk=>?_⟩
 rw [uN] at hk
 split at hk
 ·rw [List.getElem?_drop] at hk
  obtain ⟨b',o',cs,hA,g1,g2,g3⟩:=hg (lo+k) r hk
  obtain ⟨rfl,rfl⟩:b=b'∧o=o':=by simpa using hA
  exact ⟨cs,g1,fun j u hj=>by rw [<- g2 j u hj];congr 1;rw [Nat.add_mul];omega,g3⟩
 ·cases hk
theorem dx.append {G:GH} {sz:Nat} {r1 r2:List (List Dat)} {x1 x2:List ah} (h1:dx G sz r1 x1) (h2:dx G sz r2 x2):dx G sz (r1++r2) (x1++x2):=by
 obtain ⟨c1,rfl,e1,f1⟩:=h1
 obtain ⟨c2,rfl,e2,f2⟩:=h2
 refine ⟨c1++c2,by simp,by simp [e1,e2],fun j r cs hr hc=>?_⟩
 by_cases hj:j < r1.length
 ·exact f1 j r cs (by rwa [zG hj] at hr) (by rwa [zG O] at hc)
 ·exact f2 (j - r1.length) r cs (by rwa [uO O] at hr) (by rwa [uO O,e1] at hc)
end
section
section
variable {N:Nat} {D:List Deferred} {w0:World} {F:Nat->Prop} {G0 G G1 G2:GH} {L L1 L2:OL} {T Xs:List (Nat × ah)}
variable {r:Option Nat} {P:Program} {Q:Exit->Act->World->Prop} {l:List Oper} {a a':Act} {w w':World}
theorem qF {x y:Nat} (h:x≠y):Nat.beq x y=false:=by
 cases h':Nat.beq x y with
 | false=>rfl
 | true=>exact absurd (BS h') h
theorem rX {i e:Nat} (h:dV l i=some e):i < l.length:=by
 unfold dV at h
 by_cases hl:i < l.length
 ·exact hl
 ·rw [List.getElem?_eq_none O] at h;cases h
theorem TP:∀ (vs c:List ah) (o:Nat),o+vs.length<=c.length->setRow c o vs=c.take o++vs++c.drop (o+vs.length)
 | [],c,o,_=>by simp [setRow]
 | v :: vs,c,o,h=>by
  simp only [lW] at h
  rw [setRow,TP vs (c.set o v) (o+1) (by simp;omega),List.take_set,List.drop_set,aD O,kG O]
  have e:((c.take o++[c[o]]).set o v)=c.take o++[v]:=by
   have hl:(c.take o).length=o:=by simp;omega
   rw [List.set_append,av O,hl,Nat.sub_self];rfl
  rw [e,lW,show o+1+vs.length=o+(vs.length+1) by omega]
  simp
end
end
section
structure Jq (P:Program) (t:TypeId):Prop where
 h:(P.info? t).map (fun j=>j.size == 0)=some false
theorem Jq.parts {P:Program} {t:TypeId} (h:Jq P t):∃ j,P.info? t=some j∧j.size≠0:=by
 obtain ⟨j,h1,h2⟩:=qD.1 h.h
 exact ⟨j,h1,by simpa using h2⟩
section
variable {N:Nat} {D:List Deferred} {w0:World} {F:Nat->Prop} {G0 G:GH} {L Li Lo:OL} {T:List (Nat × ah)}
variable {r:Option Nat} {P:Program} {ops:Array Oper} {Q:Exit->Act->World->Prop} {rest:List Oper} {a:Act} {w:World}
variable {d:Nat} {ty:TypeId} {pos:String} {aQ:Array Edge} {g:Option (Nat × Bool)}
theorem Hp.shape (h:Hp w0 F G0 G L w) {i b:Nat} {c:Array ah} {e:TypeId} {fz:Nat × Nat} (hi:L[i]?=some (b,.cells c e fz)):w.shape? b=some (e,c.size):=by
 have:=h.own _ (lV hi)
 simp only at this
 simp [World.shape?,this]
theorem azw {t u te e:TypeId} {x:Operand} {b o:Nat} {c:Array ah} {fz:Nat × Nat} (hs:P.underlying t=some (.pointer te)) (hu:P.underlying u=some .unsafePointer) (hj:Jq P te) (H:St N D w0 F G0 G L T a w) (hw:Region.wanted ⟨some d,.convert t u x,ty,pos,aQ,g⟩ (yielded ops a.tmps)=true)
  (hx:ev T x=some (.pointer (some ⟨b,o,none⟩))) (i:Nat) (hi:L[i]?=some (b,.cells c e fz)) (ho:Nat.blt o c.size=true) (hd:Nat.blt d N=true)
  (k:∀ a',St N D w0 F G0 G L ((d,.pointer (some ⟨b,o,none⟩)) :: T) a' w->WL r P ops Q rest a' w):WL r P ops Q (⟨some d,.convert t u x,ty,pos,aQ,g⟩ :: rest) a w:=by
 obtain ⟨j,h1,h2⟩:=hj.parts
 refine fQ (v:=.pointer (some ⟨b,o,none⟩)) (w':=w) hw M ?_ (k _ (H.put hd _ H.hp))
 have h:=Lib.run_to_unsafe (P:=P) w ⟨b,o,none⟩ hs hu h1 h2 (H.hp.shape hi) (Eq.mp Nat.blt_eq ho)
 simp only [execOp,H.ev hx,dU,h,nS,uf]
theorem azg {t u te e:TypeId} {x:Operand} {b o:Nat} {c:Array ah} {fz:Nat × Nat} (hs:P.underlying t=some .unsafePointer) (hu:P.underlying u=some (.pointer te)) (hj:Jq P te) (H:St N D w0 F G0 G L T a w) (hw:Region.wanted ⟨some d,.convert t u x,ty,pos,aQ,g⟩ (yielded ops a.tmps)=true)
  (hx:ev T x=some (.pointer (some ⟨b,o,none⟩))) (i:Nat) (hi:L[i]?=some (b,.cells c e fz)) (hl:liesAt P P.depth e (c.size / P.cellsOf e) o te 1=true) (hd:Nat.blt d N=true)
  (k:∀ a',St N D w0 F G0 G L ((d,.pointer (some ⟨b,o,none⟩)) :: T) a' w->WL r P ops Q rest a' w):WL r P ops Q (⟨some d,.convert t u x,ty,pos,aQ,g⟩ :: rest) a w:=by
 obtain ⟨j,h1,h2⟩:=hj.parts
 refine fQ (v:=.pointer (some ⟨b,o,none⟩)) (w':=w) hw M ?_ (k _ (H.put hd _ H.hp))
 have h:=Lib.run_from_unsafe (P:=P) w ⟨b,o,none⟩ hs hu h1 (H.hp.shape hi) hl
 simp only [execOp,H.ev hx,dU,h,nS,uf]
theorem azm {f:FuncId} {xs:List Operand} {v:ah} {ts:Array TypeId} (hcf:∀ (w:World),(callFunc f #[v]).run P w=.ok (.value v) w) (H:St N D w0 F G0 G L T a w) (hw:Region.wanted ⟨some d,.call { callee:=.value (.func f),args:=xs.toArray,argTypes:=ts },ty,pos,aQ,g⟩ (yielded ops a.tmps)=true)
  (hx:evs T xs=some [v]) (hd:Nat.blt d N=true)
  (k:∀ a',St N D w0 F G0 G L ((d,v) :: T) a' w->WL r P ops Q rest a' w):WL r P ops Q (⟨some d,.call { callee:=.value (.func f),args:=xs.toArray,argTypes:=ts },ty,pos,aQ,g⟩ :: rest) a w:=by
 refine fQ (v:=v) (w':=w) hw M ?_ (k _ (H.put hd _ H.hp))
 have h1:=H.evs hx
 simp [execOp,resolve,Act.eval,Deferred.ofValue,invoke,dU,h1,hcf]
theorem ayR {f:FuncId} {fn:Func} (hf:P.funcs[f]?=some fn) (hname:(fn.name == "runtime.NumGoroutine")=false) (hb:fn.body.isNone=true) (hn:Extern.findNext fn=none) (he:Extern.find fn=some Extern.AbiNoEscape.same) (v:ah) (w:World):(callFunc f #[v]).run P w=.ok (.value v) w:=by
 rw [run_callFunc_extern hf hname hb hn he,Lib.run_noEscape]
 rfl
theorem ajq {t u te:TypeId} (hs:P.underlying t=some (.pointer te)) {x:Operand} {p:Option Addr} (H:St N D w0 F G0 G L T a w) (hw:Region.wanted ⟨some d,.binOp .eql t x (.const (.pointer none)) u,ty,pos,aQ,g⟩ (yielded ops a.tmps)=true) (hx:ev T x=some (.pointer p)) (hd:Nat.blt d N=true)
  (k:∀ a',St N D w0 F G0 G L ((d,.bool p.isNone) :: T) a' w->WL r P ops Q rest a' w):WL r P ops Q (⟨some d,.binOp .eql t x (.const (.pointer none)) u,ty,pos,aQ,g⟩ :: rest) a w:=by
 refine fQ (v:=.bool p.isNone) (w':=w) hw M ?_ (k _ (H.put hd _ H.hp))
 have h1:(Op.equal t (.pointer p) (.pointer none)).run P w=.ok p.isNone w:=by
  show (Op.equalIn (9999+1) t (.pointer p) (.pointer none)).run P w=_
  rw [Op.equalIn.eq_2,dU,nZ hs]
  cases p <;> simp
 have h2:(do eqGuard .eql t x (.const (.pointer none)) (.pointer p) (.pointer none);binOp .eql t (.pointer p) (.pointer none):Sem ah).run P w=.ok (.bool p.isNone) w:=by
  have e:(do eqGuard .eql t x (.const (.pointer none)) (.pointer p) (.pointer none);binOp .eql t (.pointer p) (.pointer none):Sem ah)=(do pure (.bool (<- Op.equal t (.pointer p) (.pointer none))):Sem ah):=rfl
  rw [e,dU,h1];rfl
 have e0:execOp a.eval ⟨some d,.binOp .eql t x (.const (.pointer none)) u,ty,pos,aQ,g⟩=(do pure (.value (<- (do eqGuard .eql t x (.const (.pointer none)) (.pointer p) (.pointer none);binOp .eql t (.pointer p) (.pointer none):Sem ah))):Sem Next):=by
  simp only [execOp,H.ev hx];rfl
 rw [e0,dU,h2]
 rfl
theorem azk {t u te:TypeId} (hs:P.underlying t=some (.pointer te)) (hj:Jq P te) {x y:Operand} {p:Addr} (H:St N D w0 F G0 G L T a w) (hw:Region.wanted ⟨some d,.binOp .neq t x y u,ty,pos,aQ,g⟩ (yielded ops a.tmps)=true) (hx:ev T x=some (.pointer (some p))) (hy:ev T y=some (.pointer (some p))) (hd:Nat.blt d N=true)
  (k:∀ a',St N D w0 F G0 G L ((d,.bool false) :: T) a' w->WL r P ops Q rest a' w):WL r P ops Q (⟨some d,.binOp .neq t x y u,ty,pos,aQ,g⟩ :: rest) a w:=by
 obtain ⟨j,h1,h2⟩:=hj.parts
 refine fQ (v:=.bool false) (w':=w) hw M ?_ (k _ (H.put hd _ H.hp))
 have h:=Lib.run_neq_ptr_same (P:=P) (w:=w) p hs h1
 simp only [execOp,H.ev hx,H.ev hy]
 simp [dU,eqGuard,h]
theorem azs {t:TypeId} {x:Operand} {p:Addr} {n c:Nat} (H:St N D w0 F G0 G L T a w) (hw:Region.wanted ⟨some d,.call { callee:=.builtin .unsafeSliceData,args:=#[x],argTypes:=#[t] },ty,pos,aQ,g⟩ (yielded ops a.tmps)=true) (hx:ev T x=some (.slice (some p) n c)) (hc:c≠0) (hd:Nat.blt d N=true)
  (k:∀ a',St N D w0 F G0 G L ((d,.pointer (some p)) :: T) a' w->WL r P ops Q rest a' w):WL r P ops Q (⟨some d,.call { callee:=.builtin .unsafeSliceData,args:=#[x],argTypes:=#[t] },ty,pos,aQ,g⟩ :: rest) a w:=by
 refine fQ (v:=.pointer (some p)) (w':=w) hw M ?_ (k _ (H.put hd _ H.hp))
 have h:=Lib.run_unsafeSliceData_row (P:=P) (w:=w) #[t] ty p n c hc
 simp [execOp,resolve,invoke,builtin,H.ev hx,dU,h]
theorem aAU {w:World} {b n:Nat} {c:Array ah} {e:TypeId} {fz:Nat × Nat} (h:w.heap[b]?=some (.cells c e fz)) (hn:n≠0):∃ Hf,wG b (.cells c e Hf) w (w.freeze ⟨b,0,none⟩ n):=by
 unfold World.freeze
 rw [av hn]
 refine ⟨if fz.1 == fz.2 then (0,0+n) else (min fz.1 0,max fz.2 (0+n)),M,M,M,by simp,?_,fun k hk=>?_⟩
 ·simp [Array.getElem?_modify,h]
 ·simp [Array.getElem?_modify,Ne.symm hk]
theorem azx {pt it e:TypeId} {x y:Operand} {b i:Nat} {cur:Array ah} {fz:Nat × Nat} (l:List UInt8) (hp:P.underlying pt=some (.pointer e)) (hc:P.cellsOf e=1) (h0:l≠[]) (h63:l.length<=9223372036854775807) (H:St N D w0 F G0 G L T a w)
  (hw:Region.wanted ⟨some d,.call { callee:=.builtin .unsafeString,args:=#[x,y],argTypes:=#[pt,it] },ty,pos,aQ,g⟩ (yielded ops a.tmps)=true) (hx:ev T x=some (.pointer (some ⟨b,0,none⟩))) (hy:ev T y=some (.int .i64 (l.length:Int)))
  (hi:L[i]?=some (b,.cells cur e fz)) (hl:cur.toList.take l.length=Lib.byteCells l) (hd:Nat.blt d N=true)
  (k:∀ Hf a' w',St N D w0 F G0 G (L.set i (b,.cells cur e Hf)) ((d,.string ⟨l.toArray⟩) :: T) a' w'->WL r P ops Q rest a' w'):WL r P ops Q (⟨some d,.call { callee:=.builtin .unsafeString,args:=#[x,y],argTypes:=#[pt,it] },ty,pos,aQ,g⟩ :: rest) a w:=by
 have hb:=H.hp.own _ (lV hi)
 simp only at hb
 have hlen:l.length<=cur.size:=by
  have:=cZ List.length hl
  simp only [List.length_take,Lib.byteCells_length,vM] at this
  omega
 obtain ⟨Hf,hu⟩:=aAU (n:=l.length) hb (by simpa using h0)
 have h:=Lib.run_unsafeString_row (P:=P) w pt it ty e hp hc b cur.size (H.hp.shape hi) l h0 hlen h63 (fun j x hj=>by
  rw [add_lit,gy]
  simp only [World.cell?,hb]
  have h2:(cur.toList.take l.length)[j]?=some (.int .u8 x.toNat):=by rw [hl];simp [Lib.byteCells,hj]
  rw [uN] at h2
  split at h2
  ·simpa using h2
  ·cases h2)
 refine fQ (v:=.string ⟨l.toArray⟩) (w':=w.freeze ⟨b,0,none⟩ l.length) hw M ?_ (k Hf _ _ (H.put hd _ (H.hp.upd hi hu)))
 simp [execOp,resolve,invoke,builtin,H.ev hx,H.ev hy,dU,h]
theorem afB (sz n:Nat):∀ (css:List (List ah)) (k:Nat) (pre z:List ah),pre.length=k*sz->z.length=css.length*sz->(∀ c∈css,c.length=sz)->k+css.length=n ->
  Cn ((List.range n).map fun i=>(i*sz,sz)) (pre++z) ((css.zipIdx k).map fun p=>(p.2,p.1))=some (pre++css.flatten)
 | [],k,pre,z,_,hz,_,_=>by
  have:z=[]:=List.eq_nil_of_length_eq_zero (by simpa using hz)
  subst this
  simp [Cn]
 | c :: css,k,pre,z,hp,hz,hc,hn=>by
  have hcl:=hc c dX
  simp only [lW] at hz hn
  have hpl:((List.range n).map fun i=>(i*sz,sz))[k]?=some (k*sz,sz):=by
   rw [tZ,List.getElem?_range O];rfl
  have hz1:z.length=sz+css.length*sz:=by rw [hz,Nat.add_mul,Nat.one_mul,Nat.add_comm]
  have hle:k*sz+c.length<=(pre++z).length:=by rw [iW,hp,hcl];omega
  have e1:Nat.beq c.length sz=true:=by rw [hcl];exact Nat.beq_refl sz
  have e2:Nat.ble (k*sz+c.length) (pre++z).length=true:=Eq.mpr Nat.ble_eq hle
  rw [List.zipIdx_cons,fD]
  simp only [Cn,hpl,e1,e2,Bool.and_self,cond_true]
  have e3:setRow (pre++z) (k*sz) c=(pre++c)++z.drop sz:=by
   rw [TP _ _ _ hle,<- hp,List.take_left' M,List.drop_append,uh O,mO,hcl]
   congr 2;omega
  rw [e3,afB sz n css (k+1) (pre++c) (z.drop sz) (by rw [iW,hp,hcl,Nat.succ_mul]) (by rw [List.length_drop];omega) (fun q hq=>hc q (gW _ hq)) O]
  simp
theorem azb {t e:TypeId} {sz bytes:Nat} {zero:List ah} {agg:Bool} (hs:P.underlying t=some (.slice e)) (ht:Ty P e sz bytes zero agg) {n:Nat} {xs:List (Nat × Operand)} {vs:List (Nat × ah)} (css:List (List ah)) (H:St N D w0 F G0 G L T a w) (hw:Region.wanted ⟨some d,.buildSlice t n xs.toArray,ty,pos,aQ,g⟩ (yielded ops a.tmps)=true)
  (hx:pts T xs=some vs) (hv:vs.map (fun x=>(x.1,x.2.cells.toList))=(css.zipIdx 0).map fun p=>(p.2,p.1)) (hl:css.all (fun c=>Nat.beq c.length sz)=true) (hcn:Nat.beq css.length n=true) (hn:Nat.ble (n*sz) 1000=true) (hn0:Nat.beq (n*sz) 0=false) (hd:Nat.blt d N=true)
  (k:∀ b a' w',w0.heap.size<=b->St N D w0 F G0 G ((b,.cells css.flatten.toArray e (0,0)) :: L) ((d,.slice (some ⟨b,0,none⟩) n n) :: T) a' w'->WL r P ops Q rest a' w'):WL r P ops Q (⟨some d,.buildSlice t n xs.toArray,ty,pos,aQ,g⟩ :: rest) a w:=by
 have hcn':css.length=n:=BS hcn
 refine iC (vs':=(css.zipIdx 0).map fun p=>(p.2,p.1)) hs ht ((List.range (n*sz)).map (fun i=>zero[i % zero.length]!)) css.flatten H hw hx hv hn hn0 M (fun i q h=>?_) ?_ hd k
 ·rw [tZ] at h
  obtain ⟨j,hj,rfl⟩:=qD.1 h
  obtain ⟨h1,h2⟩:=ko.1 hj
  rw [List.getElem_range] at h2
  rw [h2]
 ·have h:=afB sz n css 0 [] ((List.range (n*sz)).map (fun i=>zero[i % zero.length]!)) (by simp) (by simp [hcn']) (fun c hc=>BS (jE.1 hl c hc)) O
  simpa using h
end
end
section
def mI (xs:Array ah) (o:Nat):Option Int:=match xs[o]? with|some (.int .i64 n)=>some n|_=>none
def YG (u:Option TypeDesc):Bool:=match u with|some (.int .i64)=>true|_=>false
theorem ajg {P:Program} {w:World} {d:Nat} {xs ys:Array ah}:∀ fs:List Field,fs.all (fun f=>decide (f.name ≠ "_") && P.plainKey f.type && YG (P.underlying f.type))=true ->
  (fs.map (·.offset)).all (fun o=>(mI xs o).isSome && (mI ys o).isSome)=true->(Op.eqFields (d+1) xs ys fs).run P w=.ok ((fs.map (·.offset)).all fun o=>mI xs o == mI ys o) w
 | [],_,_=>by simp [Op.eqFields]
 | f :: fs,h1,h2=>by
  simp only [List.all_cons,iL,oM,fD] at h1 h2
  obtain ⟨⟨⟨hn,hp⟩,hi⟩,h1⟩:=h1
  obtain ⟨⟨hx,hy⟩,h2⟩:=h2
  have ih:=ajg (w:=w) (d:=d) fs (by simpa using h1) h2
  unfold YG at hi
  split at hi
  ·rename_i hu
   unfold mI at hx hy
   split at hx
   ·rename_i m hxm
    split at hy
    ·rename_i m2 hym
     have e1:mI xs f.offset=some m:=by unfold mI;rw [hxm]
     have e2:mI ys f.offset=some m2:=by unfold mI;rw [hym]
     simp only [Op.eqFields,hn,ne_eq,not_false_eq_true,if_true,dU,run_part_plain w hp hxm,run_part_plain w hp hym,nS,run_equalIn_int w d f.type .i64 .i64 m m2 hu,fD,List.all_cons,e1,e2]
     by_cases e:m=m2
     ·subst e;simp [ih,List.all_map]
     ·simp [e]
    ·simp at hy
   ·simp at hx
  ·simp at hi
def nJ (xs:Array ah) (o:Nat × Bool):Option (Int × Bool):=match xs[o.1]?,o.2 with|some (.int .i64 n),false=>some (n,false)|some (.bool b),true=>some (0,b)|_,_=>none
def CK (u:Option TypeDesc) (b:Bool):Bool:=match u,b with|some (.int .i64),false=>true|some .bool,true=>true|_,_=>false
structure PN (P:Program) (t:TypeId) (zi:List (Nat × Bool)):Prop where
 und:P.underlying t=some (.struct (P.fieldsOf t))
 held:P.stoodInHeld t=false
 guard:P.eqGuardType P.depth t=false
 EY:(P.fieldsOf t).toList.map (fun f=>(f.offset,CK (P.underlying f.type) true))=zi
 ok:(P.fieldsOf t).toList.all (fun f=>decide (f.name ≠ "_") && P.plainKey f.type && CK (P.underlying f.type) (CK (P.underlying f.type) true))=true
theorem aji {P:Program} {w:World} {d:Nat} {xs ys:Array ah}:∀ fs:List Field,fs.all (fun f=>decide (f.name ≠ "_") && P.plainKey f.type && CK (P.underlying f.type) (CK (P.underlying f.type) true))=true ->
  (fs.map (fun f=>(f.offset,CK (P.underlying f.type) true))).all (fun o=>(nJ xs o).isSome && (nJ ys o).isSome)=true->(Op.eqFields (d+1) xs ys fs).run P w=.ok ((fs.map (fun f=>(f.offset,CK (P.underlying f.type) true))).all fun o=>nJ xs o == nJ ys o) w
 | [],_,_=>by simp [Op.eqFields]
 | f :: fs,h1,h2=>by
  simp only [List.all_cons,iL,oM,fD] at h1 h2
  obtain ⟨⟨⟨hn,hp⟩,hi⟩,h1⟩:=h1
  obtain ⟨⟨hx,hy⟩,h2⟩:=h2
  have ih:=aji (w:=w) (d:=d) fs (by simpa using h1) h2
  obtain ⟨kb,hkb⟩:∃ kb,kb=CK (P.underlying f.type) true:=⟨_,M⟩
  rw [<- hkb] at hi hx hy
  cases kb with
  | false =>
   have hu:P.underlying f.type=some (.int .i64):=by clear hkb ih h1 h2 hx hy;unfold CK at hi;split at hi <;> simp_all
   obtain ⟨m,hxm⟩:∃ m,xs[f.offset]?=some (.int .i64 m):=by clear hkb ih h1 h2 hi hy;unfold nJ at hx;split at hx <;> simp_all
   obtain ⟨m2,hym⟩:∃ m,ys[f.offset]?=some (.int .i64 m):=by clear hkb ih h1 h2 hi hx;unfold nJ at hy;split at hy <;> simp_all
   have e1:nJ xs (f.offset,false)=some (m,false):=by unfold nJ;rw [hxm]
   have e2:nJ ys (f.offset,false)=some (m2,false):=by unfold nJ;rw [hym]
   simp only [Op.eqFields,hn,ne_eq,not_false_eq_true,if_true,dU,run_part_plain w hp hxm,run_part_plain w hp hym,nS,run_equalIn_int w d f.type .i64 .i64 m m2 hu,fD,List.all_cons,<- hkb,e1,e2]
   by_cases e:m=m2
   ·subst e;simp [ih,List.all_map]
   ·simp [e]
  | true =>
   have hu:P.underlying f.type=some .bool:=by clear hkb ih h1 h2 hx hy;unfold CK at hi;split at hi <;> simp_all
   obtain ⟨m,hxm⟩:∃ m,xs[f.offset]?=some (.bool m):=by clear hkb ih h1 h2 hi hy;unfold nJ at hx;split at hx <;> simp_all
   obtain ⟨m2,hym⟩:∃ m,ys[f.offset]?=some (.bool m):=by clear hkb ih h1 h2 hi hx;unfold nJ at hy;split at hy <;> simp_all
   have e1:nJ xs (f.offset,true)=some (0,m):=by unfold nJ;rw [hxm]
   have e2:nJ ys (f.offset,true)=some (0,m2):=by unfold nJ;rw [hym]
   simp only [Op.eqFields,hn,ne_eq,not_false_eq_true,if_true,dU,run_part_plain w hp hxm,run_part_plain w hp hym,nS,run_equalIn_bool' w d f.type m m2 hu,fD,List.all_cons,<- hkb,e1,e2]
   by_cases e:m=m2
   ·subst e;simp [ih,List.all_map]
   ·simp [e]
section
variable {N:Nat} {D:List Deferred} {w0:World} {F:Nat->Prop} {G0 G:GH} {L:List (Nat × Obj)} {T:List (Nat × ah)}
variable {r:Option Nat} {P:Program} {ops:Array Oper} {Q:Exit->Act->World->Prop} {rest:List Oper} {a:Act} {w:World}
variable {d:Nat} {ty:TypeId} {pos:String} {aQ:Array Edge} {g:Option (Nat × Bool)}
theorem CV {t yt:TypeId} {x y:Operand} {p q:ByteArray} (H:St N D w0 F G0 G L T a w) (hw:Region.wanted ⟨some d,.binOp .eql t x y yt,ty,pos,aQ,g⟩ (yielded ops a.tmps)=true) (hx:ev T x=some (.string p)) (hy:ev T y=some (.string q)) (hd:Nat.blt d N=true)
  (k:∀ a',St N D w0 F G0 G L ((d,.bool (p.toList == q.toList)) :: T) a' w->WL r P ops Q rest a' w):WL r P ops Q (⟨some d,.binOp .eql t x y yt,ty,pos,aQ,g⟩ :: rest) a w:=by
 refine fQ (v:=.bool (p.toList == q.toList)) (w':=w) hw M ?_ (k _ (H.put hd _ H.hp))
 simp [execOp,H.ev hx,H.ev hy,dU,eqGuard,binOp,Op.stringOp]
theorem ZK {op:BinOp} {t yt:TypeId} {zi:List (Nat × Bool)} (ho:op=.eql∨op=.neq) (he:PN P t zi) {x y:Operand} {xs ys:Array ah} (H:St N D w0 F G0 G L T a w) (hw:Region.wanted ⟨some d,.binOp op t x y yt,ty,pos,aQ,g⟩ (yielded ops a.tmps)=true) (hx:ev T x=some (.agg xs)) (hy:ev T y=some (.agg ys))
  (hi:zi.all (fun o=>(nJ xs o).isSome && (nJ ys o).isSome)=true) (hd:Nat.blt d N=true)
  (k:∀ a',St N D w0 F G0 G L ((d,.bool (if op=.eql then zi.all fun o=>nJ xs o == nJ ys o else !(zi.all fun o=>nJ xs o == nJ ys o))) :: T) a' w->WL r P ops Q rest a' w):WL r P ops Q (⟨some d,.binOp op t x y yt,ty,pos,aQ,g⟩ :: rest) a w:=by
 have h1:=aji (P:=P) (w:=w) (d:=9998) (xs:=xs) (ys:=ys) _ he.ok (by rw [he.EY];exact hi)
 rw [he.EY] at h1
 rcases ho with rfl|rfl
 ·refine fQ (v:=_) (w':=w) hw M ?_ (k _ (H.put hd _ H.hp))
  simp only [execOp,H.ev hx,H.ev hy,dU,run_eqGuard_agg w .eql t x y xs ys he.guard,nS,run_eql_struct,run_equalIn_struct w 9999 t xs ys he.und he.held,h1]
  rfl
 ·refine fQ (v:=_) (w':=w) hw M ?_ (k _ (H.put hd _ H.hp))
  simp only [execOp,H.ev hx,H.ev hy,dU,run_eqGuard_agg w .neq t x y xs ys he.guard,nS,run_neq_struct,run_equalIn_struct w 9999 t xs ys he.und he.held,h1]
  rfl
end
end
section
section
variable {N:Nat} {D:List Deferred} {w0:World} {F:Nat->Prop} {G0 G:GH} {L:OL} {T:List (Nat × ah)}
variable {r:Option Nat} {P:Program} {ops:Array Oper} {Q:Exit->Act->World->Prop} {rest:List Oper} {a:Act} {w:World}
variable {d:Nat} {ty:TypeId} {pos:String} {aQ:Array Edge} {g:Option (Nat × Bool)}
theorem FN {t:TypeId} (H:St N D w0 F G0 G L T a w) (hw:Region.wanted ⟨some d,.makeMap t none,ty,pos,aQ,g⟩ (yielded ops a.tmps)=true) (hd:Nat.blt d N=true)
  (k:∀ b a' w',w0.heap.size<=b->St N D w0 F G0 G ((b,.map #[] 0) :: L) ((d,.map (some b)) :: T) a' w'->WL r P ops Q rest a' w'):WL r P ops Q (⟨some d,.makeMap t none,ty,pos,aQ,g⟩ :: rest) a w:=by
 refine fQ (v:=.map (some w.heap.size)) (w':=w.alloc (.map #[] 0)) hw M ?_ (k _ _ _ H.hp.size (H.put hd _ (H.hp.alloc _)))
 simp [execOp,Instr.makeMap,newObj,Sem.run,dU]
def Ed (an:Option (Nat × ah)) (zv:ah):ah × Bool:=match an with|some (_,v)=>(v,true)|none=>(zv,false)
theorem azh {t kt et:TypeId} {kd:TypeDesc} {x y:Operand} {b i clock:Nat} {es:Array MapEntry} {ky zv:ah} (an:Option (Nat × ah)) (hm:P.underlying t=some (.map kt et)) (hk:P.underlying kt=some kd) (hz:(P.info? et).map (fun i=>i.zero)=some (some zv)) (H:St N D w0 F G0 G L T a w)
  (hw:Region.wanted ⟨some d,.lookup t x y true,ty,pos,aQ,g⟩ (yielded ops a.tmps)=true) (hx:ev T x=some (.map (some b))) (hy:ev T y=some ky) (hi:L[i]?=some (b,.map es clock)) (hky:MapKept.IsKey kd ky) (hf:Instr.findNow kd ky es.toList 0=some an) (hd:Nat.blt d N=true)
  (k:∀ a',St N D w0 F G0 G L ((d,.tuple #[(Ed an zv).1,.bool (Ed an zv).2]) :: T) a' w->WL r P ops Q rest a' w):WL r P ops Q (⟨some d,.lookup t x y true,ty,pos,aQ,g⟩ :: rest) a w:=by
 have hb:w.heap[b]?=some (.map es clock):=H.hp.own _ (lV hi)
 obtain ⟨inf,hi1,hi2⟩:=qD.1 hz
 refine fQ (v:=.tuple #[(Ed an zv).1,.bool (Ed an zv).2]) (w':=w) hw M ?_ (k _ (H.put hd _ H.hp))
 have h1:=MapKept.run_checkKey (w:=w) hk hky es.isEmpty 9999
 have h2:=MapKept.run_findKey (w:=w) hk hf
 cases an with
 | none=>simp [execOp,Instr.lookup,H.ev hx,H.ev hy,dU,nZ hm,MapKept.run_getObj_map hb,h1,h2,Result.andThen,zeroValue,FL hi1,hi2,Ed]
 | some q=>simp [execOp,Instr.lookup,H.ev hx,H.ev hy,dU,nZ hm,MapKept.run_getObj_map hb,h1,h2,Result.andThen,Ed]
theorem aak {w:World} {b clock:Nat} {es:Array MapEntry} {o:Obj} (h:w.heap[b]?=some (.map es clock)):wG b o w { w with heap:=w.heap.setIfInBounds b o }:=by
 have hlt:b < w.heap.size:=(Array.getElem?_eq_some_iff.1 h).1
 refine ⟨M,M,M,by simp,by simp [hlt],fun k hk=>?_⟩
 simp only
 rw [Array.getElem?_setIfInBounds_ne (Ne.symm hk)]
theorem ajs {t kt et:TypeId} {kd:TypeDesc} {x y z:Operand} {b i clock:Nat} {es:Array MapEntry} {ky v:ah} (hm:P.underlying t=some (.map kt et)) (hk:P.underlying kt=some kd) (H:St N D w0 F G0 G L T a w)
  (hw:Region.wanted ⟨none,.mapUpdate t x y z,ty,pos,aQ,g⟩ (yielded ops a.tmps)=true) (hx:ev T x=some (.map (some b))) (hy:ev T y=some ky) (hzv:ev T z=some v) (hi:L[i]?=some (b,.map es clock)) (hky:MapKept.IsKey kd ky) (hf:Instr.findNow kd ky es.toList 0=some none)
  (k:∀ w',St N D w0 F G0 G (L.set i (b,.map (es.push ⟨ky,v,clock⟩) (clock+1))) T a w'->WL r P ops Q rest a w'):WL r P ops Q (⟨none,.mapUpdate t x y z,ty,pos,aQ,g⟩ :: rest) a w:=by
 have hb:w.heap[b]?=some (.map es clock):=H.hp.own _ (lV hi)
 have h1:=MapKept.run_checkKey (w:=w) hk hky false 9999
 have h2:=MapKept.run_findKey (w:=w) hk hf
 refine aaq (w':={ w with heap:=w.heap.setIfInBounds b (.map (es.push ⟨ky,v,clock⟩) (clock+1)) }) hw M ?_ (k _ (H.move (H.hp.upd hi (aak hb))))
 simp [execOp,Instr.mapUpdate,H.ev hx,H.ev hy,H.ev hzv,dU,nZ hm,MapKept.run_getObj_map hb,h1,h2,MapKept.run_setObj_map _ hb,Result.andThen]
theorem azl {t yt:TypeId} {x y:Operand} {p q:ByteArray} (H:St N D w0 F G0 G L T a w) (hw:Region.wanted ⟨some d,.binOp .neq t x y yt,ty,pos,aQ,g⟩ (yielded ops a.tmps)=true) (hx:ev T x=some (.string p)) (hy:ev T y=some (.string q)) (hd:Nat.blt d N=true)
  (k:∀ a',St N D w0 F G0 G L ((d,.bool (!(p.toList == q.toList))) :: T) a' w->WL r P ops Q rest a' w):WL r P ops Q (⟨some d,.binOp .neq t x y yt,ty,pos,aQ,g⟩ :: rest) a w:=by
 refine fQ (v:=.bool (!(p.toList == q.toList))) (w':=w) hw M ?_ (k _ (H.put hd _ H.hp))
 simp [execOp,H.ev hx,H.ev hy,dU,eqGuard,binOp,Op.stringOp]
theorem Hp.yh (h:Hp w0 F G0 G L w) {b o:Nat} {c:Array ah} {e:TypeId} {fz:Nat × Nat} {v:ah} (hm:(b,Obj.cells c e fz)∈L) (hv:c[o]?=some v):w.cell? ⟨b,o,none⟩=some v:=by
 have:=h.own _ hm
 simp only [World.cell?,this]
 exact hv
end
end
section
section
variable {N:Nat} {D:List Deferred} {w0:World} {F:Nat->Prop} {G0 G:GH} {L Li Lo:OL} {T:List (Nat × ah)}
variable {r:Option Nat} {P:Program} {ops:Array Oper} {Q:Exit->Act->World->Prop} {rest:List Oper} {a:Act} {w:World}
variable {d:Nat} {ty:TypeId} {pos:String} {aQ:Array Edge} {g:Option (Nat × Bool)}
theorem azd {x:Operand} {t e:TypeId} {A:Option Addr} {n c:Nat} (hs:P.underlying t=some (.slice e)) (H:St N D w0 F G0 G L T a w) (hw:Region.wanted ⟨some d,.call { callee:=.builtin .cap,args:=#[x],argTypes:=#[t] },ty,pos,aQ,g⟩ (yielded ops a.tmps)=true) (hx:ev T x=some (.slice A n c)) (hd:Nat.blt d N=true)
  (k:∀ a',St N D w0 F G0 G L ((d,.int .i64 c) :: T) a' w->WL r P ops Q rest a' w):WL r P ops Q (⟨some d,.call { callee:=.builtin .cap,args:=#[x],argTypes:=#[t] },ty,pos,aQ,g⟩ :: rest) a w :=
 fQ (v:=.int .i64 c) (w':=w) hw M (by simp [execOp,resolve,invoke,builtin,Builtin.cap_,H.ev hx,dU,nZ hs,goInt]) (k _ (H.put hd _ H.hp))
theorem IY {t e:TypeId} {sz bytes:Nat} {zero:List ah} {agg:Bool} (hs:P.underlying t=some (.slice e)) (ht:Ty P e sz bytes zero agg) {x z:Operand} {A:Option Addr} {n c:Nat} (hi:Nat) {q:Int} (H:St N D w0 F G0 G L T a w)
  (hw:Region.wanted ⟨some d,.slice t x none (some z) none,ty,pos,aQ,g⟩ (yielded ops a.tmps)=true) (hx:ev T x=some (.slice A n c)) (hz:ev T z=some (.int .i64 q)) (hq:q=(hi:Int)) (h2:hi<=c) (hd:Nat.blt d N=true)
  (k:∀ a',St N D w0 F G0 G L ((d,.slice A hi c) :: T) a' w->WL r P ops Q rest a' w):WL r P ops Q (⟨some d,.slice t x none (some z) none,ty,pos,aQ,g⟩ :: rest) a w:=by
 subst hq
 refine fQ (v:=.slice A hi c) (w':=w) hw M ?_ (k _ (H.put hd _ H.hp))
 simp [execOp,H.ev hx,H.ev hz,Instr.sliceAt,Instr.slice,Instr.sliceBounds,Instr.sliceBound,dU,nZ hs,ht.zY,asIntOf,h2]
 intro _
 cases A with
 | none=>rfl
 | some p=>simp [Addr.add]
end
end
section
section
variable {N:Nat} {D:List Deferred} {w0:World} {F:Nat->Prop} {G0 G:GH} {L Lo:OL} {T:List (Nat × ah)}
variable {r:Option Nat} {P:Program} {ops:Array Oper} {Q:Exit->Act->World->Prop} {rest:List Oper} {a:Act} {w:World}
variable {d:Nat} {ty:TypeId} {pos:String} {aQ:Array Edge} {g:Option (Nat × Bool)}
theorem aBo (z:Array ah) (n:Nat):(Builtin.zeroCells z n).toList.length=n*z.size:=by simp [Builtin.zeroCells]
theorem aBp {z:Array ah} {n:Nat} (h:z.toList.all Value.oneCell'=true):∀ u∈(Builtin.zeroCells z n).toList,u.oneCell'=true:=by
 intro u hu
 simp only [Builtin.zeroCells,Array.toList_map,List.mem_map] at hu
 obtain ⟨i,hi,rfl⟩:=hu
 have hi2:i < n*z.size:=by simpa using hi
 have hz:0 < z.size:=by
  rcases Nat.eq_zero_or_pos z.size with e|e
  ·rw [e,Nat.mul_zero] at hi2;omega
  ·exact e
 have hlt:i % z.size < z.size:=Nat.mod_lt _ hz
 rw [getElem!_pos z (i % z.size) hlt]
 exact jE.1 h _ (by simp)
theorem ajp {t e:TypeId} {sz bytes:Nat} {zero:List ah} {agg:Bool} (hs:P.underlying t=some (.slice e)) (ht:Ty P e sz bytes zero agg) (hz:Nat.beq zero.length sz=true) (hz1:zero.all Value.oneCell'=true) {x:Operand} (i:Nat) {b o n cp:Nat} {c:List ah} (H:St N D w0 F G0 G L T a w)
  (hw:Region.wanted ⟨none,.call { callee:=.builtin .clear,args:=#[x],argTypes:=#[t] },ty,pos,aQ,g⟩ (yielded ops a.tmps)=true) (hx:ev T x=some (.slice (some ⟨b,o,none⟩) n cp)) (hi:L[i]?=some (b,.cells c.toArray e (0,0))) (hn:0 < n) (hle:o+n*sz<=c.length)
  (k:∀ (c':List ah) w',c'.length=c.length->c'.take o=c.take o->St N D w0 F G0 G (L.set i (b,.cells c'.toArray e (0,0))) T a w'->WL r P ops Q rest a w') :
  WL r P ops Q (⟨none,.call { callee:=.builtin .clear,args:=#[x],argTypes:=#[t] },ty,pos,aQ,g⟩ :: rest) a w:=by
 obtain ⟨inf,z,hi0,hi1,hi2,hi3,hi4⟩:=ht.parts
 have hb:=H.hp.own _ (lV hi)
 have hzs:z.cells.size=sz:=by rw [hi4];simpa using BS hz
 have hlen:(Builtin.zeroCells z.cells n).toList.length=n*sz:=by rw [aBo,hzs]
 obtain ⟨w2,h2,u2⟩:=ZE (P:=P) b e o (Builtin.zeroCells z.cells n).toList 0 c w hb (by rw [hlen];omega) (aBp (by rw [hi4];simpa using hz1))
 simp only [zF] at u2
 refine fQ (v:=.tuple #[]) (w':=w2) hw M ?_ (k _ w2 ?_ ?_ (H.move (H.hp.upd hi u2)))
 ·obtain ⟨m,rfl⟩:∃ m,n=m+1:=⟨n - 1,O⟩
  simp [execOp,resolve,invoke,builtin,Builtin.clear_,dU,H.ev hx,nZ hs,zeroValue,FL hi0,hi3,h2]
 ·rw [ZR]
 ·rw [TP _ _ _ (by rw [hlen];exact hle),jv,List.take_append_of_le_length (by rw [List.length_take];omega),jF (by rw [List.length_take];omega)]
end
end
theorem dw.ptr {e sz n c:Nat} {A:Option Addr} {xs:List ah} {Lo:OL} (h:dw e sz (.slice A n c) n xs Lo) (hn:0 < n):∃ b,A=some ⟨b,0,none⟩:=by
 rcases h.2 with ⟨_,h0,_⟩|⟨b,cap,cur,he,_⟩
 ·omega
 ·injection he with e1;exact ⟨b,e1⟩
theorem dw.at {w0 w:World} {F:Nat->Prop} {G0 G:GH} {L Lo:OL} {e sz n c b o:Nat} {xs:List ah} (h:dw e sz (.slice (some ⟨b,o,none⟩) n c) n xs Lo) (H:Hp w0 F G0 G L w) (hsub:∀ x∈Lo,x∈L) {i:Nat} {u:ah} (hi:xs[i]?=some u):w.cell? ⟨b,i,none⟩=some u:=by
 rcases h.2 with ⟨h1,_⟩|⟨b2,cap,cur,he,hl,h1,h2,h3,h4⟩
 ·cases h1
 ·injection he with e1
  injection e1 with e1
  injection e1 with e1
  subst e1
  refine H.yh (c:=cur) (e:=e) (fz:=(0,0)) (hsub _ (by rw [hl];exact List.mem_singleton_self _)) ?_
  have hx:i < xs.length:=(ko.1 hi).1
  rw [h.1] at hx
  rw [<- h4,uN,aD hx,Array.getElem?_toList] at hi
  exact hi
theorem flat_get {sz:Nat}:∀ {css:List (List ah)} {k:Nat} (hk:k < css.length) (h:∀ cs∈css,cs.length=sz) (j:Nat),j < sz->css.flatten[k*sz+j]?=css[k][j]?
 | c :: css,0,_,h,j,hj=>by
  rw [List.flatten_cons,Nat.zero_mul,gy,List.getElem_cons_zero,zG (by rw [h c dX];exact hj)]
 | c :: css,k+1,hk,h,j,hj=>by
  have ih:=flat_get (css:=css) (k:=k) (by simpa using hk) (fun cs hc=>h cs (gW _ hc)) j hj
  rw [List.flatten_cons,List.getElem_cons_succ,uO (by rw [h c dX,Nat.succ_mul];omega),h c dX,show (k+1)*sz+j - sz=k*sz+j by rw [Nat.succ_mul];omega]
  exact ih
theorem dx.at {G:GH} {sz:Nat} {rows:List (List Dat)} {xs:List ah} (h:dx G sz rows xs) {k:Nat} {r:List Dat} (hk:rows[k]?=some r):∃ cs,cs.length=sz∧(∀ j u,cs[j]?=some u->xs[k*sz+j]?=some u)∧bB G r cs:=by
 obtain ⟨css,rfl,h2,h3⟩:=h
 have hkl:k < css.length:=by rw [h2];exact (ko.1 hk).1
 obtain ⟨hr,hl⟩:=h3 k r css[k] hk (eB hkl)
 refine ⟨css[k],hl,fun j u hj=>?_,hr⟩
 rw [flat_get hkl (fun cs hc=>?_) j (by rw [<- hl];exact (ko.1 hj).1)]
 ·exact hj
 ·obtain ⟨i,hi,rfl⟩:=List.getElem_of_mem hc
  exact (h3 i rows[i] css[i] (eB O) (eB hi)).2
section
section
variable {N:Nat} {D:List Deferred} {w0:World} {F:Nat->Prop} {G0 G:GH} {L:OL} {T:List (Nat × ah)}
variable {r:Option Nat} {P:Program} {ops:Array Oper} {Q:Exit->Act->World->Prop} {rest:List Oper} {a:Act} {w:World}
variable {d:Nat} {ty:TypeId} {pos:String} {aQ:Array Edge} {g:Option (Nat × Bool)}
theorem aze {t yt:TypeId} {x y:Operand} {p q:ByteArray} (H:St N D w0 F G0 G L T a w) (hw:Region.wanted ⟨some d,.binOp .add t x y yt,ty,pos,aQ,g⟩ (yielded ops a.tmps)=true) (hx:ev T x=some (.string p)) (hy:ev T y=some (.string q)) (hs:p.size+q.size<=4611686018427387904) (hd:Nat.blt d N=true)
  (k:∀ a',St N D w0 F G0 G L ((d,.string (p++q)) :: T) a' w->WL r P ops Q rest a' w):WL r P ops Q (⟨some d,.binOp .add t x y yt,ty,pos,aQ,g⟩ :: rest) a w:=by
 refine fQ (v:=.string (p++q)) (w':=w) hw M ?_ (k _ (H.put hd _ H.hp))
 have h:¬ ((p.size+q.size:Nat):Int) > IntKind.i64.max:=by
  rw [show IntKind.i64.max=9223372036854775807 by decide];omega
 simp only [execOp,H.ev hx,H.ev hy,dU,eqGuard,binOp,Op.stringOp,av h]
 rfl
end
theorem dw.set1 {e sz n cap b o:Nat} {xs:List ah} {Lo:OL} (h:dw e sz (.slice (some ⟨b,o,none⟩) n cap) n xs Lo) :
  ∃ cur:List ah,o=0∧Lo=[(b,.cells cur.toArray e (0,0))]∧n*sz<=cur.length∧∀ j v,dw e sz (.slice (some ⟨b,0,none⟩) n cap) n (xs.set j v) [(b,.cells (cur.set j v).toArray e (0,0))]:=by
 rcases h.2 with ⟨h1,_⟩|⟨b',cap',cur',h1,h2,h3,h4,h5,h6⟩
 ·cases h1
 ·cases h1
  refine ⟨cur'.toList,M,h2,?_,fun j v=>⟨by rw [List.length_set];exact h.1,.inr ⟨b,cap,_,M,M,h3,h4,by simpa using h5,?_⟩⟩⟩
  ·rw [vM,h5];exact Nat.mul_le_mul_right _ h3
  ·rw [List.toList_toArray,<- h6,List.take_set]
theorem dx.aAj {G:GH} {sz:Nat} {rows:List (List Dat)} {q:List Dat} {xs:List ah} (h:dx G sz (rows++[q]) xs):∃ x0 cs,xs=x0++cs∧dx G sz rows x0∧bB G q cs∧cs.length=sz∧x0.length=rows.length*sz:=by
 obtain ⟨css,rfl,h2,h3⟩:=h
 rw [iW,List.length_singleton] at h2
 have hne:css≠[]:=fun e=>by rw [e] at h2;simp at h2
 have e:css=css.dropLast++[css.getLast hne]:=(List.dropLast_concat_getLast hne).symm
 have hdl:css.dropLast.length=rows.length:=by rw [List.length_dropLast];omega
 generalize css.dropLast=c0 at e hdl
 generalize css.getLast hne=cl at e
 subst e
 have h4:∀ (j:Nat) (r:List Dat) (cs:List ah),rows[j]?=some r->c0[j]?=some cs->bB G r cs∧cs.length=sz:=fun j r cs hr hc=>h3 j r cs (by rw [zG (ko.1 hr).1];exact hr) (by rw [zG (ko.1 hc).1];exact hc)
 have h5:=h3 rows.length q cl (by rw [uO (eG _),Nat.sub_self];rfl) (by rw [uO O,hdl,Nat.sub_self];rfl)
 refine ⟨c0.flatten,cl,by simp,⟨c0,M,hdl,h4⟩,h5.1,h5.2,?_⟩
 have h6:∀ (c:List (List ah)) (rs:List (List Dat)),c.length=rs.length->(∀ (j:Nat) (r:List Dat) (cs:List ah),rs[j]?=some r->c[j]?=some cs->bB G r cs∧cs.length=sz)->c.flatten.length=rs.length*sz:=by
  intro c
  induction c with
  | nil=>intro rs h _;cases rs with
   | nil=>simp
   | cons r rs=>simp at h
  | cons x c ih =>
   intro rs h hh
   cases rs with
   | nil=>simp at h
   | cons r rs =>
    have e1:=(hh 0 r x M M).2
    have e2:=ih rs (by simpa using h) fun j r' cs hr hc=>hh (j+1) r' cs (by simpa using hr) (by simpa using hc)
    rw [List.flatten_cons,iW,e1,e2,lW,Nat.succ_mul,Nat.add_comm]
 exact h6 c0 rows hdl h4
theorem avw (A B:OL) (x:Nat × Obj):(A++(B++[x]))[A.length+B.length]?=some x:=by
 rw [uO O,MG,uO (eG _),Nat.sub_self];rfl
theorem azL (A B:OL) (x y:Nat × Obj):(A++(B++[x])).set (A.length+B.length) y=A++(B++[y]):=by
 rw [List.set_append_right _ _ O,MG,List.set_append_right _ _ (eG _),Nat.sub_self];rfl
end
section
structure aaE (P:Program) (s n off:Nat):Prop where
 h:(match P.underlying s with|some (.struct fs)=>(fs[n]?).bind fun f=>((P.underlying f.type).map (fun|.struct _=>true|.array _ _=>true|_=>false)).map fun g=>(f.offset,g)|_=>none)=some (off,false)
theorem aaE.parts {P:Program} {s n off:Nat} (h:aaE P s n off):∃ fs fl u,P.underlying s=some (.struct fs)∧fs[n]?=some fl∧P.underlying fl.type=some u∧(match u with|.struct _=>true|.array _ _=>true|_=>false)=false∧fl.offset=off:=by
 obtain ⟨h⟩:=h
 split at h
 ·rename_i fs hs
  obtain ⟨fl,hf,h2⟩:=Option.bind_eq_some_iff.1 h
  obtain ⟨b,hb,h3⟩:=qD.1 h2
  obtain ⟨u,hu,h4⟩:=qD.1 hb
  simp only [iQ] at h3
  refine ⟨fs,fl,u,hs,hf,hu,?_,h3.1⟩
  rw [<- h3.2,<- h4]
  cases u <;> rfl
 ·cases h
section
variable {N:Nat} {D:List Deferred} {w0:World} {F:Nat->Prop} {G0 G:GH} {L Li Lo:OL} {T:List (Nat × ah)}
variable {r:Option Nat} {P:Program} {ops:Array Oper} {Q:Exit->Act->World->Prop} {rest:List Oper} {a:Act} {w:World}
variable {d:Nat} {ty:TypeId} {pos:String} {aQ:Array Edge} {g:Option (Nat × Bool)}
theorem azt {t:TypeId} {x y:Operand} {s:ByteArray} {ky:IntKind} {p:Int} (lo:Nat) (ht:P.underlying t=some .string) (H:St N D w0 F G0 G L T a w) (hw:Region.wanted ⟨some d,.slice t x (some y) none none,ty,pos,aQ,g⟩ (yielded ops a.tmps)=true) (hx:ev T x=some (.string s)) (hy:ev T y=some (.int ky p)) (hp:p=(lo:Int)) (h1:lo<=s.size) (hd:Nat.blt d N=true)
  (k:∀ a',St N D w0 F G0 G L ((d,.string (s.extract lo s.size)) :: T) a' w->WL r P ops Q rest a' w):WL r P ops Q (⟨some d,.slice t x (some y) none none,ty,pos,aQ,g⟩ :: rest) a w:=by
 subst hp
 have hr:=run_slice_string_l (P:=P) w t s ht ky (lo:Int) O O
 rw [Int.toNat_natCast] at hr
 refine fQ (v:=.string (s.extract lo s.size)) (w':=w) hw M ?_ (k _ (H.put hd _ H.hp))
 simp only [execOp,H.ev hx,wH,Option.map_none,H.ev hy,dU,run_sliceAt_string w t _ _ _ _ ht,hr,nS,uf]
theorem CW {t e:TypeId} {sz bytes:Nat} {zero:List ah} {agg:Bool} (hs:P.underlying t=some (.slice e)) (ht:Ty P e sz bytes zero agg) {x y:Operand} {A:Option Addr} {n c:Nat} (lo:Nat) {p:Int} (H:St N D w0 F G0 G L T a w)
  (hw:Region.wanted ⟨some d,.slice t x (some y) none none,ty,pos,aQ,g⟩ (yielded ops a.tmps)=true) (hx:ev T x=some (.slice A n c)) (hy:ev T y=some (.int .i64 p)) (hp:p=(lo:Int)) (h1:lo<=n) (hd:Nat.blt d N=true)
  (k:∀ a',St N D w0 F G0 G L ((d,.slice (if c=lo then A else A.map (·.add (lo*sz))) (n - lo) (c - lo)) :: T) a' w->WL r P ops Q rest a' w):WL r P ops Q (⟨some d,.slice t x (some y) none none,ty,pos,aQ,g⟩ :: rest) a w:=by
 subst hp
 refine fQ (v:=.slice (if c=lo then A else A.map (·.add (lo*sz))) (n - lo) (c - lo)) (w':=w) hw M ?_ (k _ (H.put hd _ H.hp))
 simp [execOp,H.ev hx,H.ev hy,Instr.sliceAt,Instr.slice,Instr.sliceBounds,Instr.sliceBound,dU,nZ hs,ht.zY,asIntOf,h1]
end
end
section
def seg (cur:List ah) (o:Nat) (cs:List ah):List ah:=cur.take o++cs++cur.drop (o+cs.length)
theorem FP {cur cs:List ah} {o:Nat} (h:o+cs.length<=cur.length):(seg cur o cs).length=cur.length:=by simp only [seg,iW,List.length_take,List.length_drop];omega
theorem akl {w:World} {b:Nat} {old cs:Array ah} {e:TypeId} (h:w.heap[b]?=some (.cells old e (0,0))):wG b (.cells cs e (0,0)) w (w.setRow b cs) :=
 ⟨rfl,rfl,rfl,setRow_size _ _ _,setRow_heap _ _ _ _ _ _ h,fun k hk=>setRow_other _ _ _ _ hk⟩
section
variable {P:Program} {w:World}
theorem ayQ (dT sT ty elem:TypeId) (i:TypeInfo) (g o dLen dCap:Nat) (a:Addr) (sLen sCap:Nat) (cur:Array ah) (t:TypeId) (cs:List ah) (hu:P.underlying dT=some (.slice elem)) (hi:P.info? elem=some i)
  (hg:w.heap[g]?=some (.cells cur t (0,0))) (hn:cs.length=min sLen dLen*i.size) (hsrc:∀ j v,cs[j]?=some v->w.cell? (a.add j)=some v) (hfit:o+cs.length<=cur.size) (h1:∀ v∈cs,v.oneCell'=true) :
  (Builtin.copy_ #[dT,sT] ty #[.slice (some ⟨g,o,none⟩) dLen dCap,.slice (some a) sLen sCap]).run P w=.ok (goInt (min sLen dLen:Nat)) (w.setRow g (seg cur.toList o cs).toArray):=by
 have hl:=run_loadCells_list (P:=P) w a cs hsrc
 have hst:=run_storeCells_at P g o t cs 0 cur w hg (by simpa using hfit) h1
 simp only [zF] at hst
 simp [Builtin.copy_,run_underlying hu,Builtin.lenOf,Builtin.firstCells,sizeOf,typeInfo,hi,<- hn,hl,hst,seg]
end
section
variable {N:Nat} {D:List Deferred} {w0:World} {F:Nat->Prop} {G0 G:GH} {L Li Lo:OL} {T:List (Nat × ah)}
variable {r:Option Nat} {P:Program} {ops:Array Oper} {Q:Exit->Act->World->Prop} {rest:List Oper} {a:Act} {w:World}
variable {d:Nat} {ty:TypeId} {pos:String} {aQ:Array Edge} {g:Option (Nat × Bool)}
theorem TJ {t t' e:TypeId} {sz bytes:Nat} {zero:List ah} {agg:Bool} (hs:P.underlying t=some (.slice e)) (ht:Ty P e sz bytes zero agg) {x y:Operand} {b o dl dc b2 o2 sl sc:Nat} {cur:List ah} {u:TypeId} (i m:Nat) (cs:List ah) (H:St N D w0 F G0 G L T a w)
  (hw:Region.wanted ⟨some d,.call { callee:=.builtin .copy,args:=#[x,y],argTypes:=#[t,t'] },ty,pos,aQ,g⟩ (yielded ops a.tmps)=true) (hx:ev T x=some (.slice (some ⟨b,o,none⟩) dl dc)) (hy:ev T y=some (.slice (some ⟨b2,o2,none⟩) sl sc)) (hi:L[i]?=some (b,.cells cur.toArray u (0,0)))
  (hm:min sl dl=m) (hn:cs.length=m*sz) (hc:∀ j v,cs[j]?=some v->w.cell? ⟨b2,o2+j,none⟩=some v) (hfit:o+cs.length<=cur.length) (h1:cs.all Value.oneCell'=true) (hd:Nat.blt d N=true)
  (k:∀ a' w',St N D w0 F G0 G (L.set i (b,.cells (seg cur o cs).toArray u (0,0))) ((d,goInt (m:Nat)) :: T) a' w'->WL r P ops Q rest a' w') :
  WL r P ops Q (⟨some d,.call { callee:=.builtin .copy,args:=#[x,y],argTypes:=#[t,t'] },ty,pos,aQ,g⟩ :: rest) a w:=by
 obtain ⟨ti,z,hti,hi1,hi2,hi3,hi4⟩:=ht.parts
 have hb:=H.hp.own _ (lV hi)
 subst hm
 have hr:=ayQ (P:=P) (w:=w) t t' ty e ti b o dl dc ⟨b2,o2,none⟩ sl sc cur.toArray u cs hs hti hb (by rw [hi1];exact hn) (fun j v hj=>by rw [add_lit];exact hc j v hj) (by simpa using hfit) (fun v hv=>jE.1 h1 v hv)
 refine fQ (v:=goInt (min sl dl:Nat)) (w':=w.setRow b (seg cur o cs).toArray) hw M ?_ (k _ _ (H.put hd _ (H.hp.upd hi (akl hb))))
 simp [execOp,resolve,invoke,builtin,H.ev hx,H.ev hy,dU,hr]
theorem ayY {t e:TypeId} {sz bytes:Nat} {zero:List ah} {agg:Bool} (hs:P.underlying t=some (.slice e)) (ht:Ty P e sz bytes zero agg) {x y:Operand} {b n c b2 o2 m c2:Nat} {cur:List ah} (i:Nat) (news:List ah) (H:St N D w0 F G0 G L T a w)
  (hw:Region.wanted ⟨some d,.call { callee:=.builtin .append,args:=#[x,y],argTypes:=#[t,t] },ty,pos,aQ,g⟩ (yielded ops a.tmps)=true) (hx:ev T x=some (.slice (some ⟨b,0,none⟩) n c)) (hy:ev T y=some (.slice (some ⟨b2,o2,none⟩) m c2)) (hi:L[i]?=some (b,.cells cur.toArray e (0,0)))
  (hn:news.length=m*sz) (hc:∀ j v,news[j]?=some v->w.cell? ⟨b2,o2+j,none⟩=some v) (h1:news.all Value.oneCell'=true) (hroom:n+m<=c) (hfit:n*sz+news.length<=cur.length) (hd:Nat.blt d N=true)
  (k:∀ a' w',St N D w0 F G0 G (L.set i (b,.cells (seg cur (n*sz) news).toArray e (0,0))) ((d,.slice (some ⟨b,0,none⟩) (n+m) c) :: T) a' w'->WL r P ops Q rest a' w') :
  WL r P ops Q (⟨some d,.call { callee:=.builtin .append,args:=#[x,y],argTypes:=#[t,t] },ty,pos,aQ,g⟩ :: rest) a w:=by
 obtain ⟨ti,z,hti,hi1,hi2,hi3,hi4⟩:=ht.parts
 have hb:=H.hp.own _ (lV hi)
 subst hi1
 have hr:=run_append_room (P:=P) w t ty e ti hs hti b n c cur.toArray hb ⟨b2,o2,none⟩ m c2 news hn (fun j v hj=>by rw [add_lit];exact hc j v hj) (fun v hv=>jE.1 h1 v hv) hroom (by simpa using hfit)
 refine fQ (v:=.slice (some ⟨b,0,none⟩) (n+m) c) (w':=w.setRow b (seg cur (n*ti.size) news).toArray) hw M ?_ (k _ _ (H.put hd _ (H.hp.upd hi (akl hb))))
 simp [execOp,resolve,invoke,builtin,H.ev hx,H.ev hy,dU,hr,seg]
theorem ayZ {t u e:TypeId} {sz bytes:Nat} {zero:List ah} {agg:Bool} (hs:P.underlying t=some (.slice e)) (hu:P.underlying u=some (.int .i64)) (ht:Ty P e sz bytes zero agg) (hzl:Nat.beq zero.length sz=true) (hsz:Nat.blt 0 sz=true) {x y:Operand} {b n c m:Nat} {p:Int} (olds:List ah) (H:St N D w0 F G0 G L T a w)
  (hw:Region.wanted ⟨some d,.call { callee:=.builtin .append,args:=#[x,y],argTypes:=#[t,u] },ty,pos,aQ,g⟩ (yielded ops a.tmps)=true) (hx:ev T x=some (.slice (some ⟨b,0,none⟩) n c)) (hy:ev T y=some (.int .i64 p)) (hp:p=(m:Int)) (hol:olds.length=n*sz) (hold:∀ j v,olds[j]?=some v->w.cell? ⟨b,0+j,none⟩=some v)
  (hm:0 < m) (hg:c < n+m) (h63:n+m<=4611686018427387904) (h48:2*(n+m)*bytes<=281474976710656) (hd:Nat.blt d N=true)
  (k:∀ b' cap cur a' w',n+m<=cap->cap<=maxLen->(cur:List ah).length=cap*sz->cur.take (n*sz)=olds->St N D w0 F G0 G ((b',.cells cur.toArray e (0,0)) :: L) ((d,.slice (some ⟨b',0,none⟩) (n+m) cap) :: T) a' w'->WL r P ops Q rest a' w') :
  WL r P ops Q (⟨some d,.call { callee:=.builtin .append,args:=#[x,y],argTypes:=#[t,u] },ty,pos,aQ,g⟩ :: rest) a w:=by
 obtain ⟨i,z,hi,hi1,hi2,hi3,hi4⟩:=ht.parts
 have hsz0:0 < sz:=Eq.mp Nat.blt_eq hsz
 have hzc:z.cells.size=sz:=by rw [hi4];simpa using BS hzl
 subst hp
 subst hi1
 have hml:maxLen=9223372036854775807:=rfl
 have hnc:Builtin.nextslicecap (n+m) c<=2*(n+m):=nextslicecap_le hg
 have hfc:(Builtin.firstCells i.size n (.slice (some ⟨b,0,none⟩) n c)).run P w.drew=.ok olds.toArray w.drew:=by
  have:=run_firstCells_some (P:=P) w.drew i.size n ⟨b,0,none⟩ n c olds hol (fun j v hj=>by rw [add_lit];exact hold j v hj)
  exact this
 have hr:=Lib.run_append_grow_zeros (P:=P) w t u ty e i z .i64 .i64 hs hu hi hi3 (some ⟨b,0,none⟩) n c olds hfc m hm hsz0 hg O (Nat.le_trans (Nat.mul_le_mul_right i.bytes (show m<=2*(n+m) by omega)) (by rw [hi2];exact h48)) (Nat.le_trans (Nat.mul_le_mul_right _ hnc) (by rw [hi2];exact h48))
 have hge:=grownCap_ge w (n+m) c e
 refine fQ (v:=.slice (some ⟨w.heap.size,0,none⟩) (n+m) (grownCap w (n+m) c e)) (w':=w.drew.alloc (.cells (olds.toArray++Builtin.zeroCells z.cells m++Builtin.zeroCells z.cells (grownCap w (n+m) c e - (n+m))) e)) hw M ?_
  (k _ _ (olds.toArray++Builtin.zeroCells z.cells m++Builtin.zeroCells z.cells (grownCap w (n+m) c e - (n+m))).toList _ _ hge (grownCap_le_maxLen w (n+m) c e O) ?_ ?_ (H.put hd _ (by rw [Array.toArray_toList];exact H.hp.drew.alloc _)))
 ·simp only [execOp,resolve,invoke,builtin,H.ev hx,H.ev hy,dU,List.map_toArray,fD,sP,uf,nS,hr]
 ·simp only [vM,Array.size_append,size_zeroCells,hzc,List.size_toArray,hol]
  rw [<- Nat.add_mul,<- Nat.add_mul];congr 1;omega
 ·simp [hol,List.take_append]
theorem azr {t e:TypeId} {sz bytes:Nat} {zero:List ah} {agg:Bool} (hs:P.underlying t=some (.slice e)) (ht:Ty P e sz bytes zero agg) {x y z m:Operand} {A:Option Addr} {n c:Nat} (lo hi mx:Nat) {p q s:Int} (H:St N D w0 F G0 G L T a w)
  (hw:Region.wanted ⟨some d,.slice t x (some y) (some z) (some m),ty,pos,aQ,g⟩ (yielded ops a.tmps)=true) (hx:ev T x=some (.slice A n c)) (hy:ev T y=some (.int .i64 p)) (hz:ev T z=some (.int .i64 q)) (hm:ev T m=some (.int .i64 s)) (hp:p=(lo:Int)) (hq:q=(hi:Int)) (hms:s=(mx:Int)) (h1:lo<=hi) (h2:hi<=mx) (h3:mx<=c) (hd:Nat.blt d N=true)
  (k:∀ v a',St N D w0 F G0 G L ((d,v) :: T) a' w->WL r P ops Q rest a' w):WL r P ops Q (⟨some d,.slice t x (some y) (some z) (some m),ty,pos,aQ,g⟩ :: rest) a w:=by
 subst hp;subst hq;subst hms
 refine fQ (v:=.slice (if mx=lo then A else A.map (·.add (lo*sz))) (hi - lo) (mx - lo)) (w':=w) hw M ?_ (k _ _ (H.put hd _ H.hp))
 simp [execOp,H.ev hx,H.ev hy,H.ev hz,H.ev hm,Instr.sliceAt,Instr.slice,Instr.sliceBounds,Instr.sliceBound,dU,nZ hs,ht.zY,asIntOf,h1,h2,h3]
theorem azn {f:FuncId} {fn:Func} {t tr e:TypeId} (hf:P.funcs[f]?=some fn) (hname:(fn.name == "runtime.NumGoroutine")=false) (hb:fn.body.isNone=true) (hn:Extern.findNext fn=none) (he:Extern.find fn=some (Extern.SlicesOverlaps.overlaps #[t,t] #[tr]))
  {sz bytes:Nat} {zero:List ah} {agg:Bool} (hs:P.underlying t=some (.slice e)) (ht:Ty P e sz bytes zero agg) {x y:Operand} {ts:Array TypeId} {b o n c b2 o2 n2 c2:Nat} {cur EN:Array ah} {u u2:TypeId} (H:St N D w0 F G0 G L T a w)
  (hw:Region.wanted ⟨some d,.call { callee:=.value (.func f),args:=#[x,y],argTypes:=ts },ty,pos,aQ,g⟩ (yielded ops a.tmps)=true) (hx:ev T x=some (.slice (some ⟨b,o,none⟩) n c)) (hy:ev T y=some (.slice (some ⟨b2,o2,none⟩) n2 c2))
  (h1:w.heap[b]?=some (.cells cur u (0,0))) (h2:w.heap[b2]?=some (.cells EN u2 (0,0))) (hne:b≠b2) (h0:EN.size≠0) (hd:Nat.blt d N=true)
  (k:∀ a',St N D w0 F G0 G L ((d,.bool false) :: T) a' w->WL r P ops Q rest a' w):WL r P ops Q (⟨some d,.call { callee:=.value (.func f),args:=#[x,y],argTypes:=ts },ty,pos,aQ,g⟩ :: rest) a w:=by
 have hr:=Lib.run_overlaps_apart (P:=P) w t tr e hs sz ht.zY ⟨b,o,none⟩ ⟨b2,o2,none⟩ n c n2 c2 hne u u2 cur.size EN.size (by simp [World.shape?,h1]) (by simp [World.shape?,h2]) h0 (by simp [World.frozen?,h1]) (by simp [World.frozen?,h1])
 refine fQ (v:=.bool false) (w':=w) hw M ?_ (k _ (H.put hd _ H.hp))
 have hc:=run_callFunc_extern (P:=P) hf hname hb hn he #[.slice (some ⟨b,o,none⟩) n c,.slice (some ⟨b2,o2,none⟩) n2 c2] w
 rw [hr] at hc
 have e1:(execOp a.eval ⟨some d,.call { callee:=.value (.func f),args:=#[x,y],argTypes:=ts },ty,pos,aQ,g⟩)=(do let q <- Deferred.ofValue (.func (.func f) #[] #[]) #[.slice (some ⟨b,o,none⟩) n c,.slice (some ⟨b2,o2,none⟩) n2 c2];invoke q.target q.args:Sem Next):=by
  simp only [execOp,resolve,H.ev (x:=.func f) M,List.map_toArray,fD,sP,H.ev hx,H.ev hy]
 rw [e1]
 simp [Deferred.ofValue,dU,invoke,hc,Result.andThen]
end
end
section
abbrev aK (b o : Nat) : Value := .pointer (some ⟨b, o, none⟩)
end
end Go.Proofs.YtdiflmikikiedaaGreat
