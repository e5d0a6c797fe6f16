/-
  What the claim stands on, part 1: Lg Op Oq Cb Rep Dr Sq Row Dy Bd Cp Run Rg Pos Pq.
-/
import Derived.Test.YthmanofbmnfemaaGreatProg
import Derived.CallsIn
import Derived.TacticsIn
import Derived.RangeFuncIn
import Derived.RangeFuncLeaves
import Derived.RangeFuncRecord
import Derived.Below
import Derived.KernelRfl
import Derived.Maps.AppendAt
import Derived.IntWalk
import Derived.OrdersIn
import Derived.Lib.Builder
import Derived.Lib.UnsafeStr
import Derived.Lib.AppendStr
import Derived.Laws.Externs
import Derived.Test.YthmanofbmnfemaaGreatRows
namespace Go.Proofs.YthmanofbmnfemaaGreat
open Go.Proofs.Tryz
section
theorem ah.{u}:∀ {c:Prop} {h:Decidable c},¬c→∀ {α:Sort u} {t e:α},(if c then t else e)=e:=@if_neg
theorem au.{u}:∀ {c:Prop} {h:Decidable c},c→∀ {α:Sort u} {t e:α},(if c then t else e)=t:=@if_pos
theorem aB:True:=trivial
theorem av.{u,v}:∀ {α:Sort u} {β:Sort v} {a₁ a₂:α} (f:α→β),a₁=a₂→f a₁=f a₂:=@congrArg
theorem aY.{u}:∀ {α:Sort u} {a b c:α},a=b→b=c→a=c:=@Eq.trans
theorem bQ.{u_1,u_2}:∀ {α:Type u_1} {β:Type u_2} {xs:List α} (f:α→β),List.length (List.map f xs)=List.length xs:=@List.length_map
theorem bZ.{u_1}:∀ {α:Type u_1} (l:List α),List.Sublist l l:=@List.Sublist.refl
theorem dw:∀ (n:Nat),n≤n:=@Nat.le_refl
theorem dQ:∀ {p:Prop} [inst:Decidable p],p→decide p=true:=@decide_eq_true
theorem dV.{u,v}:∀ {α:Type u} {β:Type v} {f:α→β} {a:α} {l:List α},List.map f (a :: l)=f a :: List.map f l:=@List.map_cons
theorem fD:∀ {α β:Type} (P:Go.Program) (w:Go.World) (x:Go.Sem α) (f:α→Go.Sem β),   Go.Sem.run P (x >>= f) w=Go.Result.andThen (Go.Sem.run P x w) fun a w'=>Go.Sem.run P (f a) w':=@Go.Sem.run_bind
theorem fI.{u_1}:∀ {α:Type u_1} {i:Nat} {l:List α},List.length l≤i→List.drop i l=[]:=@List.drop_of_length_le
theorem fP.{u_1}:∀ {α:Type u_1} {l:List α} {i:Nat} (h:i < List.length l),l[i]?=some l[i]:=@List.getElem?_eq_getElem
theorem gu:∀ {p:Prop} [Decidable p],¬¬p↔p:=@Decidable.not_not
theorem gX:∀ (n:Nat),0≤n:=@Nat.zero_le
theorem gY:∀ {p:Prop} [inst:Decidable p],¬p→decide p=false:=@decide_eq_false
theorem iU.{u,v}:∀ {α:Type u} {β:Type v} (fst:α) (snd:β) (Zg:α) (abQ:β),   ((fst,snd)=(Zg,abQ))=(fst=Zg∧snd=abQ):=@Prod.mk.injEq
theorem jr:∀ (a b:Bool),((a && b)=true)=(a=true∧b=true):=@Bool.and_eq_true
theorem jv.{u_1}:∀ {α:Type u_1} {l:List α} {n:Nat} (h:n < List.length l),l[n]∈l:=@List.getElem_mem
theorem jB.{u_1}:∀ {α:Type u_1} {a:α} {l:List α},a∈a :: l:=@List.mem_cons_self
theorem jP.{u}:∀ {α:Type u} {xs bs:List α},List.length (xs++bs)=List.length xs+List.length bs:=@List.length_append
theorem jQ.{u}:∀ {α:Type u} (xs bs cs:List α),xs++bs++cs=xs++(bs++cs):=@List.append_assoc
theorem jV.{u_1}:∀ {α:Type u_1} {i:Nat} {l:List α} (h:i < List.length l),List.drop i l=l[i] :: List.drop (i+1) l:=@List.drop_eq_getElem_cons
theorem jW.{u}:∀ {α:Type u} {l:List α},List.drop 0 l=l:=@List.drop_zero
theorem kD.{u}:∀ {α:Type u} (xs:List α),[]++xs=xs:=@List.nil_append
theorem kW.{u}:∀ {α:Type u} {a:α} {xs:List α},List.length (a :: xs)=List.length xs+1:=@List.length_cons
theorem lG.{u_1}:∀ {α:Type u_1} {i:Nat} {a:α} {l:List α},l[i]?=some a↔∃ h,l[i]=a:=@List.getElem?_eq_some_iff
theorem lU.{u_1}:∀ {α:Type u_1} {p:α→Bool} {l:List α},List.all l p=true↔∀ (x:α),x∈l→p x=true:=@List.all_eq_true
theorem lZ.{u_1}:∀ {α:Type u_1} {i:Nat} {l:List α},List.length l≤i→List.take i l=l:=@List.take_of_length_le
theorem mV.{u_1}:∀ {α:Type u_1} {i:Nat} {l:List α} (h:i < List.length l),List.take (i+1) l=List.take i l++[l[i]]:=@List.take_succ_eq_append_getElem
theorem mW.{u_1,u_2}:∀ {α:Type u_1} {β:Type u_2} {f:α→β} {l₁ l₂:List α},List.map f (l₁++l₂)=List.map f l₁++List.map f l₂:=@List.map_append
theorem mX.{u}:∀ {α:Type u} {a:α} {l:List α} {i:Nat},List.drop (i+1) (a :: l)=List.drop i l:=@List.drop_succ_cons
theorem nH.{u}:∀ {α:Type u} (xs:List α),xs++[]=xs:=@List.append_nil
theorem nQ.{u_1}:∀ {α:Type u_1} {l:List α} {i:Nat} {a:α},l[i]?=some a→a∈l:=@List.mem_of_getElem?
theorem nR:∀ (n:Nat),n+0=n:=@Nat.add_zero
theorem nS.{u}:∀ {α:Type u} {a:α} {xs bs:List α},a :: xs++bs=a :: (xs++bs):=@List.cons_append
theorem nT:∀ (n:Nat),0+n=n:=@Nat.zero_add
theorem og.{u_1}:∀ {α:Type u_1} {l₁ l₂:List α},List.Perm (l₁++l₂) (l₂++l₁):=@List.perm_append_comm
theorem ow.{u_1}:∀ {α:Type u_1} {b:α} {l:List α} {a:α},a∈b :: l↔a=b∨a∈l:=@List.mem_cons
theorem oz.{u}:∀ {α:Type u} (val acL:α),(some val=some acL)=(val=acL):=@Option.some.injEq
theorem oC.{u_1,u_2}:∀ {α:Type u_1} {b:α} {adq:Type u_2} {x:Option adq} {f:adq→α},   Option.map f x=some b↔∃ a,x=some a∧f a=b:=@Option.map_eq_some_iff
theorem oD:∀ {p:Prop} [inst:Decidable p],decide p=true→p:=@of_decide_eq_true
theorem pq:∀ {α β:Type} (a:α) (w:Go.World) (f:α→Go.World→Go.Result β),Go.Result.andThen (Go.Result.ok a w) f=f a w:=@Go.Result.andThen_ok
theorem qb.{u_1}:∀ {α:Type u_1} [inst:BEq α] [LawfulBEq α] {a:α} {xs:List α},List.contains xs a=true↔a∈xs:=@List.contains_iff_mem
theorem qE.{u_1,u_2}:∀ {α:Type u_1} {β:Type u_2} {f:α→β} {l:List α} {i:Nat},(List.map f l)[i]?=Option.map f l[i]?:=@List.getElem?_map
theorem qW:∀ {a b:Bool},a=b↔(a=true↔b=true):=@Bool.eq_iff_iff
theorem sW:∀ {α:Type} (P:Go.Program) (w:Go.World) (a:α),Go.Sem.run P (pure a) w=Go.Result.ok a w:=@Go.Sem.run_pure
theorem sZ:∀ (b:Bool),(false && b)=false:=@Bool.false_and
theorem uG:∀ (b:Bool),(true && b)=b:=@Bool.true_and
theorem uH:∀ {p:Prop} [inst:Decidable p],(decide p=true)=p:=@decide_eq_true_eq
theorem uI.{u,v}:∀ {α:Type u} {β:Type v} {f:α→β},List.map f []=[]:=@List.map_nil
theorem vO.{u_1}:∀ {α:Type u_1} {a:α} {s t:List α},a∈s++t↔a∈s∨a∈t:=@List.mem_append
theorem vP:∀ {m n:Nat},m∈List.range n↔m < n:=@List.mem_range
theorem vQ.{u_1}:∀ {α:Type u_1} {a b:α},a∈[b]↔a=b:=@List.mem_singleton
theorem vR.{u_1}:∀ {α:Type u_1} (y:α) {a:α} {l:List α},a∈l→a∈y :: l:=@List.mem_cons_of_mem
theorem vS:∀ {p:Prop} {x:Decidable p},decide p=false↔¬p:=@decide_eq_false_iff_not
theorem yD.{u_1}:∀ {α:Type u_1} {xs:Array α},List.length xs.toList=Array.size xs:=@Array.length_toList
theorem yE.{u_1,u_2}:∀ {α:Type u_1} {β:Type u_2} (a:α) (f:α→β),Option.map f (some a)=some (f a):=@Option.map_some
theorem yF:∀ (b:Bool),((!b)=true)=(b=false):=@Bool.not_eq_true'
theorem zK.{u_1}:∀ {α:Type u_1} {l:List α} {i j:Nat},(List.take i l)[j]?=if j < i then l[j]? else none:=@List.getElem?_take
theorem Av.{u}:∀ {α:Type u} {R:α→α→Prop} {a:α} {l:List α},   List.Pairwise R (a :: l)↔(∀ (a':α),a'∈l→R a a')∧List.Pairwise R l:=@List.pairwise_cons
theorem BL.{u_1}:∀ {α:Type u_1} {l₁ l₂:List α} {i:Nat},List.length l₁≤i→(l₁++l₂)[i]?=l₂[i - List.length l₁]?:=@List.getElem?_append_right
theorem CX.{u_1}:∀ {α:Type u_1} (a:α) (l:List α),List.Sublist l (a :: l):=@List.sublist_cons_self
theorem CY.{u_1}:∀ {α:Type u_1} {l₁ l₂:List α} {i:Nat},i < List.length l₁→(l₁++l₂)[i]?=l₁[i]?:=@List.getElem?_append_left
theorem CZ:∀ (n m:Nat),n+m - n=m:=@Nat.add_sub_cancel_left
theorem Em:∀ {n m:Nat},Nat.beq n m=true→n=m:=@Nat.eq_of_beq_eq_true
theorem En.{u_1}:∀ {α:Type u_1} {a:α} {l:List α},(a :: l)[0]?=some a:=@List.getElem?_cons_zero
theorem Eo.{u_1}:∀ {α:Type u_1} {l:List α},List.take (List.length l) l=l:=@List.take_length
theorem Ir:(false=true)=False:=@Bool.false_eq_true
abbrev aj := Value
theorem aL {a b:Bool} (h:a=b):Value.bool a=Value.bool b:=congrArg _ h
end
section
open Go.RowKit
def FW (r:Option Nat):Fence:={ Fence.wide with round:=r }
theorem MP (r:Option Nat):(FW r).depth.isSome=true→1≤(0:Nat):=by intro h;cases h
abbrev WP (r:Option Nat) (P:Program) (c:Code) (Q:Exit→Act→World→Prop) (a:Act) (w:World):Prop:=c.wpIn (FW r) 0 P Q a w
abbrev WL (r:Option Nat) (P:Program) (ops:Array Oper) (Q:Exit→Act→World→Prop) (l:List Oper) (a:Act) (w:World):Prop:=wpListIn (FW r) 0 P ops Q l a w
theorem QH {r:Option Nat} {n:Nat} {P:Program} {f:FuncId} {args:Array aj} {w:World} {R:Ending→World→Prop} (h:Calls P f args w R):CallsIn (FW r) n P f args w R:=callsIn_wide.2 h
theorem ael {r:Option Nat} {n:Nat} {P:Program} {f:FuncId} {args:Array aj} {w:World} {R:Ending→World→Prop} (h:CallsIn (FW r) n P f args w R):Calls P f args w R:=callsIn_wide.1 h
def lk:List (Nat × aj)→Nat→Option aj
 | [],_=>none
 | (s,v) :: r,t=>bif Nat.beq s t then some v else lk r t
theorem xO (t:Nat) (v:aj) (T:List (Nat × aj)):lk ((t,v) :: T) t=some v:=by simp [lk]
theorem wK {s t:Nat} (h:s≠t) (v:aj) (T:List (Nat × aj)):lk ((s,v) :: T) t=lk T t:=by
 have:Nat.beq s t=false:=by
  cases h':Nat.beq s t with
  | false=>rfl
  | true=>exact absurd (Em h') h
 simp [lk,this]
def ev (T:List (Nat × aj)):Operand→Option aj
 | .tmp t=>lk T t
 | .const v=>some v
 | .global g=>some (.pointer (some ⟨g,0,none⟩))
 | .func f=>some (.func (.func f) #[] #[])
def evs (T:List (Nat × aj)):List Operand→Option (List aj)
 | []=>some []
 | x :: r=>match ev T x,evs T r with|some v,some vs=>some (v :: vs)|_,_=>none
abbrev GH:=Nat→Option Obj
structure Hp (w0:World) (F:Nat→Prop) (G0 G:GH) (L:List (Nat × Obj)) (w:World):Prop where
 os:w.os=w0.os
 tape:w.tape=w0.tape
 output:w.output=w0.output
 size:w0.heap.size≤w.heap.size
 wh:∀ k,F k→k < w0.heap.size
 fr:∀ k,F k→w.heap[k]?=w0.heap[k]?
 ro:∀ k o,G k=some o→w.heap[k]?=some o
 gm:∀ k o,G0 k=some o→G k=some o
 gx:∀ k o,G k=some o→G0 k=some o∨¬ F k
 own:∀ p∈L,w.heap[p.1]?=some p.2
 vw:∀ p∈L,G p.1=none
 ug:∀ p∈L,¬ F p.1
 nd:L.Pairwise fun p q=>p.1≠q.1
structure St (N:Nat) (D:List Deferred) (w0:World) (F:Nat→Prop) (G0 G:GH) (L:List (Nat × Obj)) (T:List (Nat × aj)) (a:Act) (w:World):Prop where
 nI:a.tmps.size=N
 get:∀ t v,lk T t=some v→a.tmps[t]?=some v
 tK:a.defers=D
 hp:Hp w0 F G0 G L w
theorem lt_of_heap {w:World} {k:Nat} {o:Obj} (h:w.heap[k]?=some o):k < w.heap.size:=(Array.getElem?_eq_some_iff.1 h).1
structure wZ (b:Nat) (o:Obj) (w w':World):Prop where
 os:w'.os=w.os
 tape:w'.tape=w.tape
 output:w'.output=w.output
 size:w'.heap.size=w.heap.size
 this:w'.heap[b]?=some o
 others:∀ k,k≠b→w'.heap[k]?=w.heap[k]?
section
variable {N:Nat} {D:List Deferred} {w0 w w':World} {F:Nat→Prop} {G0 G G':GH} {L L':List (Nat × Obj)} {T:List (Nat × aj)} {a:Act} {b:Nat} {o o':Obj}
theorem Hp.lt (h:Hp w0 F G0 G L w) {p:Nat × Obj} (hp:p∈L):p.1 < w.heap.size:=lt_of_heap (h.own p hp)
theorem Hp.alloc (h:Hp w0 F G0 G L w) (o:Obj):Hp w0 F G0 G ((w.heap.size,o) :: L) (w.alloc o):=by
 have hold:∀ k,k < w.heap.size→(w.alloc o).heap[k]?=w.heap[k]?:=fun k hk=>Below.heap_alloc w o k hk
 refine ⟨h.os,h.tape,h.output,by simp;exact Nat.le_succ_of_le h.size,h.wh,fun k hk=>(hold k (Nat.lt_of_lt_of_le (h.wh k hk) h.size)).trans (h.fr k hk),fun k o' hk=>(hold k (lt_of_heap (h.ro k o' hk))).trans (h.ro k o' hk),h.gm,h.gx,?_,?_,?_,?_⟩
 ·intro p hp
  rcases ow.1 hp with rfl|hp
  ·show (w.heap.push o)[w.heap.size]?=some o;simp
  ·exact (hold _ (h.lt hp)).trans (h.own p hp)
 ·intro p hp
  rcases ow.1 hp with rfl|hp
  ·cases hg:G w.heap.size with
   | none=>rfl
   | some o'=>exact absurd (lt_of_heap (h.ro _ _ hg)) (Nat.lt_irrefl _)
  ·exact h.vw p hp
 ·intro p hp
  rcases ow.1 hp with rfl|hp
  ·intro hf;exact absurd (Nat.lt_of_lt_of_le (h.wh _ hf) h.size) (Nat.lt_irrefl _)
  ·exact h.ug p hp
 ·refine Av.2 ⟨fun q hq=>?_,h.nd⟩
  have:=h.lt hq
  simp only;omega
theorem Hp.below (h:Hp w0 F G0 G L w) (hb:Below w.heap.size w w'):Hp w0 F G0 G L w':=by
 refine ⟨hb.os.trans h.os,hb.tape.trans h.tape,hb.output.trans h.output,Nat.le_trans h.size hb.size,h.wh,fun k hk=>(hb.block k (Nat.lt_of_lt_of_le (h.wh k hk) h.size)).trans (h.fr k hk),fun k o hk=>(hb.block k (lt_of_heap (h.ro k o hk))).trans (h.ro k o hk),h.gm,h.gx,fun p hp=>(hb.block _ (h.lt hp)).trans (h.own p hp),h.vw,h.ug,h.nd⟩
def Ext (n1:Nat) (G G':GH) (w':World):Prop:=(∀ k o,G k=some o→G' k=some o)∧(∀ k o,G' k=some o→G k=some o∨n1≤k)∧(∀ k o,G' k=some o→w'.heap[k]?=some o)
theorem Hp.XM (h:Hp w0 F G0 G L w) (hb:Below w.heap.size w w') (hx:Ext w.heap.size G G' w'):Hp w0 F G0 G' L w':=by
 have h':=h.below hb
 refine ⟨h'.os,h'.tape,h'.output,h'.size,h'.wh,h'.fr,hx.2.2,fun k o hk=>hx.1 k o (h.gm k o hk),fun k o hk=>?_,h'.own,fun p hp=>?_,h'.ug,h'.nd⟩
 ·rcases hx.2.1 k o hk with hk|hk
  ·exact h.gx k o hk
  ·exact .inr fun hf=>absurd (Nat.lt_of_lt_of_le (h.wh k hf) h.size) (by omega)
 ·cases hg:G' p.1 with
  | none=>rfl
  | some o =>
   rcases hx.2.1 _ _ hg with hk|hk
   ·rw [h.vw p hp] at hk;cases hk
   ·exact absurd (h.lt hp) (by omega)
theorem Vx:∀ {L:List (Nat × Obj)} {i b:Nat} {o o':Obj},L.Pairwise (fun p q=>p.1≠q.1)→L[i]?=some (b,o)→(L.set i (b,o')).Pairwise fun p q=>p.1≠q.1
 | [],_,_,_,_,h,_=>h
 | p :: L,0,b,o,o',h,hi=>by
  simp only [En,oz] at hi
  subst hi
  exact Av.2 ⟨(Av.1 h).1,(Av.1 h).2⟩
 | p :: L,i+1,b,o,o',h,hi=>by
  simp only [List.getElem?_cons_succ] at hi
  refine Av.2 ⟨fun q hq=>?_,Vx (Av.1 h).2 hi⟩
  rcases List.mem_or_eq_of_mem_set hq with hq|rfl
  ·exact (Av.1 h).1 q hq
  ·exact (Av.1 h).1 (b,o) (nQ hi)
theorem Vb:∀ {L:List (Nat × Obj)} {i:Nat} {p q:Nat × Obj},L.Pairwise (fun p q=>p.1≠q.1)→L[i]?=some p→q∈L→q.1=p.1→q=p
 | [],_,_,_,_,h,_,_=>by simp at h
 | x :: L,0,p,q,h,hi,hq,e=>by
  simp only [En,oz] at hi
  subst hi
  rcases ow.1 hq with rfl|hq
  ·rfl
  ·exact absurd e.symm ((Av.1 h).1 q hq)
 | x :: L,i+1,p,q,h,hi,hq,e=>by
  simp only [List.getElem?_cons_succ] at hi
  rcases ow.1 hq with rfl|hq
  ·exact absurd e ((Av.1 h).1 p (nQ hi))
  ·exact Vb (Av.1 h).2 hi hq e
theorem Hp.upd (h:Hp w0 F G0 G L w) {i:Nat} (hi:L[i]?=some (b,o)) (hu:wZ b o' w w'):Hp w0 F G0 G (L.set i (b,o')) w':=by
 have hm:(b,o)∈L:=nQ hi
 refine ⟨hu.os.trans h.os,hu.tape.trans h.tape,hu.output.trans h.output,hu.size ▸ h.size,h.wh,fun k hk=>?_,fun k o hk=>?_,h.gm,h.gx,fun p hp=>?_,fun p hp=>?_,fun p hp=>?_,Vx h.nd hi⟩
 ·exact (hu.others k (fun e=>h.ug _ hm (e ▸ hk))).trans (h.fr k hk)
 ·refine (hu.others k (fun e=>?_)).trans (h.ro k o hk)
  have:=h.vw _ hm
  rw [← e,hk] at this;cases this
 ·by_cases e:p.1=b
  ·rcases List.mem_or_eq_of_mem_set hp with hp'|rfl
   ·obtain ⟨j,hj⟩:=List.getElem?_of_mem hp
    have hib:i < L.length:=(lG.1 hi).1
    have hset:(L.set i (b,o'))[i]?=some (b,o'):=by simp [hib]
    have:=Vb (Vx (o':=o') h.nd hi) hset hp e
    rw [this];exact hu.this
   ·exact hu.this
  ·rcases List.mem_or_eq_of_mem_set hp with hp|rfl
   ·exact (hu.others _ e).trans (h.own p hp)
   ·exact absurd rfl e
 ·rcases List.mem_or_eq_of_mem_set hp with hp|rfl
  ·exact h.vw p hp
  ·exact (h.vw (b,o) hm:G b=none)
 ·rcases List.mem_or_eq_of_mem_set hp with hp|rfl
  ·exact h.ug p hp
  ·exact (h.ug (b,o) hm:¬ F b)
theorem Hp.drew (h:Hp w0 F G0 G L w):Hp w0 F G0 G L w.drew:=⟨h.os,h.tape,h.output,h.size,h.wh,h.fr,h.ro,h.gm,h.gx,h.own,h.vw,h.ug,h.nd⟩
theorem Hp.drop (h:Hp w0 F G0 G L w) (hs:L'.Sublist L):Hp w0 F G0 G L' w:=⟨h.os,h.tape,h.output,h.size,h.wh,h.fr,h.ro,h.gm,h.gx,fun p hp=>h.own p (hs.subset hp),fun p hp=>h.vw p (hs.subset hp),fun p hp=>h.ug p (hs.subset hp),h.nd.sublist hs⟩
theorem Hp.dB {Pl cB Lo:List (Nat × Obj)} (h:Hp w0 F G0 G (Pl++Lo) w) (idx:List Nat) (hi:idx.Nodup) (hL:idx.map (fun i=>Pl[i]?)=cB.map some):Hp w0 F G0 G (cB++Lo) w:=by
 have hget:∀ (j:Nat) (p:Nat × Obj),cB[j]?=some p→∃ i:Nat,idx[j]?=some i∧Pl[i]?=some p:=by
  intro j p hp
  have h1:(idx.map (fun i=>Pl[i]?))[j]?=some (some p):=by rw [hL];simp [hp]
  rw [qE] at h1
  obtain ⟨i,hi1,hi2⟩:=oC.1 h1
  exact ⟨i,hi1,hi2⟩
 have hmem:∀ p∈cB++Lo,p∈Pl++Lo:=by
  intro p hp
  rcases vO.1 hp with hp|hp
  ·obtain ⟨j,hj⟩:=List.getElem?_of_mem hp
   obtain ⟨i,_,hi2⟩:=hget j p hj
   exact List.mem_append_left _ (nQ hi2)
  ·exact List.mem_append_right _ hp
 have hnd:=List.pairwise_append.1 h.nd
 refine ⟨h.os,h.tape,h.output,h.size,h.wh,h.fr,h.ro,h.gm,h.gx,fun p hp=>h.own p (hmem p hp),fun p hp=>h.vw p (hmem p hp),fun p hp=>h.ug p (hmem p hp),List.pairwise_append.2 ⟨?_,hnd.2.1,fun p hp q hq=>?_⟩⟩
 ·refine List.pairwise_iff_getElem.2 fun x y hx hy hxy=>?_
  obtain ⟨i,hi1,hi2⟩:=hget x _ (fP hx)
  obtain ⟨j,hj1,hj2⟩:=hget y _ (fP hy)
  have hij:i≠j:=by
   intro e
   subst e
   obtain ⟨hx1,hx2⟩:=lG.1 hi1
   obtain ⟨hy1,hy2⟩:=lG.1 hj1
   exact (List.pairwise_iff_getElem.1 hi x y hx1 hy1 hxy) (by rw [hx2,hy2])
  obtain ⟨hi3,hi4⟩:=lG.1 hi2
  obtain ⟨hj3,ZL⟩:=lG.1 hj2
  rcases Nat.lt_or_ge i j with hlt|hge
  ·rw [← hi4,← ZL];exact List.pairwise_iff_getElem.1 hnd.1 i j hi3 hj3 hlt
  ·rw [← hi4,← ZL];exact Ne.symm (List.pairwise_iff_getElem.1 hnd.1 j i hj3 hi3 (by omega))
 ·obtain ⟨j,hj⟩:=List.getElem?_of_mem hp
  obtain ⟨i,_,hi2⟩:=hget j p hj
  exact hnd.2.2 p (nQ hi2) q hq
def GH.add (G:GH) (b:Nat) (o:Obj):GH:=fun k=>if k=b then some o else G k
theorem GH.FT (G:GH) {b:Nat} {o:Obj} (hn:G b=none) (k:Nat) (o':Obj) (h:G k=some o'):(G.add b o) k=some o':=by
 unfold GH.add;rw [ah (fun e=>by subst e;rw [hn] at h;cases h)];exact h
theorem GH.FU (G:GH) (b:Nat) (o:Obj):(G.add b o) b=some o:=by simp [GH.add]
theorem Hp.giveUp (h:Hp w0 F G0 G L w) (i:Nat) (hi:L[i]?=some (b,o)):Hp w0 F G0 (G.add b o) (L.eraseIdx i) w:=by
 have hm:(b,o)∈L:=nQ hi
 have hsub:(L.eraseIdx i).Sublist L:=List.eraseIdx_sublist L i
 have hne:∀ p∈L.eraseIdx i,p.1≠b:=by
  intro p hp e
  have h1:=Vb h.nd hi (hsub.subset hp) e
  subst h1
  obtain ⟨j,hj,hjp⟩:=List.mem_eraseIdx_iff_getElem?.1 hp
  have hnd:=h.nd
  have hij:j≠i:=hj
  have hlt1:j < L.length:=(lG.1 hjp).1
  have hlt2:i < L.length:=(lG.1 hi).1
  have e1:=(lG.1 hjp).2
  have e2:=(lG.1 hi).2
  rcases Nat.lt_or_ge j i with hlt|hge
  ·exact (List.pairwise_iff_getElem.1 hnd j i hlt1 hlt2 hlt) (by rw [e1,e2])
  ·exact (List.pairwise_iff_getElem.1 hnd i j hlt2 hlt1 (by omega)) (by rw [e1,e2])
 refine ⟨h.os,h.tape,h.output,h.size,h.wh,h.fr,fun k o' hk=>?_,fun k o' hk=>GH.FT G (h.vw _ hm) k o' (h.gm k o' hk),fun k o' hk=>?_,fun p hp=>h.own p (hsub.subset hp),fun p hp=>?_,fun p hp=>h.ug p (hsub.subset hp),h.nd.sublist hsub⟩
 ·unfold GH.add at hk
  split at hk
  ·rename_i e;subst e;cases hk;exact h.own _ hm
  ·exact h.ro k o' hk
 ·unfold GH.add at hk
  split at hk
  ·rename_i e;subst e;exact .inr (h.ug _ hm)
  ·exact h.gx k o' hk
 ·unfold GH.add
  rw [ah (hne p hp)]
  exact h.vw p (hsub.subset hp)
theorem St.ev (h:St N D w0 F G0 G L T a w) {x:Operand} {v:aj} (hx:Proofs.YthmanofbmnfemaaGreat.ev T x=some v):a.eval x=v:=by
 cases x with
 | tmp t =>
  have:=h.get t v hx
  simp only [Act.eval,Array.getD_eq_getD_getElem?,this,Option.getD_some]
 | const u=>simp only [Proofs.YthmanofbmnfemaaGreat.ev,oz] at hx;subst hx;rfl
 | global g=>simpa [Proofs.YthmanofbmnfemaaGreat.ev,Act.eval] using hx
 | func f=>simpa [Proofs.YthmanofbmnfemaaGreat.ev,Act.eval] using hx
theorem St.evs (h:St N D w0 F G0 G L T a w):∀ {xs:List Operand} {vs:List aj},Proofs.YthmanofbmnfemaaGreat.evs T xs=some vs→xs.map a.eval=vs
 | [],vs,hx=>by simp [Proofs.YthmanofbmnfemaaGreat.evs] at hx;subst hx;rfl
 | x :: xs,vs,hx=>by
  unfold Proofs.YthmanofbmnfemaaGreat.evs at hx
  split at hx
  ·rename_i v vs' h1 h2
   simp only [oz] at hx
   subst hx
   rw [dV,h.ev h1,h.evs h2]
  ·cases hx
theorem St.put (h:St N D w0 F G0 G L T a w) {d:Nat} (hd:Nat.blt d N=true) (v:aj) (H':Hp w0 F G0 G' L' w'):St N D w0 F G0 G' L' ((d,v) :: T) (a.put (some d) v) w':=by
 have hlt:d < a.tmps.size:=by rw [h.nI];exact Eq.mp Nat.blt_eq hd
 refine ⟨by simp [Act.put,h.nI],fun t u ht=>?_,h.tK,H'⟩
 simp only [Act.put,Array.getElem?_setIfInBounds]
 by_cases e:d=t
 ·subst e
  rw [xO] at ht
  simp [hlt];simpa using ht
 ·rw [wK e] at ht
  simp [e];exact h.get t u ht
theorem St.move (h:St N D w0 F G0 G L T a w) (H':Hp w0 F G0 G' L' w'):St N D w0 F G0 G' L' T a w':=⟨h.nI,h.get,h.tK,H'⟩
def VU (T:List (Nat × aj)):List (Nat × aj)→Prop
 | []=>True
 | (t,v) :: r=>lk T t=some v∧VU T r
theorem acf {T:List (Nat × aj)}:∀ {T':List (Nat × aj)},VU T T'→∀ {t v},lk T' t=some v→lk T t=some v
 | [],_,_,_,h=>by simp [lk] at h
 | (s,u) :: r,hs,t,v,h=>by
  by_cases e:s=t
  ·subst e;rw [xO] at h;exact h ▸ hs.1
  ·rw [wK e] at h;exact acf hs.2 h
theorem St.sub (h:St N D w0 F G0 G L T a w) {T':List (Nat × aj)} (hs:VU T T'):St N D w0 F G0 G L T' a w:=⟨h.nI,fun t v ht=>h.get t v (acf hs ht),h.tK,h.hp⟩
theorem St.dB {Pl cB Lo:List (Nat × Obj)} (h:St N D w0 F G0 G (Pl++Lo) T a w) (idx:List Nat) (hi:idx.Nodup) (hL:idx.map (fun i=>Pl[i]?)=cB.map some):St N D w0 F G0 G (cB++Lo) T a w:=⟨h.nI,h.get,h.tK,h.hp.dB idx hi hL⟩
end
end
section
open Go.RowKit
section base
variable {r:Option Nat} {P:Program} {ops:Array Oper} {Q:Exit→Act→World→Prop} {rest:List Oper} {a:Act} {w w':World} {o:Oper}
def O4:Op→Bool
 | .defer _=>false
 | _=>true
theorem VL {o:Oper} {ro:Option Nat} {ρ:Operand→aj} (h:O4 o.op=true):o.semAt ro ρ=execOp ρ o :=
 Oper.semAt_eq ro ρ o fun c e=>by rw [e] at h;cases h
theorem aJ (h:Q .normal a w):WL r P ops Q [] a w:=wpListIn_nil h
theorem Wp (hw:Region.wanted o (yielded ops a.tmps)=true) (h:o.wpIn (FW r) 0 P a w (WL r P ops Q rest) Q):WL r P ops Q (o :: rest) a w:=by
 show wpListIn (FW r) 0 P ops Q (o :: rest) a w
 unfold wpListIn
 rw [au hw]
 exact h
theorem ada (hw:Region.wanted o (yielded ops a.tmps)=false) (h:WL r P ops Q rest (a.put o.dst undef) w):WL r P ops Q (o :: rest) a w:=by
 show wpListIn (FW r) 0 P ops Q (o :: rest) a w
 unfold wpListIn
 rw [ah (by simp [hw])]
 exact ⟨fun _ _=>trivial,h⟩
theorem iF {v:aj} (hw:Region.wanted o (yielded ops a.tmps)=true) (hd:O4 o.op=true) (h:(execOp a.eval o).run P w=.ok (.value v) w')
  (k:WL r P ops Q rest (a.put o.dst v) w'):WL r P ops Q (o :: rest) a w:=by
 refine Wp hw ⟨fun _ _=>trivial,?_⟩
 rw [VL hd,h]
 exact k
theorem ade (hw:Region.wanted o (yielded ops a.tmps)=true) (hd:O4 o.op=true) (h:(execOp a.eval o).run P w=.ok .skip w')
  (k:WL r P ops Q rest (a.put o.dst undef) w'):WL r P ops Q (o :: rest) a w:=by
 refine Wp hw ⟨fun _ _=>trivial,?_⟩
 rw [VL hd,h]
 exact k
def After (P:Program) (nx:Result Next) (R:Ending→World→Prop):Prop :=
 match nx with
 | .ok (.enter f args) w'=>Calls P f args w' R
 | .ok (.round l f tmps assign body) w'=>RoundIn (FW none) 0 P l f tmps assign body w' R
 | _=>False
structure zD (P:Program) (fv:aj) (args:List aj) (w:World) (R:Ending→World→Prop):Prop where
 go:After P ((do let d ← Deferred.ofValue fv args.toArray;invoke d.target d.args:Sem Next).run P w) R
theorem Wo {nx:Result Next} {R:Ending→World→Prop} (hw:Region.wanted o (yielded ops a.tmps)=true) (hd:O4 o.op=true) (h:(execOp a.eval o).run P w=nx) (hc:After P nx R)
  (k:∀ e w',R e w'→∃ v,e=.returned v∧WL r P ops Q rest (a.put o.dst v) w'):WL r P ops Q (o :: rest) a w:=by
 refine Wp hw ⟨fun _ _=>trivial,?_⟩
 rw [VL hd,h]
 cases nx with
 | halt x y=>exact hc.elim
 | ok x w1 =>
  cases x with
  | enter f args =>
   refine ⟨MP r,(QH hc).mono fun e w2 hR=>?_⟩
   obtain ⟨v,rfl,hk⟩:=k e w2 hR
   exact hk
  | round l f tmps assign body =>
   have hc':RoundIn (FW none) 0 P l f tmps assign body w1 R:=hc
   refine ⟨MP r,?_⟩
   have h2:RoundIn (FW r) (0 - 1) P l f tmps assign body w1 R:=⟨aB,fun c cs hr=>hc'.2 c cs (room_wide _)⟩
   exact h2.mono fun e w2 hR=>by obtain ⟨v,rfl,hk⟩:=k e w2 hR;exact hk
  | _=>exact hc.elim
end base
section steps
variable {N:Nat} {D:List Deferred} {w0:World} {F:Nat→Prop} {G0 G:GH} {L:List (Nat × Obj)} {T:List (Nat × aj)}
variable {r:Option Nat} {P:Program} {ops:Array Oper} {Q:Exit→Act→World→Prop} {rest:List Oper} {a:Act} {w:World}
variable {d:Nat} {ty:TypeId} {pos:String} {aR:Array Edge} {g:Option (Nat × Bool)}
theorem wn {op:Op} {dst:Option Tmp} {y:Nat→Option Bool}:Region.wanted ⟨dst,op,ty,pos,aR,none⟩ y=true:=rfl
theorem adg (H:St N D w0 F G0 G L T a w) {j t:Nat} {b:Bool} (hj:(ops[j]?).bind (·.dst)=some t) (ht:lk T t=some (.bool b)):yielded ops a.tmps j=some b:=by
 unfold yielded
 rw [hj]
 simp [H.get t _ ht]
theorem wg (H:St N D w0 F G0 G L T a w) {op:Op} {dst:Option Tmp} {j t:Nat} {want b:Bool} (hj:(ops[j]?).bind (·.dst)=some t) (ht:lk T t=some (.bool b)) (hb:b=want) :
  Region.wanted ⟨dst,op,ty,pos,aR,some (j,want)⟩ (yielded ops a.tmps)=true:=by
 simp [Region.wanted,adg H hj ht,hb]
theorem abK (H:St N D w0 F G0 G L T a w) {op:Op} {j t:Nat} {want b:Bool} (hj:(ops[j]?).bind (·.dst)=some t) (ht:lk T t=some (.bool b)) (hb:b=!want) (hd:Nat.blt d N=true)
  (k:∀ a',St N D w0 F G0 G L ((d,undef) :: T) a' w→WL r P ops Q rest a' w):WL r P ops Q (⟨some d,op,ty,pos,aR,some (j,want)⟩ :: rest) a w:=by
 refine ada ?_ (k _ (H.put hd undef H.hp))
 simp only [Region.wanted,adg H hj ht,hb]
 cases want <;> rfl
theorem amU (H:St N D w0 F G0 G L T a w) {op:Op} {j t:Nat} {want:Bool} (hj:(ops[j]?).bind (·.dst)=some t) (ht:lk T t=some undef) (hd:Nat.blt d N=true)
  (k:∀ a',St N D w0 F G0 G L ((d,undef) :: T) a' w→WL r P ops Q rest a' w):WL r P ops Q (⟨some d,op,ty,pos,aR,some (j,want)⟩ :: rest) a w:=by
 refine ada ?_ (k _ (H.put hd undef H.hp))
 have h:yielded ops a.tmps j=none:=by
  unfold yielded
  rw [hj]
  simp [H.get t _ ht,undef]
 simp only [Region.wanted,h]
 cases want <;> rfl
theorem VJ (_H:St N D w0 F G0 G L T a w) (t:Nat) {b:Bool} {X:Prop} (_ht:lk T t=some (.bool b)) (h1:b=true→X) (h0:b=false→X):X:=by cases b <;> simp_all
theorem JH {x:Operand} {v:aj} (H:St N D w0 F G0 G L T a w) (hw:Region.wanted ⟨some d,.move x,ty,pos,aR,g⟩ (yielded ops a.tmps)=true) (hx:ev T x=some v) (hd:Nat.blt d N=true)
  (k:∀ a',St N D w0 F G0 G L ((d,v) :: T) a' w→WL r P ops Q rest a' w):WL r P ops Q (⟨some d,.move x,ty,pos,aR,g⟩ :: rest) a w :=
 iF (v:=v) (w':=w) hw rfl (by simp [execOp,H.ev hx]) (k _ (H.put hd v H.hp))
theorem amK {x:Operand} {v:aj} (H:St N D w0 F G0 G L T a w) (hw:Region.wanted ⟨some d,.assign x,ty,pos,aR,g⟩ (yielded ops a.tmps)=true) (hx:ev T x=some v) (hd:Nat.blt d N=true)
  (k:∀ a',St N D w0 F G0 G L ((d,v) :: T) a' w→WL r P ops Q rest a' w):WL r P ops Q (⟨some d,.assign x,ty,pos,aR,g⟩ :: rest) a w :=
 iF (v:=v) (w':=w) hw rfl (by simp [execOp,H.ev hx]) (k _ (H.put hd v H.hp))
theorem Mq {c x y:Operand} {b:Bool} {v:aj} (H:St N D w0 F G0 G L T a w) (hw:Region.wanted ⟨some d,.pick c x y,ty,pos,aR,g⟩ (yielded ops a.tmps)=true) (hc:ev T c=some (.bool b)) (hb:b=true) (hx:ev T x=some v) (hd:Nat.blt d N=true)
  (k:∀ a',St N D w0 F G0 G L ((d,v) :: T) a' w→WL r P ops Q rest a' w):WL r P ops Q (⟨some d,.pick c x y,ty,pos,aR,g⟩ :: rest) a w :=
 iF (v:=v) (w':=w) hw rfl (by simp [execOp,H.ev hx,H.ev hc,asBool,hb]) (k _ (H.put hd v H.hp))
theorem Px {c x y:Operand} {b:Bool} {v:aj} (H:St N D w0 F G0 G L T a w) (hw:Region.wanted ⟨some d,.pick c x y,ty,pos,aR,g⟩ (yielded ops a.tmps)=true) (hc:ev T c=some (.bool b)) (hb:b=false) (hx:ev T y=some v) (hd:Nat.blt d N=true)
  (k:∀ a',St N D w0 F G0 G L ((d,v) :: T) a' w→WL r P ops Q rest a' w):WL r P ops Q (⟨some d,.pick c x y,ty,pos,aR,g⟩ :: rest) a w :=
 iF (v:=v) (w':=w) hw rfl (by simp [execOp,H.ev hx,H.ev hc,asBool,hb]) (k _ (H.put hd v H.hp))
structure Ty (P:Program) (t:TypeId) (sz bytes:Nat) (zero:List aj) (agg:Bool):Prop where
 info:(P.info? t).map (fun i=>(i.size,i.bytes,i.zero.map fun z=>z.cells.toList))=some (sz,bytes,some zero)
 ag:(P.underlying t).map (fun|.struct _=>true|.array _ _=>true|_=>false)=some agg
theorem Ty.parts {t:TypeId} {sz bytes:Nat} {zero:List aj} {agg:Bool} (h:Ty P t sz bytes zero agg):∃ i z,P.info? t=some i∧i.size=sz∧i.bytes=bytes∧i.zero=some z∧z.cells=zero.toArray:=by
 obtain ⟨i,hi,hx⟩:=oC.1 h.info
 simp only [iU] at hx
 obtain ⟨z,hz,hzz⟩:=oC.1 hx.2.2
 exact ⟨i,z,hi,hx.1,hx.2.1,hz,by rw [← hzz]⟩
theorem H9 {t:TypeId} {i:TypeInfo} (h:P.info? t=some i) (w:World):(typeInfo t).run P w=.ok i w:=by simp [typeInfo,program,Sem.run,fD,h]
theorem Ty.Cx {t:TypeId} {sz bytes:Nat} {zero:List aj} {agg:Bool} (h:Ty P t sz bytes zero agg) (w:World):(sizeOf t).run P w=.ok sz w:=by
 obtain ⟨i,z,hi,h1,-,-,-⟩:=h.parts
 simp [sizeOf,fD,H9 hi,h1]
theorem Ty.abD {t:TypeId} {sz bytes:Nat} {zero:List aj} {agg:Bool} (h:Ty P t sz bytes zero agg) (w:World):∃ z,(zeroValue t).run P w=.ok z w∧z.cells=zero.toArray:=by
 obtain ⟨i,z,hi,-,-,h1,h2⟩:=h.parts
 exact ⟨z,by simp [zeroValue,fD,H9 hi,h1],h2⟩
theorem qx {t:TypeId} {u:TypeDesc} (h:P.underlying t=some u) (w:World):(underlying t).run P w=.ok u w:=by simp [underlying,program,Sem.run,fD,h]
theorem Ty.Po {t:TypeId} {sz bytes:Nat} {zero:List aj} {agg:Bool} (h:Ty P t sz bytes zero agg) (w:World):(isAgg t).run P w=.ok agg w:=by
 obtain ⟨u,hu,hx⟩:=oC.1 h.ag
 unfold isAgg
 simp only [fD,qx hu,pq]
 cases u <;> simp_all
theorem eH {elem:TypeId} {sz bytes:Nat} {zero:List aj} {agg:Bool} (ht:Ty P elem sz bytes zero agg) (H:St N D w0 F G0 G L T a w) (hw:Region.wanted ⟨some d,.alloc elem,ty,pos,aR,g⟩ (yielded ops a.tmps)=true) (hd:Nat.blt d N=true)
  (k:∀ b a' w',w0.heap.size≤b→St N D w0 F G0 G ((b,.cells zero.toArray elem (0,0)) :: L) ((d,.pointer (some ⟨b,0,none⟩)) :: T) a' w'→WL r P ops Q rest a' w'):WL r P ops Q (⟨some d,.alloc elem,ty,pos,aR,g⟩ :: rest) a w:=by
 obtain ⟨z,hz,hzc⟩:=ht.abD w
 refine iF (v:=.pointer (some ⟨w.heap.size,0,none⟩)) (w':=w.alloc (.cells zero.toArray elem (0,0))) hw rfl ?_ (k _ _ _ H.hp.size (H.put hd _ (H.hp.alloc _)))
 simp [execOp,Instr.alloc,fD,hz,newVar,newRow,newObj,Sem.run,hzc]
theorem fB {elem:TypeId} {x:Operand} {v:aj} {cs:List aj} (H:St N D w0 F G0 G L T a w) (hw:Region.wanted ⟨some d,.box elem x,ty,pos,aR,g⟩ (yielded ops a.tmps)=true) (hx:ev T x=some v) (hc:v.cells=cs.toArray) (hd:Nat.blt d N=true)
  (k:∀ b a' w',w0.heap.size≤b→St N D w0 F G0 G ((b,.cells cs.toArray elem (0,0)) :: L) ((d,.pointer (some ⟨b,0,none⟩)) :: T) a' w'→WL r P ops Q rest a' w'):WL r P ops Q (⟨some d,.box elem x,ty,pos,aR,g⟩ :: rest) a w:=by
 refine iF (v:=.pointer (some ⟨w.heap.size,0,none⟩)) (w':=w.alloc (.cells cs.toArray elem (0,0))) hw rfl ?_ (k _ _ _ H.hp.size (H.put hd _ (H.hp.alloc _)))
 simp [execOp,Instr.box,fD,newVar,newRow,newObj,Sem.run,H.ev hx,hc]
def aG (G:GH) (b o:Nat):Option aj:=match G b with|some (.cells c _ _)=>c[o]?|_=>none
theorem Hp.aG (h:Hp w0 F G0 G L w) {b o:Nat} {v:aj} (hg:Proofs.YthmanofbmnfemaaGreat.aG G b o=some v):w.cell? ⟨b,o,none⟩=some v:=by
 unfold Proofs.YthmanofbmnfemaaGreat.aG at hg
 split at hg
 ·rename_i c e f he
  simp only [World.cell?,h.ro b _ he]
  exact hg
 ·cases hg
theorem Hp.qN (h:Hp w0 F G0 G L w) (i:Nat) {b o:Nat} {c:Array aj} {e:TypeId} {fz:Nat × Nat} {v:aj} (hi:L[i]?=some (b,.cells c e fz)) (hv:c[o]?=some v):w.cell? ⟨b,o,none⟩=some v:=by
 have:=h.own _ (nQ hi)
 simp only [World.cell?] at *
 rw [this]
 exact hv
theorem add_lit (b o n:Nat):(⟨b,o,none⟩:Addr).add n=⟨b,o+n,none⟩:=by
 unfold Addr.add
 split
 ·rename_i h;subst h;rfl
 ·rfl
theorem VF {b o:Nat} {v:aj} (h:w.cell? ⟨b,o,none⟩=some v):(load ⟨b,o,none⟩).run P w=.ok v w:=by simp [load,Sem.run,h]
theorem run_loadCells (b:Nat) (w:World):∀ (cs:List aj) (o i:Nat) (acc:Array aj),(∀ j v,cs[j]?=some v→w.cell? ⟨b,o+i+j,none⟩=some v) →
  (loadCellsFrom ⟨b,o,none⟩ i cs.length acc).run P w=.ok (acc++cs.toArray) w
 | [],o,i,acc,_=>by simp [loadCellsFrom,Sem.run]
 | c :: cs,o,i,acc,h=>by
  have h0:=h 0 c rfl
  have ih:=run_loadCells b w cs o (i+1) (acc.push c) (fun j v hj=>by have:=h (j+1) v (by simpa using hj);rw [← this];congr 2;omega)
  simp only [loadCellsFrom,kW,fD,add_lit,VF (P:=P) (by simpa using h0),pq,ih]
  congr 1
  apply Array.ext'
  simp
theorem zu {t:TypeId} {sz bytes:Nat} {zero:List aj} (ht:Ty P t sz bytes zero false) {x:Operand} {b o:Nat} {v:aj} (H:St N D w0 F G0 G L T a w) (hw:Region.wanted ⟨some d,.load t x,ty,pos,aR,g⟩ (yielded ops a.tmps)=true)
  (hx:ev T x=some (.pointer (some ⟨b,o,none⟩))) (hc:w.cell? ⟨b,o,none⟩=some v) (hd:Nat.blt d N=true)
  (k:∀ a',St N D w0 F G0 G L ((d,v) :: T) a' w→WL r P ops Q rest a' w):WL r P ops Q (⟨some d,.load t x,ty,pos,aR,g⟩ :: rest) a w:=by
 refine iF (v:=v) (w':=w) hw rfl ?_ (k _ (H.put hd v H.hp))
 simp only [execOp,Instr.loadAt,Instr.sureAddr,loadVar,fD,H.ev hx,ht.Po,pq,sW,Ir,if_false,VF hc]
theorem bP {t:TypeId} {sz bytes:Nat} {zero:List aj} (ht:Ty P t sz bytes zero true) {x:Operand} {b o:Nat} {cs:List aj} (H:St N D w0 F G0 G L T a w) (hw:Region.wanted ⟨some d,.load t x,ty,pos,aR,g⟩ (yielded ops a.tmps)=true)
  (hx:ev T x=some (.pointer (some ⟨b,o,none⟩))) (hl:cs.length=sz) (hc:∀ j v,cs[j]?=some v→w.cell? ⟨b,o+j,none⟩=some v) (hd:Nat.blt d N=true)
  (k:∀ a',St N D w0 F G0 G L ((d,.agg cs.toArray) :: T) a' w→WL r P ops Q rest a' w):WL r P ops Q (⟨some d,.load t x,ty,pos,aR,g⟩ :: rest) a w:=by
 refine iF (v:=.agg cs.toArray) (w':=w) hw rfl ?_ (k _ (H.put hd _ H.hp))
 have h1:=run_loadCells (P:=P) b w cs o 0 #[] (fun j v hj=>by simpa using hc j v hj)
 simp only [Array.empty_append,hl] at h1
 simp [execOp,Instr.loadAt,Instr.sureAddr,loadVar,fD,H.ev hx,ht.Po,ht.Cx,loadCells,h1]
theorem Hp.gB (h:Hp w0 F G0 G L w) (i:Nat) {b o:Nat} {c:List aj} {e:TypeId} {fz:Nat × Nat} {cs:List aj} (hi:L[i]?=some (b,.cells c.toArray e fz)) (hv:(c.drop o).take cs.length=cs):∀ j v,cs[j]?=some v→w.cell? ⟨b,o+j,none⟩=some v:=by
 intro j v hj
 refine h.qN i hi ?_
 rw [← hv,zK] at hj
 split at hj
 ·rw [List.getElem?_drop] at hj
  simpa using hj
 ·cases hj
theorem aoA {b o:Nat} {c:Array aj} {e:TypeId} {fz:Nat × Nat} (h:w.heap[b]?=some (.cells c e fz)) (v:aj):wZ b (.cells (c.setIfInBounds o v) e fz) w (w.setCell ⟨b,o,none⟩ v):=by
 refine ⟨rfl,rfl,rfl,by simp,?_,fun k hk=>Below.heap_setCell w _ v k hk⟩
 simp [World.setCell,Array.getElem?_modify,h]
theorem wZ.trans {b:Nat} {o1 o2:Obj} {w1 w2 w3:World} (h:wZ b o1 w1 w2) (k:wZ b o2 w2 w3):wZ b o2 w1 w3 :=
 ⟨k.os.trans h.os,k.tape.trans h.tape,k.output.trans h.output,k.size.trans h.size,k.this,fun j hj=>(k.others j hj).trans (h.others j hj)⟩
theorem wZ.refl {b:Nat} {o:Obj} {w:World} (h:w.heap[b]?=some o):wZ b o w w:=⟨rfl,rfl,rfl,rfl,h,fun _ _=>rfl⟩
def oneCell':aj→Bool
 | .agg _|.tuple _=>false
 | _=>true
def setRow (c:List aj):Nat→List aj→List aj
 | _,[]=>c
 | o,v :: vs=>setRow (c.set o v) (o+1) vs
theorem amG {b o:Nat} {c:Array aj} {e:TypeId} {v:aj} (hb:w.heap[b]?=some (.cells c e (0,0))) (ho:o < c.size) (hv:oneCell' v=true) :
  (store ⟨b,o,none⟩ v).run P w=.ok () (w.setCell ⟨b,o,none⟩ v):=by
 have h1:w.cell? ⟨b,o,none⟩=some c[o]:=by simp [World.cell?,hb,ho]
 have h2:w.frozen? ⟨b,o,none⟩=false:=by simp [World.frozen?,hb]
 unfold store
 cases v <;> first|(simp [oneCell'] at hv;done)|(simp only [Sem.run,h1,h2];rfl)
theorem abC (b:Nat) (e:TypeId) (o0:Nat):∀ (vs:List aj) (i:Nat) (c:List aj) (w:World),w.heap[b]?=some (.cells c.toArray e (0,0))→o0+i+vs.length≤c.length→(∀ v∈vs,oneCell' v=true) →
  ∃ w',(storeCells ⟨b,o0,none⟩ vs i).run P w=.ok () w'∧wZ b (.cells (setRow c (o0+i) vs).toArray e (0,0)) w w'
 | [],i,c,w,hb,_,_=>⟨w,by simp [storeCells,Sem.run],wZ.refl hb⟩
 | v :: vs,i,c,w,hb,hl,hv=>by
  simp only [kW] at hl
  have hr:=amG (P:=P) (o:=o0+i) (v:=v) hb (by simp;omega) (hv v (by simp))
  have hu:=aoA (o:=o0+i) hb v
  have hb':=hu.this
  simp only [List.setIfInBounds_toArray] at hb' hu
  obtain ⟨w2,h2,u2⟩:=abC b e o0 vs (i+1) (c.set (o0+i) v) _ hb' (by simp;omega) (fun u hu=>hv u (by simp [hu]))
  refine ⟨w2,?_,?_⟩
  ·simp only [storeCells,fD,add_lit,hr,pq,h2]
  ·exact hu.trans u2
theorem bT {t:TypeId} {sz bytes:Nat} {zero:List aj} {agg:Bool} (ht:Ty P t sz bytes zero agg) {x y:Operand} (i:Nat) {b o:Nat} {c:List aj} {e:TypeId} {v:aj} {vs:List aj} (c':List aj) (H:St N D w0 F G0 G L T a w) (hw:Region.wanted ⟨none,.store t x y,ty,pos,aR,g⟩ (yielded ops a.tmps)=true)
  (hx:ev T x=some (.pointer (some ⟨b,o,none⟩))) (hi:L[i]?=some (b,.cells c.toArray e (0,0))) (hy:ev T y=some v) (hvs:v.cells=vs.toArray) (hl:Nat.beq vs.length sz=true) (h1:vs.all oneCell'=true) (hle:Nat.ble (o+vs.length) c.length=true) (hset:setRow c o vs=c')
  (k:∀ w',St N D w0 F G0 G (L.set i (b,.cells c'.toArray e (0,0))) T a w'→WL r P ops Q rest a w'):WL r P ops Q (⟨none,.store t x y,ty,pos,aR,g⟩ :: rest) a w:=by
 have hb:=H.hp.own _ (nQ hi)
 obtain ⟨w2,h2,u2⟩:=abC (P:=P) b e o vs 0 c w hb (by simpa using Nat.le_of_ble_eq_true hle) (fun u hu=>lU.1 h1 u hu)
 simp only [nR,hset] at u2
 refine ade (w':=w2) hw rfl ?_ (k w2 (H.move (H.hp.upd hi u2)))
 have hl':vs.length=sz:=Em hl
 simp [execOp,Instr.storeAt,Instr.sureAddr,storeVar,fD,H.ev hx,H.ev hy,ht.Cx,hvs,hl',h2]
structure dJ (P:Program) (s n off:Nat):Prop where
 h:(match P.underlying s with|some (.struct fs)=>(fs[n]?).bind fun f=>(P.info? f.type).map fun i=>(f.offset,i.size == 0)|_=>none)=some (off,false)
theorem dJ.parts {s n off:Nat} (h:dJ P s n off):∃ fs fl i,P.underlying s=some (.struct fs)∧fs[n]?=some fl∧P.info? fl.type=some i∧fl.offset=off∧i.size≠0:=by
 obtain ⟨h⟩:=h
 split at h
 ·rename_i fs hs
  obtain ⟨fl,hf,h2⟩:=Option.bind_eq_some_iff.1 h
  obtain ⟨i,hi,h3⟩:=oC.1 h2
  simp only [iU,beq_eq_false_iff_ne] at h3
  exact ⟨fs,fl,i,hs,hf,hi,h3.1,h3.2⟩
 ·cases h
theorem JG {s:TypeId} {x:Operand} {n b o off:Nat} (hs:dJ P s n off) (H:St N D w0 F G0 G L T a w) (hw:Region.wanted ⟨some d,.fieldAddr s x n,ty,pos,aR,g⟩ (yielded ops a.tmps)=true)
  (hx:ev T x=some (.pointer (some ⟨b,o,none⟩))) (hd:Nat.blt d N=true)
  (k:∀ a',St N D w0 F G0 G L ((d,.pointer (some ⟨b,o+off,none⟩)) :: T) a' w→WL r P ops Q rest a' w):WL r P ops Q (⟨some d,.fieldAddr s x n,ty,pos,aR,g⟩ :: rest) a w:=by
 obtain ⟨fs,fl,i,h1,h2,h3,h4,h5⟩:=hs.parts
 refine iF (v:=.pointer (some ⟨b,o+off,none⟩)) (w':=w) hw rfl ?_ (k _ (H.put hd _ H.hp))
 simp only [execOp,Instr.fieldAt,Instr.sureAddr,fD,H.ev hx,qx h1,h2,pq,sW,fieldPlace,sizeOf,H9 h3,ah h5,add_lit,h4]
theorem Pv {s e:TypeId} {sz bytes:Nat} {zero:List aj} {agg:Bool} (hs:P.underlying s=some (.slice e)) (ht:Ty P e sz bytes zero agg) {x y:Operand} {b o n c:Nat} {kd:IntKind} {z:Int} (i:Nat) (H:St N D w0 F G0 G L T a w) (hw:Region.wanted ⟨some d,.indexAddr s x y,ty,pos,aR,g⟩ (yielded ops a.tmps)=true)
  (hx:ev T x=some (.slice (some ⟨b,o,none⟩) n c)) (hy:ev T y=some (.int kd z)) (hz:z=(i:Int)) (hn:i < n) (hd:Nat.blt d N=true)
  (k:∀ a',St N D w0 F G0 G L ((d,.pointer (some ⟨b,o+i*sz,none⟩)) :: T) a' w→WL r P ops Q rest a' w):WL r P ops Q (⟨some d,.indexAddr s x y,ty,pos,aR,g⟩ :: rest) a w:=by
 subst hz
 refine iF (v:=.pointer (some ⟨b,o+i*sz,none⟩)) (w':=w) hw rfl ?_ (k _ (H.put hd _ H.hp))
 have hr:(0:Int)≤i∧(i:Int) < (n:Int):=by omega
 simp only [execOp,Instr.indexAt,asIntOf,fD,H.ev hx,H.ev hy,qx hs,pq,sW,au hr,ht.Cx,add_lit,Int.toNat_natCast]
theorem nA {x:Operand} {n:Nat} {vs:List aj} {v:aj} (H:St N D w0 F G0 G L T a w) (hw:Region.wanted ⟨some d,.extract x n,ty,pos,aR,g⟩ (yielded ops a.tmps)=true) (hx:ev T x=some (.tuple vs.toArray)) (hv:vs[n]?=some v) (hd:Nat.blt d N=true)
  (k:∀ a',St N D w0 F G0 G L ((d,v) :: T) a' w→WL r P ops Q rest a' w):WL r P ops Q (⟨some d,.extract x n,ty,pos,aR,g⟩ :: rest) a w :=
 iF (v:=v) (w':=w) hw rfl (by simp [execOp,Instr.extract,H.ev hx,hv]) (k _ (H.put hd _ H.hp))
theorem sO {x:Operand} {p:Addr} (H:St N D w0 F G0 G L T a w) (hw:Region.wanted ⟨some d,.nilCheck x,ty,pos,aR,g⟩ (yielded ops a.tmps)=true) (hx:ev T x=some (.pointer (some p))) (hd:Nat.blt d N=true)
  (k:∀ a',St N D w0 F G0 G L ((d,.pointer (some p)) :: T) a' w→WL r P ops Q rest a' w):WL r P ops Q (⟨some d,.nilCheck x,ty,pos,aR,g⟩ :: rest) a w :=
 iF (v:=.pointer (some p)) (w':=w) hw rfl (by simp [execOp,H.ev hx]) (k _ (H.put hd _ H.hp))
theorem pV {fn:Fn} {xs:List Operand} {vs:List aj} (H:St N D w0 F G0 G L T a w) (hw:Region.wanted ⟨some d,.makeFunc fn #[] xs.toArray,ty,pos,aR,g⟩ (yielded ops a.tmps)=true) (hx:evs T xs=some vs) (hd:Nat.blt d N=true)
  (k:∀ a',St N D w0 F G0 G L ((d,.func fn #[] vs.toArray) :: T) a' w→WL r P ops Q rest a' w):WL r P ops Q (⟨some d,.makeFunc fn #[] xs.toArray,ty,pos,aR,g⟩ :: rest) a w :=
 iF (v:=.func fn #[] vs.toArray) (w':=w) hw rfl (by simp [execOp,Instr.makeFunc,H.evs hx]) (k _ (H.put hd _ H.hp))
def Cb (pl:List (Nat × Nat)):List aj→List (Nat × List aj)→Option (List aj)
 | c,[]=>some c
 | c,(i,vs) :: rest=>match pl[i]? with
  | none=>none
  | some (off,size)=>bif Nat.beq vs.length size && Nat.ble (off+vs.length) c.length then Cb pl (setRow c off vs) rest else none
theorem Zf (off:Nat):∀ (vs:List aj) (j:Nat) (c:List aj),
  ((vs.zipIdx j).toArray).foldl (fun cs (x:aj × Nat)=>cs.setIfInBounds (off+x.2) x.1) c.toArray=(setRow c (off+j) vs).toArray
 | [],j,c=>by simp [setRow]
 | v :: vs,j,c=>by
  have ih:=Zf off vs (j+1) (c.set (off+j) v)
  simp only [List.zipIdx_cons,List.foldl_toArray'] at *
  simp only [List.foldl_cons,List.setIfInBounds_toArray]
  exact ih
theorem fill_eq (place:Nat→Option (Nat × Nat)) (pl:List (Nat × Nat)) (hp:∀ i q,pl[i]?=some q→place i=some q):∀ (parts:List (Nat × aj)) (Pb:List (Nat × List aj)) (c c':List aj),
  parts.map (fun x=>(x.1,x.2.cells.toList))=Pb→Cb pl c Pb=some c'→Instr.fill place c.toArray parts=some c'.toArray
 | [],Pb,c,c',hm,h=>by subst hm;simp [Cb] at h;subst h;rfl
 | (i,v) :: parts,Pb,c,c',hm,h=>by
  subst hm
  simp only [dV,Cb] at h
  split at h
  ·cases h
  ·rename_i off size hq
   cases hcond:(Nat.beq v.cells.toList.length size && Nat.ble (off+v.cells.toList.length) c.length) with
   | false=>rw [hcond] at h;cases h
   | true =>
    rw [hcond] at h
    simp only [jr] at hcond
    have e1:=Em hcond.1
    have e2:=Nat.le_of_ble_eq_true hcond.2
    have ih:=fill_eq place pl hp parts _ (setRow c off v.cells.toList) c' rfl h
    have hf:=Zf off v.cells.toList 0 c
    simp only [nR] at hf
    simp only [yD] at e1 e2
    unfold Instr.fill
    rw [hp i _ hq]
    have hz:(v.cells.zipIdx:Array (aj × Nat))=((v.cells.toList.zipIdx 0).toArray):=by
     apply Array.ext';simp
    simp only [e1,ne_eq,not_true_eq_false,Ir,decide_false,Bool.false_or,List.size_toArray]
    rw [ah (by simp;omega),hz,hf]
    exact ih
structure sU (P:Program) (t:TypeId) (pl:List (Nat × Nat)) (zero:List aj):Prop where
 h:(match P.underlying t with|some (.struct fs)=>some (fs.toList.map fun f=>(f.offset,(P.info? f.type).map (·.size)))|_=>none)=some (pl.map fun q=>(q.1,some q.2))
 z:(P.info? t).map (fun i=>i.zero.map fun z=>z.cells.toList)=some (some zero)
end steps
end
section
open Go.RowKit
section steps
variable {N:Nat} {D:List Deferred} {w0:World} {F:Nat→Prop} {G0 G:GH} {L:List (Nat × Obj)} {T:List (Nat × aj)}
variable {r:Option Nat} {P:Program} {ops:Array Oper} {Q:Exit→Act→World→Prop} {rest:List Oper} {a:Act} {w:World}
variable {d:Nat} {ty:TypeId} {pos:String} {aR:Array Edge} {g:Option (Nat × Bool)}
theorem sU.parts {t:TypeId} {pl:List (Nat × Nat)} {zero:List aj} (h:sU P t pl zero):∃ fs i z,P.underlying t=some (.struct fs)∧P.info? t=some i∧i.zero=some z∧z.cells=zero.toArray ∧
  fs.toList.map (fun f=>(f.offset,(P.info? f.type).map (·.size)))=pl.map fun q=>(q.1,some q.2):=by
 obtain ⟨h,hz⟩:=h
 obtain ⟨i,hi,hx⟩:=oC.1 hz
 obtain ⟨z,hz1,hz2⟩:=oC.1 hx
 split at h
 ·rename_i fs hs
  exact ⟨fs,i,z,hs,hi,hz1,by rw [← hz2],by simpa using h⟩
 ·cases h
theorem abB (w:World):∀ (fs:List Field) (pl:List (Nat × Nat)),fs.map (fun f=>(f.offset,(P.info? f.type).map (·.size)))=pl.map (fun q=>(q.1,some q.2)) →
  (fs.mapM (fun f=>(do pure (f.offset,← sizeOf f.type):Sem (Nat × Nat)))).run P w=.ok pl w
 | [],[],_=>by simp [Sem.run]
 | [],q :: pl,h=>by simp at h
 | f :: fs,[],h=>by simp at h
 | f :: fs,q :: pl,h=>by
  simp only [dV,List.cons.injEq,iU] at h
  obtain ⟨⟨h1,h2⟩,h3⟩:=h
  obtain ⟨i,hi,hs⟩:=oC.1 h2
  have ih:=abB w fs pl h3
  have hsz:(sizeOf f.type).run P w=.ok q.2 w:=by simp only [sizeOf,fD,H9 hi,pq,sW,hs]
  simp only [List.mapM_cons,fD,hsz,pq,sW,ih,h1]
theorem run_build {t:TypeId} {pl:List (Nat × Nat)} {zero:List aj} (h:sU P t pl zero) {parts:Array (Nat × aj)} {cs:List aj}
  (hf:Cb pl zero (parts.toList.map fun x=>(x.1,x.2.cells.toList))=some cs) (w:World):(Instr.build t parts).run P w=.ok (.agg cs.toArray) w:=by
 obtain ⟨fs,i,z,h1,h2,h3,h4,h5⟩:=h.parts
 have hm:=abB (P:=P) w fs.toList pl h5
 have hm':(fs.mapM (fun f=>(do pure (f.offset,← sizeOf f.type):Sem (Nat × Nat)))).run P w=.ok pl.toArray w:=by
  rw [Array.mapM_eq_mapM_toList]
  simp only [map_eq_pure_bind,fD,hm,pq,sW]
 have TP:=fill_eq (fun i=>pl.toArray[i]?) pl (fun i q hq=>by simpa using hq) parts.toList _ zero cs rfl hf
 simp only [Instr.build,zeroValue,fD,H9 h2,h3,pq,sW,h4,qx h1,hm',TP]
def pts (T:List (Nat × aj)):List (Nat × Operand)→Option (List (Nat × aj))
 | []=>some []
 | (i,x) :: q=>match ev T x,pts T q with|some v,some vs=>some ((i,v) :: vs)|_,_=>none
theorem St.pts (H:St N D w0 F G0 G L T a w):∀ {xs:List (Nat × Operand)} {vs:List (Nat × aj)},Proofs.YthmanofbmnfemaaGreat.pts T xs=some vs→xs.map (fun x=>(x.1,a.eval x.2))=vs
 | [],vs,hx=>by simp [Proofs.YthmanofbmnfemaaGreat.pts] at hx;subst hx;rfl
 | (i,x) :: xs,vs,hx=>by
  unfold Proofs.YthmanofbmnfemaaGreat.pts at hx
  split at hx
  ·rename_i v vs' h1 h2
   simp only [oz] at hx
   subst hx
   rw [dV,H.ev h1,H.pts h2]
  ·cases hx
theorem lJ {t:TypeId} {pl:List (Nat × Nat)} {zero:List aj} (ht:sU P t pl zero) {xs:List (Nat × Operand)} {vs:List (Nat × aj)} {vs':List (Nat × List aj)} (cs:List aj) (H:St N D w0 F G0 G L T a w) (hw:Region.wanted ⟨some d,.build t xs.toArray,ty,pos,aR,g⟩ (yielded ops a.tmps)=true)
  (hx:pts T xs=some vs) (hv:vs.map (fun x=>(x.1,x.2.cells.toList))=vs') (hf:Cb pl zero vs'=some cs) (hd:Nat.blt d N=true)
  (k:∀ a',St N D w0 F G0 G L ((d,.agg cs.toArray) :: T) a' w→WL r P ops Q rest a' w):WL r P ops Q (⟨some d,.build t xs.toArray,ty,pos,aR,g⟩ :: rest) a w:=by
 refine iF (v:=.agg cs.toArray) (w':=w) hw rfl ?_ (k _ (H.put hd _ H.hp))
 have h1:=run_build ht (parts:=(vs.toArray)) (cs:=cs) (by simpa [hv] using hf) w
 simp only [execOp,List.map_toArray,H.pts hx,fD,h1,pq,sW]
theorem jy {t e:TypeId} {sz bytes:Nat} {zero:List aj} {agg:Bool} (hs:P.underlying t=some (.slice e)) (ht:Ty P e sz bytes zero agg) {n:Nat} {xs:List (Nat × Operand)} {vs:List (Nat × aj)} {vs':List (Nat × List aj)} (z:List aj) (cs:List aj) (H:St N D w0 F G0 G L T a w) (hw:Region.wanted ⟨some d,.buildSlice t n xs.toArray,ty,pos,aR,g⟩ (yielded ops a.tmps)=true)
  (hx:pts T xs=some vs) (hv:vs.map (fun x=>(x.1,x.2.cells.toList))=vs') (hn:Nat.ble (n*sz) 1000=true) (hn0:Nat.beq (n*sz) 0=false) (hz:(List.range (n*sz)).map (fun i=>zero[i % zero.length]!)=z) (hpl:∀ i q,((List.range n).map fun i=>(i*sz,sz))[i]?=some q→(some (i*sz,sz):Option (Nat × Nat))=some q)
  (hf:Cb ((List.range n).map fun i=>(i*sz,sz)) z vs'=some cs) (hd:Nat.blt d N=true)
  (k:∀ b a' w',w0.heap.size≤b→St N D w0 F G0 G ((b,.cells cs.toArray e (0,0)) :: L) ((d,.slice (some ⟨b,0,none⟩) n n) :: T) a' w'→WL r P ops Q rest a' w'):WL r P ops Q (⟨some d,.buildSlice t n xs.toArray,ty,pos,aR,g⟩ :: rest) a w:=by
 refine iF (v:=.slice (some ⟨w.heap.size,0,none⟩) n n) (w':=w.alloc (.cells cs.toArray e (0,0))) hw rfl ?_ (k _ _ _ H.hp.size (H.put hd _ (H.hp.alloc _)))
 obtain ⟨z0,hz0,hzc⟩:=ht.abD w
 have h16:¬ n*sz > 2 ^ 24:=by have:=Nat.le_of_ble_eq_true hn;simp;omega
 have h0:¬ n*sz=0:=by intro e;rw [e] at hn0;cases hn0
 have TP:=fill_eq (fun i=>some (i*sz,sz)) _ hpl vs vs' z cs hv hf
 have hz':(Array.range (n*sz)).map (fun x=>zero.toArray[x % zero.toArray.size]!)=z.toArray:=by
  rw [← hz];apply Array.ext';simp
 simp only [execOp,List.map_toArray,H.pts hx,Instr.buildSlice,fD,qx hs,pq,ht.Cx,ah h16,ah h0,hz0,hzc,sW,hz',TP,newRow,newObj,Sem.run]
 rfl
theorem Jq {z:Int} (h1:-9223372036854775808≤z) (h2:z < 9223372036854775808):IntKind.i64.wrap z=z:=by
 unfold IntKind.wrap
 have e:(2:Int) ^ 64=18446744073709551616:=by decide
 have e':(2:Int) ^ (64 - 1)=9223372036854775808:=by decide
 simp only [IntKind.bits,IntKind.signed,uG,e,e',uH]
 split <;> omega
theorem Pp {x y:Operand} {t yt:TypeId} {p q:Int} (z:Int) (H:St N D w0 F G0 G L T a w) (hw:Region.wanted ⟨some d,.binOp .add t x y yt,ty,pos,aR,g⟩ (yielded ops a.tmps)=true) (hx:ev T x=some (.int .i64 p)) (hy:ev T y=some (.int .i64 q)) (hz:p+q=z) (h1:-9223372036854775808≤z) (h2:z < 9223372036854775808) (hd:Nat.blt d N=true)
  (k:∀ a',St N D w0 F G0 G L ((d,.int .i64 z) :: T) a' w→WL r P ops Q rest a' w):WL r P ops Q (⟨some d,.binOp .add t x y yt,ty,pos,aR,g⟩ :: rest) a w :=
 iF (v:=.int .i64 z) (w':=w) hw rfl (by simp [execOp,eqGuard,binOp,Op.intArith,H.ev hx,H.ev hy,fD,hz,Jq h1 h2]) (k _ (H.put hd _ H.hp))
theorem mD {x y:Operand} {t yt:TypeId} {p q:Int} (z:Int) (H:St N D w0 F G0 G L T a w) (hw:Region.wanted ⟨some d,.binOp .sub t x y yt,ty,pos,aR,g⟩ (yielded ops a.tmps)=true) (hx:ev T x=some (.int .i64 p)) (hy:ev T y=some (.int .i64 q)) (hz:p - q=z) (h1:-9223372036854775808≤z) (h2:z < 9223372036854775808) (hd:Nat.blt d N=true)
  (k:∀ a',St N D w0 F G0 G L ((d,.int .i64 z) :: T) a' w→WL r P ops Q rest a' w):WL r P ops Q (⟨some d,.binOp .sub t x y yt,ty,pos,aR,g⟩ :: rest) a w :=
 iF (v:=.int .i64 z) (w':=w) hw rfl (by simp [execOp,eqGuard,binOp,Op.intArith,H.ev hx,H.ev hy,fD,hz,Jq h1 h2]) (k _ (H.put hd _ H.hp))
def Kr:BinOp→Int→Int→Option Bool
 | .eql,x,y=>some (decide (x=y))
 | .neq,x,y=>some (decide (¬ x=y))
 | .lss,x,y=>some (decide (x < y))
 | .leq,x,y=>some (decide (x≤y))
 | .gtr,x,y=>some (decide (y < x))
 | .geq,x,y=>some (decide (y≤x))
 | _,_,_=>none
theorem amD {op:BinOp} {kd:IntKind} {x y:Int} {b:Bool} (h:Kr op x y=some b) (t:TypeId) (X Y:Operand) (w:World):(do eqGuard op t X Y (.int kd x) (.int kd y);binOp op t (.int kd x) (.int kd y):Sem aj).run P w=.ok (.bool b) w:=by
 cases op <;> simp only [Kr,oz,reduceCtorEq] at h <;> subst h <;> simp [eqGuard,binOp,Op.intCmp,fD]
 ·rfl
 ·rfl
theorem Ml {op:BinOp} {x y:Operand} {t yt:TypeId} {kd:IntKind} {p q:Int} {b:Bool} (H:St N D w0 F G0 G L T a w) (hw:Region.wanted ⟨some d,.binOp op t x y yt,ty,pos,aR,g⟩ (yielded ops a.tmps)=true) (hx:ev T x=some (.int kd p)) (hy:ev T y=some (.int kd q)) (hb:Kr op p q=some b) (hd:Nat.blt d N=true)
  (k:∀ a',St N D w0 F G0 G L ((d,.bool b) :: T) a' w→WL r P ops Q rest a' w):WL r P ops Q (⟨some d,.binOp op t x y yt,ty,pos,aR,g⟩ :: rest) a w:=by
 refine iF (v:=.bool b) (w':=w) hw rfl ?_ (k _ (H.put hd _ H.hp))
 have h1:=amD (P:=P) (kd:=kd) hb t x y w
 simp only [execOp,H.ev hx,H.ev hy]
 rw [fD,h1]
 rfl
theorem VH {x:Operand} {t:TypeId} {b:Bool} (H:St N D w0 F G0 G L T a w) (hw:Region.wanted ⟨some d,.unOp .not t x,ty,pos,aR,g⟩ (yielded ops a.tmps)=true) (hx:ev T x=some (.bool b)) (hd:Nat.blt d N=true)
  (k:∀ a',St N D w0 F G0 G L ((d,.bool (!b)) :: T) a' w→WL r P ops Q rest a' w):WL r P ops Q (⟨some d,.unOp .not t x,ty,pos,aR,g⟩ :: rest) a w :=
 iF (v:=.bool (!b)) (w':=w) hw rfl (by simp [execOp,Op.unary,H.ev hx,fD]) (k _ (H.put hd _ H.hp))
def xk (op:BinOp) (k:IntKind) (x y:Int):Int :=
 let a:=BitVec.ofInt k.bits x
 let b:=BitVec.ofInt k.bits y
 k.wrap (match op with|.and=>(a &&& b).toNat|.or=>(a ||| b).toNat|.xor=>(a ^^^ b).toNat|_=>(a &&& ~~~b).toNat)
theorem Pq {op:BinOp} {x y:Operand} {t yt:TypeId} {kd:IntKind} {p q:Int} (hop:(match op with|.and|.or|.xor|.andNot=>true|_=>false)=true) (H:St N D w0 F G0 G L T a w) (hw:Region.wanted ⟨some d,.binOp op t x y yt,ty,pos,aR,g⟩ (yielded ops a.tmps)=true) (hx:ev T x=some (.int kd p)) (hy:ev T y=some (.int kd q)) (hd:Nat.blt d N=true)
  (k:∀ a',St N D w0 F G0 G L ((d,.int kd (xk op kd p q)) :: T) a' w→WL r P ops Q rest a' w):WL r P ops Q (⟨some d,.binOp op t x y yt,ty,pos,aR,g⟩ :: rest) a w:=by
 refine iF (v:=.int kd (xk op kd p q)) (w':=w) hw rfl ?_ (k _ (H.put hd _ H.hp))
 cases op <;> simp only [Ir] at hop <;> simp [execOp,eqGuard,binOp,Op.intBits,H.ev hx,H.ev hy,xk]
theorem amT {x y:Operand} {t yt:TypeId} {kd ky:IntKind} {p q:Int} (n:Nat) (H:St N D w0 F G0 G L T a w) (hw:Region.wanted ⟨some d,.binOp .shl t x y yt,ty,pos,aR,g⟩ (yielded ops a.tmps)=true) (hx:ev T x=some (.int kd p)) (hy:ev T y=some (.int ky q)) (hq:q=(n:Int)) (hn:n≤kd.bits) (hd:Nat.blt d N=true)
  (k:∀ a',St N D w0 F G0 G L ((d,.int kd (kd.wrap (p*2 ^ n))) :: T) a' w→WL r P ops Q rest a' w):WL r P ops Q (⟨some d,.binOp .shl t x y yt,ty,pos,aR,g⟩ :: rest) a w:=by
 subst hq
 refine iF (v:=.int kd (kd.wrap (p*2 ^ n))) (w':=w) hw rfl ?_ (k _ (H.put hd _ H.hp))
 have h0:¬ ((n:Int) < 0):=by omega
 have h1:min n kd.bits=n:=by omega
 simp [execOp,eqGuard,binOp,Op.shift,H.ev hx,H.ev hy,h0,h1]
theorem abJ {x y:Operand} {t yt:TypeId} {kd ky:IntKind} {p q:Int} (n:Nat) (H:St N D w0 F G0 G L T a w) (hw:Region.wanted ⟨some d,.binOp .shr t x y yt,ty,pos,aR,g⟩ (yielded ops a.tmps)=true) (hx:ev T x=some (.int kd p)) (hy:ev T y=some (.int ky q)) (hq:q=(n:Int)) (hn:n≤kd.bits) (hd:Nat.blt d N=true)
  (k:∀ a',St N D w0 F G0 G L ((d,.int kd (p.fdiv (2 ^ n))) :: T) a' w→WL r P ops Q rest a' w):WL r P ops Q (⟨some d,.binOp .shr t x y yt,ty,pos,aR,g⟩ :: rest) a w:=by
 subst hq
 refine iF (v:=.int kd (p.fdiv (2 ^ n))) (w':=w) hw rfl ?_ (k _ (H.put hd _ H.hp))
 have h0:¬ ((n:Int) < 0):=by omega
 have h1:min n kd.bits=n:=by omega
 simp [execOp,eqGuard,binOp,Op.shift,H.ev hx,H.ev hy,h0,h1]
theorem JF {x:Operand} {t u:TypeId} {kd ks:IntKind} {p:Int} {su:TypeDesc} (z:Int) (hu:P.underlying u=some (.int kd)) (ht:P.underlying t=some su) (H:St N D w0 F G0 G L T a w) (hw:Region.wanted ⟨some d,.convert t u x,ty,pos,aR,g⟩ (yielded ops a.tmps)=true) (hx:ev T x=some (.int ks p)) (hz:kd.wrap p=z) (hd:Nat.blt d N=true)
  (k:∀ a',St N D w0 F G0 G L ((d,.int kd z) :: T) a' w→WL r P ops Q rest a' w):WL r P ops Q (⟨some d,.convert t u x,ty,pos,aR,g⟩ :: rest) a w:=by
 refine iF (v:=.int kd z) (w':=w) hw rfl ?_ (k _ (H.put hd _ H.hp))
 simp [execOp,convert,qx hu,qx ht,H.ev hx,fD,Conv.intToInt,hz]
theorem pU {x y:Operand} {t:TypeId} {s:ByteArray} {kd:IntKind} {z:Int} (i:Nat) (ht:P.underlying t=some .string) (H:St N D w0 F G0 G L T a w) (hw:Region.wanted ⟨some d,.index t x y,ty,pos,aR,g⟩ (yielded ops a.tmps)=true) (hx:ev T x=some (.string s)) (hy:ev T y=some (.int kd z)) (hz:z=(i:Int)) (hi:i < s.size) (hd:Nat.blt d N=true)
  (k:∀ a',St N D w0 F G0 G L ((d,.int .u8 (s[i].toNat:Int)) :: T) a' w→WL r P ops Q rest a' w):WL r P ops Q (⟨some d,.index t x y,ty,pos,aR,g⟩ :: rest) a w:=by
 subst hz
 refine iF (v:=.int .u8 (s[i].toNat:Int)) (w':=w) hw rfl ?_ (k _ (H.put hd _ H.hp))
 simp [execOp,Instr.index,asIntOf,qx ht,H.ev hx,H.ev hy,fD,hi]
theorem abF {x:Operand} {t e:TypeId} {A:Option Addr} {n c:Nat} (hs:P.underlying t=some (.slice e)) (H:St N D w0 F G0 G L T a w) (hw:Region.wanted ⟨some d,.call { callee:=.builtin .len,args:=#[x],argTypes:=#[t] },ty,pos,aR,g⟩ (yielded ops a.tmps)=true) (hx:ev T x=some (.slice A n c)) (hd:Nat.blt d N=true)
  (k:∀ a',St N D w0 F G0 G L ((d,.int .i64 n) :: T) a' w→WL r P ops Q rest a' w):WL r P ops Q (⟨some d,.call { callee:=.builtin .len,args:=#[x],argTypes:=#[t] },ty,pos,aR,g⟩ :: rest) a w :=
 iF (v:=.int .i64 n) (w':=w) hw rfl (by simp [execOp,resolve,invoke,builtin,Builtin.len_,H.ev hx,fD,qx hs,goInt]) (k _ (H.put hd _ H.hp))
theorem Bu {x:Operand} {t:TypeId} {s:ByteArray} (hs:P.underlying t=some .string) (H:St N D w0 F G0 G L T a w) (hw:Region.wanted ⟨some d,.call { callee:=.builtin .len,args:=#[x],argTypes:=#[t] },ty,pos,aR,g⟩ (yielded ops a.tmps)=true) (hx:ev T x=some (.string s)) (hd:Nat.blt d N=true)
  (k:∀ a',St N D w0 F G0 G L ((d,.int .i64 s.size) :: T) a' w→WL r P ops Q rest a' w):WL r P ops Q (⟨some d,.call { callee:=.builtin .len,args:=#[x],argTypes:=#[t] },ty,pos,aR,g⟩ :: rest) a w :=
 iF (v:=.int .i64 s.size) (w':=w) hw rfl (by simp [execOp,resolve,invoke,builtin,Builtin.len_,H.ev hx,fD,qx hs,goInt]) (k _ (H.put hd _ H.hp))
theorem E9 {x y:Operand} {t t':TypeId} {kd:IntKind} {p q:Int} (H:St N D w0 F G0 G L T a w) (hw:Region.wanted ⟨some d,.call { callee:=.builtin .max,args:=#[x,y],argTypes:=#[t,t'] },ty,pos,aR,g⟩ (yielded ops a.tmps)=true) (hx:ev T x=some (.int kd p)) (hy:ev T y=some (.int kd q)) (hd:Nat.blt d N=true)
  (k:∀ a',St N D w0 F G0 G L ((d,.int kd (max p q)) :: T) a' w→WL r P ops Q rest a' w):WL r P ops Q (⟨some d,.call { callee:=.builtin .max,args:=#[x,y],argTypes:=#[t,t'] },ty,pos,aR,g⟩ :: rest) a w:=by
 refine iF (v:=.int kd (max p q)) (w':=w) hw rfl ?_ (k _ (H.put hd _ H.hp))
 have e:(if q > p then q else p)=max p q:=by omega
 simp [execOp,resolve,invoke,builtin,Builtin.max_,Builtin.max2,H.ev hx,H.ev hy,fD,e]
theorem Pw {x y:Operand} {t t':TypeId} {kd:IntKind} {p q:Int} (H:St N D w0 F G0 G L T a w) (hw:Region.wanted ⟨some d,.call { callee:=.builtin .min,args:=#[x,y],argTypes:=#[t,t'] },ty,pos,aR,g⟩ (yielded ops a.tmps)=true) (hx:ev T x=some (.int kd p)) (hy:ev T y=some (.int kd q)) (hd:Nat.blt d N=true)
  (k:∀ a',St N D w0 F G0 G L ((d,.int kd (min p q)) :: T) a' w→WL r P ops Q rest a' w):WL r P ops Q (⟨some d,.call { callee:=.builtin .min,args:=#[x,y],argTypes:=#[t,t'] },ty,pos,aR,g⟩ :: rest) a w:=by
 refine iF (v:=.int kd (min p q)) (w':=w) hw rfl ?_ (k _ (H.put hd _ H.hp))
 have e:(if q < p then q else p)=min p q:=by omega
 simp [execOp,resolve,invoke,builtin,Builtin.min_,Builtin.min2,H.ev hx,H.ev hy,fD,e]
def bY (w:World) (G:GH) (R:aj→GH→Prop):Ending→World→Prop:=fun e w'=>∃ v G',e=.returned v∧Below w.heap.size w w'∧Ext w.heap.size G G' w'∧R v G'
def Hold (G:GH) (w:World):Prop:=∀ k o,G k=some o→w.heap[k]?=some o
theorem s_call {f:FuncId} {xs:List Operand} {vs:List aj} {ts:Array TypeId} {R:aj→GH→Prop} (en:∀ args w,(callFunc f args).run P w=.ok (.enter f args) w) (H:St N D w0 F G0 G L T a w) (hw:Region.wanted ⟨some d,.call { callee:=.value (.func f),args:=xs.toArray,argTypes:=ts },ty,pos,aR,g⟩ (yielded ops a.tmps)=true)
  (hx:evs T xs=some vs) (hc:Calls P f vs.toArray w (bY w G R)) (hd:Nat.blt d N=true)
  (k:∀ v G' a' w',R v G'→(∀ k o,G k=some o→G' k=some o)→St N D w0 F G0 G' L ((d,v) :: T) a' w'→WL r P ops Q rest a' w'):WL r P ops Q (⟨some d,.call { callee:=.value (.func f),args:=xs.toArray,argTypes:=ts },ty,pos,aR,g⟩ :: rest) a w:=by
 refine Wo (nx:=.ok (.enter f vs.toArray) w) (R:=bY w G R) hw rfl ?_ hc ?_
 ·have h1:=H.evs hx
  simp [execOp,resolve,Act.eval,Deferred.ofValue,invoke,fD,h1,en]
 ·rintro e w' ⟨v,G',rfl,hb,hX,hR⟩
  exact ⟨v,rfl,k v G' _ w' hR hX.1 (H.put hd v (H.hp.XM hb hX))⟩
theorem aN {x y:Code} (h:∀ K:Act→World→Prop,(∀ a w,WP r P y Q a w→K a w)→WP r P x (Exit.then K Q) a w):WP r P (.seq x y) Q a w:=wpIn_seq_k h
theorem qG {id:Nat} {l:List Oper} (h:WL r P l.toArray Q l a w):WP r P (.region id l.toArray false) Q a w:=wpIn_region_lit h
theorem dh {id:Nat} {l:List Oper} {y:Code} (h:∀ K:Act→World→Prop,(∀ a w,WP r P y Q a w→WL r P l.toArray (Exit.then K Q) [] a w)→WL r P l.toArray (Exit.then K Q) l a w):WP r P (.seq (.region id l.toArray false) y) Q a w:=aN fun K hK=>qG (h K fun a w h=>aJ (hK a w h))
theorem fF (h:Q .normal a w):WP r P .skip Q a w:=wpIn_skip h
theorem dG (h:Q .ret a w):WP r P .ret Q a w:=wpIn_ret h
theorem dR {id:Nat} (h:Q (.exit id) a w):WP r P (.exit id) Q a w:=wpIn_exit h
theorem sD {id:Nat} {c:Code} (h:WP r P c (Exit.inBlock id Q) a w):WP r P (.block id c) Q a w:=wpIn_block h
theorem qF {c:Operand} {x y:Code} {b:Bool} (H:St N D w0 F G0 G L T a w) (hc:ev T c=some (.bool b)) (h1:b=true→WP r P x Q a w) (h0:b=false→WP r P y Q a w):WP r P (.cond c x y) Q a w :=
 wpIn_cond_split (H.ev hc) h1 h0
theorem Ay {c:Operand} {x y:Code} {b:Bool} (H:St N D w0 F G0 G L T a w) (hc:ev T c=some (.bool b)) (hb:b=true) (h1:WP r P x Q a w):WP r P (.cond c x y) Q a w :=
 wpIn_cond_true (by rw [H.ev hc,hb]) h1
theorem oh {c:Operand} {x y:Code} {b:Bool} (H:St N D w0 F G0 G L T a w) (hc:ev T c=some (.bool b)) (hb:b=false) (h1:WP r P y Q a w):WP r P (.cond c x y) Q a w :=
 wpIn_cond_false (by rw [H.ev hc,hb]) h1
theorem XZ {ι:Type} {c:Code} (I:ι→Act→World→Prop) (m:ι→Nat) (i0:ι) (h0:I i0 a w)
  (round:∀ i a w,I i a w→WP r P c (Exit.then (fun a' w'=>∃ i',I i' a' w'∧m i' < m i) Q) a w):WP r P (.loop c) Q a w:=by
 intro b k cs hro hb hr
 have key:∀ j i a w,m i=j→I i a w →
   ∃ e a' w',Q e a' w'∧ArrivesIn (Machine.fenced P (FW r)) P (lone (b.atR a (.code c :: .inLoop c :: k)) cs w) b k cs e a' w':=by
  intro j
  induction j using Nat.strongRecOn with
  | _ j ih =>
   intro i a w hn hI
   obtain ⟨e,a₁,w₁,hq,harr⟩:=round i a w hI b (.inLoop c :: k) cs hro hb hr
   cases e with
   | normal =>
    obtain ⟨i',hI₁,hlt⟩:=hq
    obtain ⟨e₂,a₂,w₂,hq₂,harr₂⟩:=ih (m i') (hn ▸ hlt) i' a₁ w₁ rfl hI₁
    exact ⟨e₂,a₂,w₂,hq₂,.of_steps (StepsIn.trans harr (.one (fenced_calm hb hr rfl) stepR_inLoop)) harr₂⟩
   | exit id=>exact ⟨_,a₁,w₁,hq,.pass (x:=.inLoop c) rfl (fun _ _=>.inl (by simp)) harr⟩
   | goto l=>exact ⟨_,a₁,w₁,hq,.pass (x:=.inLoop c) rfl (fun _ _=>.inl (by simp)) harr⟩
   | ret=>exact ⟨_,a₁,w₁,hq,.pass (x:=.inLoop c) rfl (fun _ _=>.inl (by simp)) harr⟩
   | panic ch=>exact ⟨_,a₁,w₁,hq,.pass (x:=.inLoop c) rfl (fun _ _=>.inl (by simp)) harr⟩
   | outgrown=>exact ⟨_,a₁,w₁,hq,.pass (x:=.inLoop c) rfl (fun _ _=>.inl (by simp)) harr⟩
 obtain ⟨e,a',w',hq,harr⟩:=key _ i0 a w rfl h0
 exact ⟨e,a',w',hq,.of_steps (.one (fenced_calm hb hr rfl) stepR_loop) harr⟩
theorem eT {ι:Type} {c:Code} {Tc:List (Nat × aj)} {Lc:List (Nat × Obj)} (Tv:ι→List (Nat × aj)) (Lv:ι→List (Nat × Obj)) (Gv:ι→GH) (Pr:ι→Prop) (m:ι→Nat) (i0:ι)
  (H:St N D w0 F G0 (Gv i0) (Lc++Lv i0) (Tv i0++Tc) a w) (hP:Pr i0)
  (round:∀ i a w,Pr i→St N D w0 F G0 (Gv i) (Lc++Lv i) (Tv i++Tc) a w →
   WP r P c (Exit.then (fun a' w'=>∃ i',(St N D w0 F G0 (Gv i') (Lc++Lv i') (Tv i'++Tc) a' w'∧Pr i')∧m i' < m i) Q) a w):WP r P (.loop c) Q a w :=
 XZ (fun i a w=>St N D w0 F G0 (Gv i) (Lc++Lv i) (Tv i++Tc) a w∧Pr i) m i0 ⟨H,hP⟩ fun i a w hI=>round i a w hI.2 hI.1
theorem oF {ι:Type} {x y:Code} {Tc:List (Nat × aj)} {Lc Lr:List (Nat × Obj)} {Gh:GH} (Tv:ι→List (Nat × aj)) (Lv:ι→List (Nat × Obj)) (Gv:ι→GH) (Pr:ι→Prop)
  (_:St N D w0 F G0 Gh (Lc++Lr) Tc a w) (h1:WP r P x (Exit.then (fun a w=>∃ i,St N D w0 F G0 (Gv i) (Lc++Lv i) (Tv i++Tc) a w∧Pr i) Q) a w)
  (h2:∀ i a w,Pr i→St N D w0 F G0 (Gv i) (Lc++Lv i) (Tv i++Tc) a w→WP r P y Q a w):WP r P (.seq x y) Q a w :=
 wpIn_seq (wpIn_mono h1 fun e a w h=>by
  cases e with
  | normal=>obtain ⟨i,H,hP⟩:=h;exact h2 i a w hP H
  | _=>exact h)
theorem dH {ι:Type} {Tc:List (Nat × aj)} {Lc:List (Nat × Obj)} {Tv:ι→List (Nat × aj)} {Lv:ι→List (Nat × Obj)} {Gv:ι→GH} {Pr:ι→Prop} {m:ι→Nat} {i:ι} (i':ι)
  (H:St N D w0 F G0 (Gv i') (Lc++Lv i') (Tv i'++Tc) a w) (hP:Pr i') (hm:m i' < m i) :
  ∃ i',(St N D w0 F G0 (Gv i') (Lc++Lv i') (Tv i'++Tc) a w∧Pr i')∧m i' < m i:=⟨i',⟨H,hP⟩,hm⟩
def FV:Nat→List aj→List (Nat × aj)
 | _,[]=>[]
 | i,v :: vs=>(i,v) :: FV (i+1) vs
theorem enters {f:FuncId} {fn:Func} {c:Code} (hf:P.funcs[f]?=some fn) (hb:fn.body=some c) (hname:(fn.name == "runtime.NumGoroutine")=false) (args:Array aj) (w:World):(callFunc f args).run P w=.ok (.enter f args) w:=by
 have h1:fn.name ≠ "runtime.NumGoroutine":=by simpa using hname
 simp [callFunc,hf,h1,hb,mark]
theorem enter {f:FuncId} {fn:Func} {c:Code} {vs:List aj} {R:Ending→World→Prop} (hf:P.funcs[f]?=some fn) (hb:fn.body=some c) (hN:fn.ntmps=N) (hle:Nat.ble vs.length N=true)
  (hT:FV 0 vs=T) (hG:Hold G w) (hF:∀ k,F k→k < w.heap.size) (hL:∀ p∈L,w.heap[p.1]?=some p.2) (hLG:∀ p∈L,G p.1=none) (hLF:∀ p∈L,¬ F p.1) (hnd:L.Pairwise fun p q=>p.1≠q.1)
  (h:∀ a,St N [] w F G G L T a w→WP none P c (bodyPostM (FW none) 0 P fn R) a w):Calls P f vs.toArray w R:=by
 refine ael (r:=none) (n:=0) (callsIn_of_wp_marks hf hb trivial (h _ ⟨?_,?_,rfl,⟨rfl,rfl,rfl,dw _,hF,fun _ _=>rfl,hG,fun _ _ h=>h,fun _ _ h=>.inl h,hL,hLG,hLF,hnd⟩⟩) rfl)
 ·have:=Nat.le_of_ble_eq_true hle
  simp [hN];omega
 ·intro t v ht
  have hlen:t < vs.length∧vs[t]?=some v:=by
   subst hT
   have key:∀ (vs:List aj) (s:Nat),lk (FV s vs) t=some v→s≤t∧vs[t - s]?=some v:=by
    intro vs
    induction vs with
    | nil=>intro s h;simp [FV,lk] at h
    | cons u vs ih =>
     intro s h
     simp only [FV] at h
     by_cases e:s=t
     ·subst e;rw [xO] at h;simpa using h
     ·rw [wK e] at h
      obtain ⟨h1,h2⟩:=ih (s+1) h
      refine ⟨by omega,?_⟩
      have:t - s=(t - (s+1))+1:=by omega
      rw [this];simpa using h2
   have:=key vs 0 ht
   simp only [gX,Nat.sub_zero,true_and] at this
   exact ⟨(lG.1 this).1,this⟩
  rw [Array.getElem?_append_left (by simpa using hlen.1)]
  simpa using hlen.2
def JD (tmps:Array aj):ResultVar→Sem aj
 | .tmp t=>pure (tmps.getD t undef)
 | .cell a t=>do loadVar t (← asAddr (tmps.getD a undef))
def RV (P:Program) (w:World) (tmps:Array aj) (rv:ResultVar) (v:aj):Prop:=(JD tmps rv).run P w=.ok v w
theorem bB (H:St N D w0 F G0 G L T a w) {t:Nat} {v:aj} (h:lk T t=some v):RV P w a.tmps (.tmp t) v:=by
 have:=H.ev (x:=.tmp t) h
 simp only [Act.eval] at this
 simp [RV,JD,this]
theorem Mk {t:TypeId} {sz bytes:Nat} {zero:List aj} (ht:Ty P t sz bytes zero true) (H:St N D w0 F G0 G L T a w) {s b o:Nat} {cs:List aj} (h:lk T s=some (.pointer (some ⟨b,o,none⟩))) (hl:cs.length=sz) (hc:∀ j v,cs[j]?=some v→w.cell? ⟨b,o+j,none⟩=some v) :
  RV P w a.tmps (.cell s t) (.agg cs.toArray):=by
 have:=H.ev (x:=.tmp s) h
 simp only [Act.eval] at this
 have h1:=run_loadCells (P:=P) b w cs o 0 #[] (fun j v hj=>by simpa using hc j v hj)
 simp only [Array.empty_append,hl] at h1
 simp [RV,JD,this,asAddr,loadVar,fD,ht.Po,ht.Cx,loadCells,h1]
theorem zq {t:TypeId} {sz bytes:Nat} {zero:List aj} (ht:Ty P t sz bytes zero false) (H:St N D w0 F G0 G L T a w) {s b o:Nat} {v:aj} (h:lk T s=some (.pointer (some ⟨b,o,none⟩))) (hc:w.cell? ⟨b,o,none⟩=some v) :
  RV P w a.tmps (.cell s t) v:=by
 have:=H.ev (x:=.tmp s) h
 simp only [Act.eval] at this
 simp only [RV,JD,this,asAddr,loadVar,fD,ht.Po,pq,sW,Ir,if_false,VF hc]
inductive Ej (P:Program) (w:World) (tmps:Array aj):List ResultVar→List aj→Prop
 | nil:Ej P w tmps [] []
 | cons {rv rs v vs}:RV P w tmps rv v→Ej P w tmps rs vs→Ej P w tmps (rv :: rs) (v :: vs)
def Vh:List aj→aj
 | [v]=>v
 | vs=>.tuple vs.toArray
theorem amF {fn:Func} {rs:List ResultVar} {vs:List aj} {tmps:Array aj} (hr:fn.results=rs.toArray) (h:Ej P w tmps rs vs):(results fn tmps).run P w=.ok (Vh vs) w:=by
 have hm:∀ {rs:List ResultVar} {vs:List aj},Ej P w tmps rs vs→(rs.mapM (JD tmps)).run P w=.ok vs w:=by
  intro rs vs h
  induction h with
  | nil=>simp
  | cons h1 _ ih =>
   unfold RV at h1
   simp only [List.mapM_cons,fD,h1,pq,ih,sW]
 have hm':=hm h
 have hres:results fn tmps=(do let vs ← fn.results.mapM (JD tmps);pure (if h:vs.size=1 then vs[0] else .tuple vs)):=rfl
 rw [hres,hr,Array.mapM_eq_mapM_toList]
 simp only [map_eq_pure_bind,fD,hm',pq,sW]
 match vs with
 | []=>rfl
 | [v]=>rfl
 | v :: u :: vs=>simp [Vh]
theorem leave {fn:Func} {rs:List ResultVar} {vs:List aj} {R:Ending→World→Prop} (v:aj) (H:St N [] w0 F G0 G L T a w) (hr:fn.results=rs.toArray) (h:Ej P w a.tmps rs vs) (hv:Vh vs=v) (hR:R (.returned v) w) :
  bodyPostM (FW none) 0 P fn R .ret a w∧bodyPostM (FW none) 0 P fn R .normal a w:=by
 subst hv
 have h1:LeavesInM (FW none) 0 P fn a.tmps R a.defers .returning w:=by
  rw [H.tK]
  exact ⟨_,amF hr h,hR⟩
 exact ⟨h1,h1⟩
theorem leave0 {fn:Func} {R:Ending→World→Prop} (H:St N [] w0 F G0 G L T a w) (hr:fn.results=#[]) (hR:R (.returned (.tuple #[])) w) :
  bodyPostM (FW none) 0 P fn R .ret a w∧bodyPostM (FW none) 0 P fn R .normal a w:=leave (rs:=[]) _ H hr .nil rfl hR
theorem leave1 {fn:Func} {rs:List ResultVar} {v:aj} {R:Ending→World→Prop} (H:St N [] w0 F G0 G L T a w) (hr:fn.results=rs.toArray) (h:Ej P w a.tmps rs [v]) (hR:R (.returned v) w) :
  bodyPostM (FW none) 0 P fn R .ret a w∧bodyPostM (FW none) 0 P fn R .normal a w:=leave _ H hr h rfl hR
theorem gV {fn:Func} {rs:List ResultVar} {v u:aj} {vs:List aj} {R:Ending→World→Prop} (H:St N [] w0 F G0 G L T a w) (hr:fn.results=rs.toArray) (h:Ej P w a.tmps rs (v :: u :: vs)) (hR:R (.returned (.tuple (v :: u :: vs).toArray)) w) :
  bodyPostM (FW none) 0 P fn R .ret a w∧bodyPostM (FW none) 0 P fn R .normal a w:=leave _ H hr h rfl hR
theorem Hp.ret {R:aj→GH→Prop} {v:aj} (h:Hp w0 (fun k=>k < w0.heap.size) G0 G L w) (hR:R v G):bY w0 G0 R (.returned v) w :=
 ⟨v,G,rfl,⟨h.os,h.tape,h.output,h.size,h.fr⟩,⟨h.gm,fun k o hk=>(h.gx k o hk).imp id (fun hn=>Nat.le_of_not_lt hn),h.ro⟩,hR⟩
end steps
end
section
open Go.RowKit
abbrev OL:=List (Nat × Obj)
structure ji (G:GH) (L:OL) (w:World):Prop where
 ro:Hold G w
 own:∀ p∈L,w.heap[p.1]?=some p.2
 sep:∀ p∈L,G p.1=none
 nd:L.Pairwise fun p q=>p.1≠q.1
structure Change (w w':World) (G G':GH) (L L':OL):Prop where
 os:w'.os=w.os
 tape:w'.tape=w.tape
 output:w'.output=w.output
 size:w.heap.size≤w'.heap.size
 fr:∀ k,k < w.heap.size→(∀ p∈L,p.1≠k)→w'.heap[k]?=w.heap[k]?
 gm:∀ k o,G k=some o→G' k=some o
 gx:∀ k o,G' k=some o→G k=some o∨w.heap.size≤k∨∃ p∈L,p.1=k
 owns:ji G' L' w'
 lx:∀ p∈L',w.heap.size≤p.1∨∃ q∈L,q.1=p.1
def Fr (w:World) (L0:OL):Nat→Prop:=fun k=>k < w.heap.size∧∀ p∈L0,p.1≠k
section
variable {N:Nat} {D:List Deferred} {w0 w w':World} {F:Nat→Prop} {G0 G G':GH} {L L' Li L0:OL} {T:List (Nat × aj)} {a:Act}
theorem Hp.owns (h:Hp w0 F G0 G (Li++L) w):ji G L w :=
 ⟨h.ro,fun p hp=>h.own p (List.mem_append_right _ hp),fun p hp=>h.vw p (List.mem_append_right _ hp),(List.pairwise_append.1 h.nd).2.1⟩
theorem Hp.change (h:Hp w0 F G0 G (Li++L) w) (hc:Change w w' G G' L L'):Hp w0 F G0 G' (Li++L') w':=by
 have hnd:=List.pairwise_append.1 h.nd
 have SE:∀ k,F k→k < w.heap.size:=fun k hk=>Nat.lt_of_lt_of_le (h.wh k hk) h.size
 have Ch:∀ p∈Li,p.1 < w.heap.size∧∀ q∈L,q.1≠p.1:=fun p hp=>⟨lt_of_heap (h.own p (List.mem_append_left _ hp)),fun q hq e=>hnd.2.2 p hp q hq e.symm⟩
 refine ⟨hc.os.trans h.os,hc.tape.trans h.tape,hc.output.trans h.output,Nat.le_trans h.size hc.size,h.wh,fun k hk=>?_,hc.owns.ro,fun k o hk=>hc.gm k o (h.gm k o hk),fun k o hk=>?_,fun p hp=>?_,fun p hp=>?_,fun p hp=>?_,?_⟩
 ·exact (hc.fr k (SE k hk) fun p hp e=>h.ug p (List.mem_append_right _ hp) (e ▸ hk)).trans (h.fr k hk)
 ·rcases hc.gx k o hk with hk|hk|⟨p,hp,rfl⟩
  ·exact h.gx k o hk
  ·exact .inr fun hf=>absurd (SE k hf) (by omega)
  ·exact .inr (h.ug p (List.mem_append_right _ hp))
 ·rcases vO.1 hp with hp|hp
  ·exact (hc.fr _ (Ch p hp).1 (Ch p hp).2).trans (h.own p (List.mem_append_left _ hp))
  ·exact hc.owns.own p hp
 ·rcases vO.1 hp with hp|hp
  ·cases hg:G' p.1 with
   | none=>rfl
   | some o =>
    rcases hc.gx _ o hg with hk|hk|⟨q,hq,e⟩
    ·rw [h.vw p (List.mem_append_left _ hp)] at hk;cases hk
    ·exact absurd (Ch p hp).1 (by omega)
    ·exact absurd e ((Ch p hp).2 q hq)
  ·exact hc.owns.sep p hp
 ·rcases vO.1 hp with hp|hp
  ·exact h.ug p (List.mem_append_left _ hp)
  ·rcases hc.lx p hp with hk|⟨q,hq,e⟩
   ·exact fun hf=>absurd (SE _ hf) (by omega)
   ·exact e ▸ h.ug q (List.mem_append_right _ hq)
 ·refine List.pairwise_append.2 ⟨hnd.1,hc.owns.nd,fun p hp q hq e=>?_⟩
  rcases hc.lx q hq with hk|⟨q',hq',e'⟩
  ·have:=(Ch p hp).1;omega
  ·exact (Ch p hp).2 q' hq' (e'.trans e.symm)
theorem Hp.acn (h:Hp w0 (Fr w0 L0) G0 G L w):Change w0 w G0 G L0 L:=by
 have hn:∀ k,¬ Fr w0 L0 k→w0.heap.size≤k∨∃ p∈L0,p.1=k:=by
  intro k hk
  by_cases hlt:k < w0.heap.size
  ·right
   apply Classical.byContradiction
   intro hno
   exact hk ⟨hlt,fun p hp e=>hno ⟨p,hp,e⟩⟩
  ·exact .inl (by omega)
 exact ⟨h.os,h.tape,h.output,h.size,fun k h1 h2=>h.fr k ⟨h1,h2⟩,h.gm,fun k o hk=>(h.gx k o hk).imp id (hn k),⟨h.ro,h.own,h.vw,h.nd⟩,fun p hp=>hn _ (h.ug p hp)⟩
theorem ji.hp (h:ji G L w):Hp w (Fr w L) G G L w :=
 ⟨rfl,rfl,rfl,dw _,fun _ hk=>hk.1,fun _ _=>rfl,h.ro,fun _ _ h=>h,fun _ _ h=>.inl h,h.own,h.sep,fun p hp hf=>hf.2 p hp rfl,h.nd⟩
theorem Change.trans {w2:World} {G2:GH} {L2:OL} (h1:Change w w' G G' L L') (h2:Change w' w2 G' G2 L' L2) (hG:Hold G w) (hL:∀ p∈L,p.1 < w.heap.size):Change w w2 G G2 L L2:=by
 refine ⟨h2.os.trans h1.os,h2.tape.trans h1.tape,h2.output.trans h1.output,Nat.le_trans h1.size h2.size,fun k hk hn=>?_,fun k o hk=>h2.gm k o (h1.gm k o hk),fun k o hk=>?_,h2.owns,fun p hp=>?_⟩
 ·refine (h2.fr k (Nat.lt_of_lt_of_le hk h1.size) fun p hp e=>?_).trans (h1.fr k hk hn)
  rcases h1.lx p hp with hk'|⟨q,hq,e'⟩
  ·omega
  ·exact hn q hq (e'.trans e)
 ·rcases h2.gx k o hk with hk|hk|⟨p,hp,rfl⟩
  ·exact h1.gx k o hk
  ·exact .inr (.inl (Nat.le_trans h1.size hk))
  ·rcases h1.lx p hp with hk'|⟨q,hq,e'⟩
   ·exact .inr (.inl hk')
   ·exact .inr (.inr ⟨q,hq,e'⟩)
 ·rcases h2.lx p hp with hk|⟨q,hq,e⟩
  ·exact .inl (Nat.le_trans h1.size hk)
  ·rcases h1.lx q hq with hk'|⟨q',hq',e'⟩
   ·exact .inl (e ▸ hk')
   ·exact .inr ⟨q',hq',e'.trans e⟩
theorem Hp.perm (h:Hp w0 F G0 G L w) (hp:L.Perm L'):Hp w0 F G0 G L' w :=
 ⟨h.os,h.tape,h.output,h.size,h.wh,h.fr,h.ro,h.gm,h.gx,fun p hq=>h.own p (hp.mem_iff.2 hq),fun p hq=>h.vw p (hp.mem_iff.2 hq),fun p hq=>h.ug p (hp.mem_iff.2 hq),(hp.pairwise_iff (fun {x y} (h:x.1≠y.1) e=>h e.symm)).1 h.nd⟩
theorem St.perm (h:St N D w0 F G0 G L T a w) (hp:L.Perm L'):St N D w0 F G0 G L' T a w:=⟨h.nI,h.get,h.tK,h.hp.perm hp⟩
def iM (w:World) (G:GH) (L:OL) (R:aj→GH→OL→Prop):Ending→World→Prop:=fun e w'=>∃ v G' L',e=.returned v∧Change w w' G G' L L'∧R v G' L'
theorem Hp.fO {R:aj→GH→OL→Prop} {v:aj} (h:Hp w0 (Fr w0 L0) G0 G L w) (hR:R v G L):iM w0 G0 L0 R (.returned v) w:=⟨v,G,L,rfl,h.acn,hR⟩
end
section steps
variable {N:Nat} {D:List Deferred} {w0:World} {F:Nat→Prop} {G0 G:GH} {L Li L0:OL} {T:List (Nat × aj)}
variable {r:Option Nat} {P:Program} {ops:Array Oper} {Q:Exit→Act→World→Prop} {rest:List Oper} {a:Act} {w:World}
variable {d:Nat} {ty:TypeId} {pos:String} {aR:Array Edge} {g:Option (Nat × Bool)}
theorem nK {f:FuncId} {caps args:List aj} {R:Ending→World→Prop} (en:∀ args w,(callFunc f args).run P w=.ok (.enter f args) w) (h:Calls P f (args++caps).toArray w R):zD P (.func (.func f) #[] caps.toArray) args w R:=by
 refine ⟨?_⟩
 have e:(do let d ← Deferred.ofValue (.func (.func f) #[] caps.toArray) args.toArray;invoke d.target d.args:Sem Next).run P w=.ok (.enter f (args++caps).toArray) w:=by
  simp [Deferred.ofValue,fD,invoke,en]
 rw [e]
 exact h
theorem uZ {x:Operand} {fv:aj} {xs:List Operand} {vs:List aj} {ts:Array TypeId} {R:aj→GH→OL→Prop} (H:St N D w0 F G0 G (Li++L) T a w) (hw:Region.wanted ⟨some d,.call { callee:=.value x,args:=xs.toArray,argTypes:=ts },ty,pos,aR,g⟩ (yielded ops a.tmps)=true)
  (hf:ev T x=some fv) (hx:evs T xs=some vs) (hc:zD P fv vs w (iM w G L R)) (hd:Nat.blt d N=true)
  (k:∀ v G' L' a' w',R v G' L'→(∀ k o,G k=some o→G' k=some o)→St N D w0 F G0 G' (Li++L') ((d,v) :: T) a' w'→WL r P ops Q rest a' w'):WL r P ops Q (⟨some d,.call { callee:=.value x,args:=xs.toArray,argTypes:=ts },ty,pos,aR,g⟩ :: rest) a w:=by
 refine Wo (nx:=_) (R:=iM w G L R) hw rfl rfl ?_ ?_
 ·have h1:=H.evs hx
  have e:(execOp a.eval ⟨some d,.call { callee:=.value x,args:=xs.toArray,argTypes:=ts },ty,pos,aR,g⟩)=(do let d ← Deferred.ofValue fv vs.toArray;invoke d.target d.args:Sem Next):=by
   simp only [execOp,resolve,H.ev hf,List.map_toArray,h1]
  rw [e]
  exact hc.go
 ·rintro e w' ⟨v,G',L',rfl,hb,hR⟩
  exact ⟨v,rfl,k v G' L' _ w' hR hb.gm (H.put hd v (H.hp.change hb))⟩
theorem gP {f:FuncId} {xs:List Operand} {vs:List aj} {ts:Array TypeId} {R:aj→GH→OL→Prop} (en:∀ args w,(callFunc f args).run P w=.ok (.enter f args) w) (H:St N D w0 F G0 G (Li++L) T a w) (hw:Region.wanted ⟨some d,.call { callee:=.value (.func f),args:=xs.toArray,argTypes:=ts },ty,pos,aR,g⟩ (yielded ops a.tmps)=true)
  (hx:evs T xs=some vs) (hc:Calls P f vs.toArray w (iM w G L R)) (hd:Nat.blt d N=true)
  (k:∀ v G' L' a' w',R v G' L'→(∀ k o,G k=some o→G' k=some o)→St N D w0 F G0 G' (Li++L') ((d,v) :: T) a' w'→WL r P ops Q rest a' w'):WL r P ops Q (⟨some d,.call { callee:=.value (.func f),args:=xs.toArray,argTypes:=ts },ty,pos,aR,g⟩ :: rest) a w:=by
 refine uZ (fv:=.func (.func f) #[] #[]) H hw rfl hx ?_ hd k
 have h:=nK (caps:=[]) (args:=vs) en (by simpa using hc)
 exact h
abbrev AP:=List aj→GH→Prop
def yu (xs:List AP) (k:Nat) (args:List aj) (g:GH):Prop:=∃ p,xs[k]?=some p∧p args g
def DZ (P:Program) (fv:aj) (Gi:GH) (xs:List AP) (J:Nat→GH→OL→Prop) (Jx:GH→OL→Prop):Prop :=
 ∀ k args G L w,yu xs k args G→(∀ b o,Gi b=some o→G b=some o)→J k G L→ji G L w →
  zD P fv args w (iM w G L fun v G' L'=>∃ b,v=.bool b∧(b=true→J (k+1) G' L')∧(b=false→Jx G' L'))
def Fz (J:Nat→GH→OL→Prop):Prop:=∀ k (G G':GH) L,(∀ b o,G b=some o→G' b=some o)→J k G L→J k G' L
def FR (J:GH→OL→Prop):Prop:=∀ (G G':GH) L,(∀ b o,G b=some o→G' b=some o)→J G L→J G' L
def Iter (P:Program) (Gi:GH) (gv:aj) (xs:List AP):Prop :=
 ∀ (J:Nat→GH→OL→Prop) (Jx:GH→OL→Prop) (fv:aj) (G:GH) (L:OL) (w:World),fv.cells=#[fv]→(∀ b o,Gi b=some o→G b=some o)→Fz J→FR Jx→J 0 G L→ji G L w→DZ P fv G xs J Jx →
  zD P gv [fv] w (iM w G L fun _ G' L'=>J xs.length G' L'∨Jx G' L')
theorem Iter.mono {Gi D6:GH} {gv:aj} {xs:List AP} (h:Iter P Gi gv xs) (hm:∀ b o,Gi b=some o→D6 b=some o):Iter P D6 gv xs :=
 fun J Jx fv G L w h0 h1=>h J Jx fv G L w h0 fun b o hb=>h1 b o (hm b o hb)
def qX:List Nat→List aj→List (Nat × aj)→List (Nat × aj)
 | p :: ps,v :: vs,T=>qX ps vs ((p,v) :: T)
 | _,_,T=>T
theorem abZ:∀ (ps:List Nat) (vs:List aj) (T:List (Nat × aj)) (tm:Array aj),tm.size=N→(∀ t v,lk T t=some v→tm[t]?=some v)→ps.all (Nat.blt · N)=true →
  ((ps.zip vs).foldl (fun t (x:Nat × aj)=>t.setIfInBounds x.1 x.2) tm).size=N∧∀ t v,lk (qX ps vs T) t=some v→((ps.zip vs).foldl (fun t (x:Nat × aj)=>t.setIfInBounds x.1 x.2) tm)[t]?=some v
 | [],_,T,tm,h1,h2,_=>⟨h1,by simpa [qX] using h2⟩
 | p :: ps,[],T,tm,h1,h2,_=>⟨h1,by simpa [qX] using h2⟩
 | p :: ps,v :: vs,T,tm,h1,h2,h3=>by
  simp only [List.all_cons,jr] at h3
  have hp:p < tm.size:=by rw [h1];exact Eq.mp Nat.blt_eq h3.1
  simp only [List.zip_cons_cons,List.foldl_cons,qX]
  refine abZ ps vs _ _ (by simpa using h1) (fun t u ht=>?_) h3.2
  rw [Array.getElem?_setIfInBounds]
  by_cases e:p=t
  ·subst e;rw [xO] at ht;simp [hp];simpa using ht
  ·rw [wK e] at ht;simp [e];exact h2 t u ht
structure Rec where
 fn:FuncId
 tmps:Array aj
 params:Array Tmp
 assign:Code
 body:Code
 defers:Nat
def Rec.at (q:Rec) (s:LoopState) (p:Option Code):Obj:=.loop { state:=s,pending:=p,fn:=q.fn,tmps:=q.tmps,params:=q.params,assign:=q.assign,body:=q.body,defers:=q.defers }
def WA (w1:World) (G:GH) (L:OL) (Jn:GH→OL→Prop) (Jx:GH→OL→Prop):Ending→World→Prop:=iM w1 G L fun v G' L'=>∃ b,v=.bool b∧(b=true→Jn G' L')∧(b=false→Jx G' L')
theorem Fe {b:Nat} {o:Obj} (o':Obj) (h:w.heap[b]?=some o):wZ b o' w (w.putObj b o') :=
 ⟨rfl,rfl,rfl,World.putObj_size,World.putObj_heap_same (lt_of_heap h),fun _ hk=>World.putObj_heap_other hk⟩
theorem XV {l:Nat} {q:Rec} {c:Code} {R:Ending→World→Prop} (H:St N D w0 F G0 G ((l,q.at .ready none) :: L) T a w)
  (k:∀ w',St N D w0 F G0 G ((l,q.at .busy none) :: L) T a w'→WP (some l) P c (roundPost P l R) a w') :
  ∃ w₂,(Instr.beginRound l).run P w=.ok () w₂∧c.wpIn (FW (some l)) 0 P (roundPost P l R) a w₂:=by
 have hl:=H.hp.own _ (jB)
 refine ⟨_,run_beginRound hl rfl,k _ (H.move ?_)⟩
 exact H.hp.upd (i:=0) rfl (Fe _ hl)
theorem JC {l:Nat} {q:Rec} {w1:World} {G1:GH} {L1:OL} {Jn Jx:GH→OL→Prop} (jump:Option Code) (H:St N D w1 (Fr w1 L1) G1 G ((l,q.at .busy none) :: L) T a w)
  (h:match jump with|none=>Jn G ((l,q.at .ready none) :: L)|some c=>Jx G ((l,q.at .done (some c)) :: L)) :
  ∃ v w',(Instr.endRound l jump).run P w=.ok v w'∧WA w1 G1 L1 Jn Jx (.returned v) w':=by
 have hl:=H.hp.own _ (jB)
 refine ⟨_,_,run_endRound jump hl,?_⟩
 cases jump with
 | none=>exact Hp.fO (H.hp.upd (i:=0) rfl (Fe _ hl)) ⟨true,rfl,fun _=>h,fun e=>by cases e⟩
 | some c=>exact Hp.fO (H.hp.upd (i:=0) rfl (Fe _ hl)) ⟨false,rfl,fun e=>(by cases e),fun _=>h⟩
def Jr (l:Nat) (q:Rec) (bk:OL) (J:GH→OL→Prop):GH→OL→Prop:=fun G L=>∃ Lu,L=(l,q.at .ready none) :: (bk++Lu)∧J G Lu
def MU (l:Nat) (q:Rec) (bk:OL) (Jx:Code→GH→OL→Prop):GH→OL→Prop:=fun G L=>∃ c Lu,L=(l,q.at .done (some c)) :: (bk++Lu)∧Jx c G Lu
def Qt (P:Program) (N:Nat) (ps:List Nat) (assign body:Code) (T:List (Nat × aj)) (G:GH) (J:Nat→GH→OL→Prop) (Jx:Code→GH→OL→Prop) (xs:List AP):Prop :=
 ∀ (l:Nat) (q:Rec) (bk:OL) (k:Nat) (args:List aj) (G1:GH) (L1:OL) (w1:World) (a1:Act),yu xs k args G1→(∀ b o,G b=some o→G1 b=some o)→J k G1 L1 →
  St N [] w1 (Fr w1 ((l,q.at .ready none) :: (bk++L1))) G1 G1 ((l,q.at .ready none) :: (bk++L1)) (qX ps args T) a1 w1 →
  WP (some l) P assign (Exit.then (fun a2 w2=>∃ w3,(Instr.beginRound l).run P w2=.ok () w3∧body.wpIn (FW (some l)) 0 P (roundPost P l (WA w1 G1 ((l,q.at .ready none) :: (bk++L1)) (Jr l q bk (J (k+1))) (MU l q bk Jx))) a2 w3) (fun _ _ _=>False)) a1 w1
theorem X4 {fn:FuncId} {tm:Array aj} {ps:List Nat} {assign body:Code} {df l:Nat} {bk:OL} {J:Nat→GH→OL→Prop} {Jx:Code→GH→OL→Prop} {xs:List AP} (h1:tm.size=N) (h2:∀ t v,lk T t=some v→tm[t]?=some v)
  (hps:ps.all (Nat.blt · N)=true) (hlen:∀ k args g,yu xs k args g→args.length=ps.length) (hr:Qt P N ps assign body T G J Jx xs) :
  DZ P (.func (.yield l) #[] #[]) G xs (fun k=>Jr l ⟨fn,tm,ps.toArray,assign,body,df⟩ bk (J k)) (MU l ⟨fn,tm,ps.toArray,assign,body,df⟩ bk Jx):=by
 intro k args G1 L1 w1 hk hm hJ ho
 obtain ⟨Lu,rfl,hJ⟩:=hJ
 have hl:=ho.own _ (jB)
 have hargs:args.toArray.size=ps.toArray.size:=by simpa using hlen k args _ hk
 have hy:=run_yield (P:=P) (args:=args.toArray) hl hargs
 have hz:(ps.toArray.zip args.toArray).foldl (fun tmps (x:Nat × aj)=>tmps.setIfInBounds x.1 x.2) tm=(ps.zip args).foldl (fun t (x:Nat × aj)=>t.setIfInBounds x.1 x.2) tm:=by
  simp [List.zip_toArray]
 obtain ⟨z1,z2⟩:=abZ ps args T tm h1 h2 hps
 refine ⟨?_⟩
 have e:(do let d ← Deferred.ofValue (.func (.yield l) #[] #[]) args.toArray;invoke d.target d.args:Sem Next).run P w1=.ok (.round l fn ((ps.zip args).foldl (fun t (x:Nat × aj)=>t.setIfInBounds x.1 x.2) tm) assign body) w1:=by
  simp only [Deferred.ofValue,pure_bind,invoke,Array.empty_append]
  rw [← hz]
  exact hy
 rw [e]
 refine roundIn_of_wpIn (F:=FW none) trivial ?_
 exact hr l _ bk k args G1 Lu w1 { tmps:=_,defers:=[] } hk hm hJ ⟨z1,z2,rfl,ho.hp⟩
theorem aei {AU:Operand} {ps:List Nat} {assign body:Code} {gf:FuncId} {caps:List aj} {xs:List AP} {Gi:GH}
  (H:St N D w0 F G0 G L T a w) (hg:ev T AU=some (.func (.func gf) #[] caps.toArray)) (en:∀ args w,(callFunc gf args).run P w=.ok (.enter gf args) w) (hit:Iter P Gi (.func (.func gf) #[] caps.toArray) xs) (hGi:∀ b o,Gi b=some o→G b=some o)
  (hps:ps.all (Nat.blt · N)=true) (hlen:∀ k args g,yu xs k args g→args.length=ps.length)
  (J:Nat→GH→OL→Prop) (Jx:Code→GH→OL→Prop) (nk:Fz J) (hJx:∀ c,FR (Jx c)) (h0:J 0 G L) (Uz:Qt P N ps assign body T G J Jx xs)
  (hdone:∀ Dk G1 L1 a1 w1,(∀ b o,G b=some o→G1 b=some o)→J xs.length G1 L1→St N ({ target:=.collected Dk,args:=#[] } :: D) w0 F G0 G1 ((Dk,.deferred (some [])) :: L1) T a1 w1→Q .normal a1 w1)
  (hstop:∀ Dk c G1 L1 a1 w1,(∀ b o,G b=some o→G1 b=some o)→Jx c G1 L1→St N ({ target:=.collected Dk,args:=#[] } :: D) w0 F G0 G1 ((Dk,.deferred (some [])) :: L1) T a1 w1→WP none P c Q a1 w1) :
  WP none P (.rangeFunc AU ps.toArray assign body) Q a w:=by
 refine wpIn_rangeFunc ?_
 intro fn _
 have hev:=H.ev hg
 let q:Rec:=⟨fn,a.tmps,ps.toArray,assign,body,w.heap.size⟩
 obtain ⟨W1,hW1⟩:∃ W1,W1=(w.alloc (.deferred (some []))).alloc (q.at .ready none):=⟨_,rfl⟩
 have H1:Hp w0 F G0 G ((w.heap.size+1,q.at .ready none) :: (w.heap.size,.deferred (some [])) :: L) W1:=by
  have:=(H.hp.alloc (.deferred (some []))).alloc (q.at .ready none)
  rw [World.size_alloc] at this
  rw [hW1];exact this
 refine ⟨w.heap.size+1,[{ target:=.collected w.heap.size,args:=#[] }],W1,{ target:=.fn (.func gf) caps.toArray,args:=#[.func (.yield (w.heap.size+1)) #[] #[]] },W1,gf,
  #[.func (.yield (w.heap.size+1)) #[] #[]]++caps.toArray,W1,by rw [hW1];exact run_enterLoop_outer fn a.tmps ps.toArray assign body,?_,fun _ _=>trivial,?_,MP none,?_⟩
 ·simp only [resolve,rangeCall,hev]
  simp [Deferred.ofValue,Act.eval]
 ·simp [invoke,en]
 ·have hcv:=hit (fun k=>Jr (w.heap.size+1) q [(w.heap.size,.deferred (some []))] (J k)) (MU (w.heap.size+1) q [(w.heap.size,.deferred (some []))] Jx) (.func (.yield (w.heap.size+1)) #[] #[]) G
   ((w.heap.size+1,q.at .ready none) :: (w.heap.size,.deferred (some [])) :: L) W1 rfl hGi (fun k G G' L hm ⟨Lu,e,h⟩=>⟨Lu,e,nk k G G' Lu hm h⟩) (fun G G' L hm ⟨c,Lu,e,h⟩=>⟨c,Lu,e,hJx c G G' Lu hm h⟩) ⟨L,rfl,h0⟩ (Hp.owns (Li:=[]) H1) (X4 H.nI H.get hps hlen Uz)
  replace hcv:=hcv.go
  have e:(do let d ← Deferred.ofValue (.func (.func gf) #[] caps.toArray) [Value.func (.yield (w.heap.size+1)) #[] #[]].toArray;invoke d.target d.args:Sem Next).run P W1=.ok (.enter gf (#[.func (.yield (w.heap.size+1)) #[] #[]]++caps.toArray)) W1:=by
   simp [Deferred.ofValue,invoke,en]
  rw [e] at hcv
  refine (QH hcv).mono ?_
  rintro e w2 ⟨v,G2,L2,rfl,hch,hJ⟩
  have H2:=Hp.change (Li:=[]) H1 hch
  rcases hJ with ⟨Lu,rfl,hJ⟩|⟨c,Lu,rfl,hJ⟩
  ·have hl:=H2.own _ (jB)
   have H3:=(H2.upd (i:=0) rfl (Fe (q.at .exhausted none) hl)).drop (CX _ _)
   exact ⟨none,_,run_endLoop hl (by simp),hdone _ G2 Lu _ _ hch.gm hJ ⟨H.nI,H.get,by simp [H.tK],H3⟩⟩
  ·have hl:=H2.own _ (jB)
   have H3:=(H2.upd (i:=0) rfl (Fe (q.at .exhausted (some c)) hl)).drop (CX _ _)
   exact ⟨some c,_,run_endLoop hl (by simp),hstop _ c G2 Lu _ _ hch.gm hJ ⟨H.nI,H.get,by simp [H.tK],H3⟩⟩
theorem xL {fn:Func} {R:Ending→World→Prop} {b:Nat} (H:St N ({ target:=.collected b,args:=#[] } :: D) w0 F G0 G L T a w) (i:Nat) (hi:L[i]?=some (b,.deferred (some [])))
  (k:∀ a' w',St N D w0 F G0 G (L.eraseIdx i) T a' w'→bodyPostM (FW none) 0 P fn R .ret a' w'):bodyPostM (FW none) 0 P fn R .ret a w∧bodyPostM (FW none) 0 P fn R .normal a w:=by
 have hb:=H.hp.own _ (nQ hi)
 have H2:=(H.hp.upd hi (Fe (.deferred none) hb)).drop (L':=L.eraseIdx i) (by
  have h1:(L.set i (b,.deferred none)).eraseIdx i=L.eraseIdx i:=by
   apply List.ext_getElem?
   intro j
   simp only [List.getElem?_eraseIdx,List.getElem?_set]
   split <;> split <;> first|rfl|omega
  rw [← h1];exact List.eraseIdx_sublist _ _)
 have hk:=k { a with defers:=D } _ ⟨H.nI,H.get,rfl,H2⟩
 have h1:LeavesInM (FW none) 0 P fn a.tmps R a.defers .returning w:=by
  rw [H.tK]
  exact ⟨by simp,.inl ⟨b,_,rfl,run_takeDeferred hb,hk⟩⟩
 exact ⟨h1,h1⟩
theorem St.giveUp {b:Nat} {o:Obj} (h:St N D w0 F G0 G L T a w) (i:Nat) (hi:L[i]?=some (b,o)):St N D w0 F G0 (G.add b o) (L.eraseIdx i) T a w:=⟨h.nI,h.get,h.tK,h.hp.giveUp i hi⟩
theorem St.Zi {b:Nat} {o:Obj} (h:St N D w0 F G0 G L T a w) (i:Nat) (hi:L[i]?=some (b,o)):G b=none:=h.hp.vw _ (nQ hi)
theorem lq {f:FuncId} {fn:Func} {c:Code} {vs:List aj} {R:Ending→World→Prop} (hf:P.funcs[f]?=some fn) (hb:fn.body=some c) (hN:fn.ntmps=N) (hle:Nat.ble vs.length N=true)
  (hT:FV 0 vs=T) (ho:ji G L w) (h:∀ a,St N [] w (Fr w L) G G L T a w→WP none P c (bodyPostM (FW none) 0 P fn R) a w):Calls P f vs.toArray w R :=
 enter hf hb hN hle hT ho.ro (fun _ hk=>hk.1) ho.own ho.sep (fun p hp hf=>hf.2 p hp rfl) ho.nd h
end steps
end
section
open Go.RowKit
inductive Dat where
 | lf (v:aj)
 | sl (sz:Nat) (rows:List (List Dat))
mutual
def aC (G:GH):Dat→aj→Prop
 | .lf u,v=>v=u∧Value.oneCell' u=true
 | .sl sz rows,v=>∃ A c,v=.slice A rows.length c∧rows.length≤c∧c≤maxLen∧(rows≠[]→∃ b o,A=some ⟨b,o,none⟩∧mU G sz b o rows)
def mU (G:GH) (sz b:Nat):Nat→List (List Dat)→Prop
 | _,[]=>True
 | o,r :: rs=>(∃ cs,cs.length=sz∧(∀ j v,cs[j]?=some v→aG G b (o+j)=some v)∧bJ G r cs)∧mU G sz b (o+sz) rs
def bJ (G:GH):List Dat→List aj→Prop
 | [],cs=>cs=[]
 | d :: ds,cs=>∃ v vs,cs=v :: vs∧aC G d v∧bJ G ds vs
end
theorem aH {G G':GH} (hm:∀ k o,G k=some o→G' k=some o) {b o:Nat} {v:aj} (h:aG G b o=some v):aG G' b o=some v:=by
 unfold aG at h ⊢
 cases hg:G b with
 | none=>rw [hg] at h;cases h
 | some ob=>rw [hg] at h;rw [hm b ob hg];exact h
mutual
theorem aC.mono {G G':GH} (hm:∀ k o,G k=some o→G' k=some o):∀ {d:Dat} {v:aj},aC G d v→aC G' d v
 | .lf u,v,h=>by simpa [aC] using h
 | .sl sz rows,v,h=>by
  simp only [aC] at h ⊢
  obtain ⟨A,c,h1,h2,h3,h4⟩:=h
  exact ⟨A,c,h1,h2,h3,fun hn=>let ⟨b,o,e,hr⟩:=h4 hn;⟨b,o,e,mU.mono hm hr⟩⟩
theorem mU.mono {G G':GH} (hm:∀ k o,G k=some o→G' k=some o) {sz b:Nat}:∀ {rows:List (List Dat)} {o:Nat},mU G sz b o rows→mU G' sz b o rows
 | [],o,_=>by simp [mU]
 | r :: rs,o,h=>by
  simp only [mU] at h ⊢
  obtain ⟨⟨cs,h1,h2,h3⟩,h4⟩:=h
  exact ⟨⟨cs,h1,fun j v hj=>aH hm (h2 j v hj),bJ.mono hm h3⟩,mU.mono hm h4⟩
theorem bJ.mono {G G':GH} (hm:∀ k o,G k=some o→G' k=some o):∀ {ds:List Dat} {cs:List aj},bJ G ds cs→bJ G' ds cs
 | [],cs,h=>by simpa [bJ] using h
 | d :: ds,cs,h=>by
  simp only [bJ] at h ⊢
  obtain ⟨v,vs,h1,h2,h3⟩:=h
  exact ⟨v,vs,h1,aC.mono hm h2,bJ.mono hm h3⟩
end
theorem mU.get {G:GH} {sz b:Nat}:∀ {rows:List (List Dat)} {o k:Nat} {r:List Dat},mU G sz b o rows→rows[k]?=some r→∃ cs,cs.length=sz∧(∀ j v,cs[j]?=some v→aG G b (o+k*sz+j)=some v)∧bJ G r cs
 | [],_,_,_,_,h=>by simp at h
 | r :: rs,o,0,q,h,hk=>by
  simp only [En,oz] at hk
  subst hk
  simp only [mU] at h
  simpa using h.1
 | r :: rs,o,k+1,q,h,hk=>by
  simp only [List.getElem?_cons_succ] at hk
  simp only [mU] at h
  obtain ⟨cs,h1,h2,h3⟩:=mU.get h.2 hk
  exact ⟨cs,h1,fun j v hj=>by rw [← h2 j v hj];congr 1;rw [Nat.succ_mul];omega,h3⟩
theorem aC.slice {G:GH} {sz:Nat} {rows:List (List Dat)} {v:aj} (h:aC G (.sl sz rows) v):∃ A c,v=.slice A rows.length c∧rows.length≤c∧c≤maxLen ∧
  ∀ k r,rows[k]?=some r→∃ b o cs,A=some ⟨b,o,none⟩∧cs.length=sz∧(∀ j u,cs[j]?=some u→aG G b (o+k*sz+j)=some u)∧bJ G r cs:=by
 simp only [aC] at h
 obtain ⟨A,c,h1,h2,h3,h4⟩:=h
 refine ⟨A,c,h1,h2,h3,fun k r hk=>?_⟩
 obtain ⟨b,o,e,hr⟩:=h4 (by rintro rfl;simp at hk)
 obtain ⟨cs,g1,g2,g3⟩:=hr.get hk
 exact ⟨b,o,cs,e,g1,g2,g3⟩
theorem mU.mk {G:GH} {sz b:Nat}:∀ {rows:List (List Dat)} {o:Nat},(∀ k r,rows[k]?=some r→∃ cs,cs.length=sz∧(∀ j u,cs[j]?=some u→aG G b (o+k*sz+j)=some u)∧bJ G r cs)→mU G sz b o rows
 | [],o,_=>by simp [mU]
 | r :: rs,o,h=>by
  simp only [mU]
  refine ⟨by simpa using h 0 r rfl,mU.mk fun k q hk=>?_⟩
  obtain ⟨cs,h1,h2,h3⟩:=h (k+1) q (by simpa using hk)
  exact ⟨cs,h1,fun j v hj=>by rw [← h2 j v hj];congr 1;rw [Nat.succ_mul];omega,h3⟩
abbrev vi (n:Int):aj:=.int .i64 n
structure jL where
 key:Int
 value:Int
structure nG where
 rev:Int
 move:Int
structure mH where
 rev:Int
 key:Int
 before:Int
 had:Bool
structure zJ where
 ins:Int
 move:Int
 bV:List nG
 layers:List mH
structure jl where
 props:List jL
 marks:zJ
mutual
inductive ay where
 | mk (kind code id:Int) (text:ByteArray) (head:jl) (flow:List ay) (rows:List bH)
inductive bH where
 | mk (head:jl) (cells:List bD)
inductive bD where
 | mk (id:Int) (head:jl) (flow:List ay)
end
namespace ay
def kind:ay→Int|.mk k _ _ _ _ _ _=>k
def code:ay→Int|.mk _ c _ _ _ _ _=>c
def id:ay→Int|.mk _ _ i _ _ _ _=>i
def text:ay→ByteArray|.mk _ _ _ t _ _ _=>t
def head:ay→jl|.mk _ _ _ _ h _ _=>h
def flow:ay→List ay|.mk _ _ _ _ _ f _=>f
def rows:ay→List bH|.mk _ _ _ _ _ _ r=>r
end ay
namespace bH
def head:bH→jl|.mk h _=>h
def cells:bH→List bD|.mk _ c=>c
end bH
namespace bD
def id:bD→Int|.mk i _ _=>i
def head:bD→jl|.mk _ h _=>h
def flow:bD→List ay|.mk _ _ f=>f
end bD
abbrev li (n:Int):Dat:=.lf (.int .i64 n)
def jL.dat (p:jL):List Dat:=[li p.key,li p.value]
def nG.dat (p:nG):List Dat:=[li p.rev,li p.move]
def mH.dat (p:mH):List Dat:=[li p.rev,li p.key,li p.before,.lf (.bool p.had)]
def zJ.dat (m:zJ):List Dat:=[li m.ins,li m.move,.sl 2 (m.bV.map nG.dat),.sl 4 (m.layers.map mH.dat)]
def jl.dat (h:jl):List Dat:=.sl 2 (h.props.map jL.dat) :: h.marks.dat
mutual
def ay.dat:ay→List Dat
 | .mk k c i t h f r=>li k :: li c :: li i :: .lf (.string t) :: (h.dat++[.sl 11 (II f),.sl 6 (Ky r)])
def bH.dat:bH→List Dat
 | .mk h cs=>h.dat++[.sl 7 (Kw cs)]
def bD.dat:bD→List Dat
 | .mk i h f=>li i :: (h.dat++[.sl 11 (II f)])
def II:List ay→List (List Dat)
 | []=>[]
 | x :: r=>x.dat :: II r
def Ky:List bH→List (List Dat)
 | []=>[]
 | x :: r=>x.dat :: Ky r
def Kw:List bD→List (List Dat)
 | []=>[]
 | x :: r=>x.dat :: Kw r
end
theorem QN:∀ l:List ay,II l=l.map ay.dat
 | []=>by simp [II]
 | x :: r=>by simp [II,QN r]
theorem Yj:∀ l:List bH,Ky l=l.map bH.dat
 | []=>by simp [Ky]
 | x :: r=>by simp [Ky,Yj r]
theorem Yi:∀ l:List bD,Kw l=l.map bD.dat
 | []=>by simp [Kw]
 | x :: r=>by simp [Kw,Yi r]
theorem ay.AB (x:ay):x.dat=li x.kind :: li x.code :: li x.id :: .lf (.string x.text) :: (x.head.dat++[.sl 11 (x.flow.map ay.dat),.sl 6 (x.rows.map bH.dat)]):=by
 cases x;simp [ay.dat,ay.kind,ay.code,ay.id,ay.text,ay.head,ay.flow,ay.rows,QN,Yj]
theorem bH.AB (x:bH):x.dat=x.head.dat++[.sl 7 (x.cells.map bD.dat)]:=by
 cases x;simp [bH.dat,bH.head,bH.cells,Yi]
theorem bD.AB (x:bD):x.dat=li x.id :: (x.head.dat++[.sl 11 (x.flow.map ay.dat)]):=by
 cases x;simp [bD.dat,bD.id,bD.head,bD.flow,QN]
structure qC (G:GH) (x:jl) (p d l:aj):Prop where
 props:aC G (.sl 2 (x.props.map jL.dat)) p
 bV:aC G (.sl 2 (x.marks.bV.map nG.dat)) d
 layers:aC G (.sl 4 (x.marks.layers.map mH.dat)) l
theorem qC.mono {G G':GH} (hm:∀ k o,G k=some o→G' k=some o) {x:jl} {p d l:aj} (h:qC G x p d l):qC G' x p d l:=⟨h.props.mono hm,h.bV.mono hm,h.layers.mono hm⟩
theorem aC.form {G:GH} {sz:Nat} {rows:List (List Dat)} {v:aj} (h:aC G (.sl sz rows) v):∃ A n c,v=.slice A n c:=by
 obtain ⟨A,c,h,_⟩:=h.slice
 exact ⟨A,_,c,h⟩
theorem bJ.item {G:GH} {x:ay} {cs:List aj} (h:bJ G x.dat cs):∃ pA pn pc dA dn dc lA ln lc fA fn fc rA rn rc,cs=[vi x.kind,vi x.code,vi x.id,.string x.text,.slice pA pn pc,vi x.head.marks.ins,vi x.head.marks.move,.slice dA dn dc,.slice lA ln lc,.slice fA fn fc,.slice rA rn rc] ∧
  qC G x.head (.slice pA pn pc) (.slice dA dn dc) (.slice lA ln lc)∧aC G (.sl 11 (x.flow.map ay.dat)) (.slice fA fn fc)∧aC G (.sl 6 (x.rows.map bH.dat)) (.slice rA rn rc):=by
 rw [ay.AB] at h
 simp only [jl.dat,zJ.dat,nS,kD,bJ] at h
 obtain ⟨v1,_,rfl,h1,v2,_,rfl,h2,v3,_,rfl,h3,v4,_,rfl,h4,p,_,rfl,hp,v5,_,rfl,h5,v6,_,rfl,h6,d,_,rfl,hd,l,_,rfl,hl,f,_,rfl,hf,r,_,rfl,hr,rfl⟩:=h
 obtain ⟨pA,pn,pc,rfl⟩:=hp.form
 obtain ⟨dA,dn,dc,rfl⟩:=hd.form
 obtain ⟨lA,ln,lc,rfl⟩:=hl.form
 obtain ⟨fA,fn,fc,rfl⟩:=hf.form
 obtain ⟨rA,rn,rc,rfl⟩:=hr.form
 simp only [aC] at h1 h2 h3 h4 h5 h6
 obtain ⟨rfl,-⟩:=h1;obtain ⟨rfl,-⟩:=h2;obtain ⟨rfl,-⟩:=h3;obtain ⟨rfl,-⟩:=h4;obtain ⟨rfl,-⟩:=h5;obtain ⟨rfl,-⟩:=h6
 exact ⟨pA,pn,pc,dA,dn,dc,lA,ln,lc,fA,fn,fc,rA,rn,rc,rfl,⟨hp,hd,hl⟩,hf,hr⟩
theorem bJ.row {G:GH} {x:bH} {cs:List aj} (h:bJ G x.dat cs):∃ pA pn pc dA dn dc lA ln lc cA cn cc,cs=[.slice pA pn pc,vi x.head.marks.ins,vi x.head.marks.move,.slice dA dn dc,.slice lA ln lc,.slice cA cn cc]∧qC G x.head (.slice pA pn pc) (.slice dA dn dc) (.slice lA ln lc)∧aC G (.sl 7 (x.cells.map bD.dat)) (.slice cA cn cc):=by
 rw [bH.AB] at h
 simp only [jl.dat,zJ.dat,nS,kD,bJ] at h
 obtain ⟨p,_,rfl,hp,v5,_,rfl,h5,v6,_,rfl,h6,d,_,rfl,hd,l,_,rfl,hl,f,_,rfl,hf,rfl⟩:=h
 obtain ⟨pA,pn,pc,rfl⟩:=hp.form
 obtain ⟨dA,dn,dc,rfl⟩:=hd.form
 obtain ⟨lA,ln,lc,rfl⟩:=hl.form
 obtain ⟨fA,fn,fc,rfl⟩:=hf.form
 simp only [aC] at h5 h6
 obtain ⟨rfl,-⟩:=h5;obtain ⟨rfl,-⟩:=h6
 exact ⟨pA,pn,pc,dA,dn,dc,lA,ln,lc,fA,fn,fc,rfl,⟨hp,hd,hl⟩,hf⟩
theorem bJ.cell {G:GH} {x:bD} {cs:List aj} (h:bJ G x.dat cs):∃ pA pn pc dA dn dc lA ln lc fA fn fc,cs=[vi x.id,.slice pA pn pc,vi x.head.marks.ins,vi x.head.marks.move,.slice dA dn dc,.slice lA ln lc,.slice fA fn fc]∧qC G x.head (.slice pA pn pc) (.slice dA dn dc) (.slice lA ln lc)∧aC G (.sl 11 (x.flow.map ay.dat)) (.slice fA fn fc):=by
 rw [bD.AB] at h
 simp only [jl.dat,zJ.dat,nS,kD,bJ] at h
 obtain ⟨v1,_,rfl,h1,p,_,rfl,hp,v5,_,rfl,h5,v6,_,rfl,h6,d,_,rfl,hd,l,_,rfl,hl,f,_,rfl,hf,rfl⟩:=h
 obtain ⟨pA,pn,pc,rfl⟩:=hp.form
 obtain ⟨dA,dn,dc,rfl⟩:=hd.form
 obtain ⟨lA,ln,lc,rfl⟩:=hl.form
 obtain ⟨fA,fn,fc,rfl⟩:=hf.form
 simp only [aC] at h1 h5 h6
 obtain ⟨rfl,-⟩:=h1;obtain ⟨rfl,-⟩:=h5;obtain ⟨rfl,-⟩:=h6
 exact ⟨pA,pn,pc,dA,dn,dc,lA,ln,lc,fA,fn,fc,rfl,⟨hp,hd,hl⟩,hf⟩
theorem aC.one {G:GH}:∀ {d:Dat} {v:aj},aC G d v→Value.oneCell' v=true
 | .lf u,v,h=>by simp only [aC] at h;rw [h.1];exact h.2
 | .sl sz rows,v,h=>by obtain ⟨A,n,c,rfl⟩:=h.form;rfl
theorem bJ.one {G:GH}:∀ {ds:List Dat} {cs:List aj},bJ G ds cs→cs.all Value.oneCell'=true
 | [],cs,h=>by simp only [bJ] at h;subst h;rfl
 | d :: ds,cs,h=>by
  simp only [bJ] at h
  obtain ⟨v,vs,rfl,h1,h2⟩:=h
  simp only [List.all_cons,h1.one,h2.one,Bool.and_self]
theorem bJ.length {G:GH}:∀ {ds:List Dat} {cs:List aj},bJ G ds cs→cs.length=ds.length
 | [],cs,h=>by simp only [bJ] at h;subst h;rfl
 | d :: ds,cs,h=>by
  simp only [bJ] at h
  obtain ⟨v,vs,rfl,h1,h2⟩:=h
  simp [h2.length]
theorem bJ.mkItem {G:GH} {x:ay} {p d l f r:aj} (hh:qC G x.head p d l) (hf:aC G (.sl 11 (x.flow.map ay.dat)) f) (hr:aC G (.sl 6 (x.rows.map bH.dat)) r) :
  bJ G x.dat [vi x.kind,vi x.code,vi x.id,.string x.text,p,vi x.head.marks.ins,vi x.head.marks.move,d,l,f,r]:=by
 rw [ay.AB]
 simp only [jl.dat,zJ.dat,nS,kD,bJ]
 exact ⟨_,_,rfl,by simp [aC,Value.oneCell'],_,_,rfl,by simp [aC,Value.oneCell'],_,_,rfl,by simp [aC,Value.oneCell'],_,_,rfl,by simp [aC,Value.oneCell'],_,_,rfl,hh.props,_,_,rfl,by simp [aC,Value.oneCell'],_,_,rfl,by simp [aC,Value.oneCell'],_,_,rfl,hh.bV,_,_,rfl,hh.layers,_,_,rfl,hf,_,_,rfl,hr,rfl⟩
theorem bJ.aaY {G:GH} {x:bH} {p d l c:aj} (hh:qC G x.head p d l) (hc:aC G (.sl 7 (x.cells.map bD.dat)) c) :
  bJ G x.dat [p,vi x.head.marks.ins,vi x.head.marks.move,d,l,c]:=by
 rw [bH.AB]
 simp only [jl.dat,zJ.dat,nS,kD,bJ]
 exact ⟨_,_,rfl,hh.props,_,_,rfl,by simp [aC,Value.oneCell'],_,_,rfl,by simp [aC,Value.oneCell'],_,_,rfl,hh.bV,_,_,rfl,hh.layers,_,_,rfl,hc,rfl⟩
theorem bJ.O1 {G:GH} {x:bD} {p d l f:aj} (hh:qC G x.head p d l) (hf:aC G (.sl 11 (x.flow.map ay.dat)) f) :
  bJ G x.dat [vi x.id,p,vi x.head.marks.ins,vi x.head.marks.move,d,l,f]:=by
 rw [bD.AB]
 simp only [jl.dat,zJ.dat,nS,kD,bJ]
 exact ⟨_,_,rfl,by simp [aC,Value.oneCell'],_,_,rfl,hh.props,_,_,rfl,by simp [aC,Value.oneCell'],_,_,rfl,by simp [aC,Value.oneCell'],_,_,rfl,hh.bV,_,_,rfl,hh.layers,_,_,rfl,hf,rfl⟩
mutual
def pW:Dat→Nat
 | .lf v=>(match v with|.string s=>s.size|_=>0)+1
 | .sl _ rows=>1+dZ rows
def dZ:List (List Dat)→Nat
 | []=>0
 | r :: rs=>1+cO r+dZ rs
def cO:List Dat→Nat
 | []=>0
 | d :: ds=>pW d+cO ds
end
theorem PE (a b:List (List Dat)):dZ (a++b)=dZ a+dZ b:=by
 induction a with
 | nil=>simp [dZ]
 | cons x a ih=>simp only [nS,dZ,ih];omega
theorem VY (a b:List Dat):cO (a++b)=cO a+cO b:=by
 induction a with
 | nil=>simp [cO]
 | cons x a ih=>simp only [nS,cO,ih];omega
theorem mP:∀ rows:List (List Dat),rows.length≤dZ rows
 | []=>dw _
 | r :: rs=>by have:=mP rs;simp only [kW,dZ];omega
theorem PG:∀ {rows:List (List Dat)} {k:Nat} {r:List Dat},rows[k]?=some r→cO r < dZ rows
 | [],_,_,h=>by simp at h
 | q :: rs,0,r,h=>by simp only [En,oz] at h;subst h;simp only [dZ];omega
 | q :: rs,k+1,r,h=>by have:=PG (rows:=rs) (k:=k) (r:=r) (by simpa using h);simp only [dZ];omega
abbrev bq (l:List ay):Nat:=dZ (l.map ay.dat)
abbrev eD (l:List bH):Nat:=dZ (l.map bH.dat)
abbrev iw (l:List bD):Nat:=dZ (l.map bD.dat)
abbrev oV (h:jl):Nat:=cO h.dat
theorem CK (h:jl):oV h=dZ (h.props.map jL.dat)+dZ (h.marks.bV.map nG.dat)+dZ (h.marks.layers.map mH.dat)+5:=by
 simp only [oV,jl.dat,zJ.dat,cO,pW];omega
theorem oW (x:ay):cO x.dat=x.text.size+oV x.head+bq x.flow+eD x.rows+6:=by
 rw [ay.AB];simp only [cO,pW,VY,oV,bq,eD,iw];omega
theorem uD (x:bH):cO x.dat=oV x.head+iw x.cells+1:=by
 rw [bH.AB];simp only [cO,pW,VY,oV,bq,eD,iw];omega
theorem uz (x:bD):cO x.dat=oV x.head+bq x.flow+2:=by
 rw [bD.AB];simp only [cO,pW,VY,oV,bq,eD,iw];omega
theorem adk {l:List ay} {k:Nat} (h:k < l.length):l[k].text.size+oV l[k].head+bq l[k].flow+eD l[k].rows+6 < bq l:=by
 rw [← oW];exact PG (k:=k) (by simp [h])
theorem MK {l:List bH} {k:Nat} (h:k < l.length):oV l[k].head+iw l[k].cells+1 < eD l:=by
 rw [← uD];exact PG (k:=k) (by simp [h])
theorem MI {l:List bD} {k:Nat} (h:k < l.length):oV l[k].head+bq l[k].flow+2 < iw l:=by
 rw [← uz];exact PG (k:=k) (by simp [h])
theorem Fu (l:List ay):l.length≤bq l:=by have:=mP (l.map ay.dat);simpa using this
theorem Fv (l:List bH):l.length≤eD l:=by have:=mP (l.map bH.dat);simpa using this
theorem Fq (l:List bD):l.length≤iw l:=by have:=mP (l.map bD.dat);simpa using this
theorem PI {r:List Dat}:∀ {rows:List (List Dat)},r∈rows→cO r < dZ rows
 | [],h=>by cases h
 | q :: rs,h=>by
  rcases ow.1 h with rfl|h
  ·simp only [dZ];omega
  ·have:=PI h;simp only [dZ];omega
theorem MJ {x:ay} {l:List ay} (h:x∈l):cO x.dat < bq l:=PI (List.mem_map_of_mem h)
theorem ado {x:bH} {l:List bH} (h:x∈l):cO x.dat < eD l:=PI (List.mem_map_of_mem h)
theorem adi {x:bD} {l:List bD} (h:x∈l):cO x.dat < iw l:=PI (List.mem_map_of_mem h)
end
section
open Go.RowKit
def yJ (l:List Oper) (i:Nat):List Nat:=match l[i]? with|some o=>(o.after.toList.filter (Region.binds .any)).map (·.on)|none=>[]
def fZ (l:List Oper) (i:Nat):Option Nat:=(l[i]?).bind (·.dst)
def Et (l:List Oper) (cZ:List (List Nat)):Bool :=
 (List.range l.length).all fun i=>(yJ l i).all (fun j=>Nat.blt j i) && (cZ.getD i []).all fun j=>(yJ l i).contains j || (yJ l i).any fun k=>Nat.blt k i && (cZ.getD k []).contains j
def fE (S:Nat→Bool) (i:Nat):Nat→Bool:=fun j=>if j=i then true else S j
section
variable {r:Option Nat} {P:Program} {Q:Exit→Act→World→Prop} {l:List Oper} {cZ:List (List Nat)} {a:Act} {w:World}
theorem Yc (hk:Et l cZ=true) {S:Nat→Bool} (hd:∀ i,S i=true→∀ j∈yJ l i,S j=true):∀ i,i < l.length→(∀ j∈yJ l i,S j=true)→∀ j∈cZ.getD i [],S j=true:=by
 intro i
 induction i using Nat.strongRecOn with
 | _ i ih =>
  intro hi hdi j hj
  have h1:=lU.1 hk i (vP.2 hi)
  simp only [jr,lU] at h1
  have h2:=h1.2 j hj
  simp only [Bool.or_eq_true,qb,List.any_eq_true,jr] at h2
  rcases h2 with h2|⟨k,hk1,hk2,hk3⟩
  ·exact hdi j h2
  ·have hlt:k < i:=Eq.mp Nat.blt_eq hk2
   exact ih k hlt (by omega) (hd k (hdi k hk1)) j hk3
theorem aoV {ops:Array Oper} {i:Nat} {o:Oper} {K:Act→World→Prop} (ho:ops[i]?=some o) (h:WL r P ops (fun e a' w'=>e=.normal∧K a' w') [o] a w):wpOpIn (FW r) 0 P ops Q i K a w:=by
 unfold wpOpIn
 simp only [ho]
 have h':wpListIn (FW r) 0 P ops (fun e a' w'=>e=.normal∧K a' w') [o] a w:=h
 unfold wpListIn at h'
 by_cases hw:Region.wanted o (yielded ops a.tmps)=true
 ·rw [au hw] at h' ⊢
  refine ⟨fun _ _=>trivial,?_⟩
  have h2:=h'.2
  generalize (o.semAt (FW r).round a.eval).run P w=res at h2 ⊢
  cases res with
  | ok x w1 =>
   cases x with
   | value v=>exact h2.2
   | skip=>exact h2.2
   | defer d=>exact h2.2
   | enter f args=>exact ⟨h2.1,h2.2.mono fun e w2 he=>by
     cases e with
     | returned v=>exact he.2
     | panicked ch=>exact absurd he.1 (by simp)
     | outgrown=>obtain ⟨_,_,h3,_⟩:=he;exact absurd h3 (by simp)⟩
   | row VG args=>exact ⟨h2.1,h2.2.mono fun v w2 he=>he.2⟩
   | round l f t QB b=>exact ⟨h2.1,h2.2.mono fun e w2 he=>by
     cases e with
     | returned v=>exact he.2
     | panicked ch=>exact absurd he.1 (by simp)
     | outgrown=>obtain ⟨_,_,h3,_⟩:=he;exact absurd h3 (by simp)⟩
   | _=>exact h2.elim
  | halt x w1 =>
   cases x with
   | panic v=>exact absurd h2.1 (by simp)
   | _=>exact h2.elim
 ·rw [ah hw] at h' ⊢
  exact ⟨fun _ _=>trivial,h'.2.2⟩
theorem count_set {L:List Bool}:∀ {i:Nat},L[i]?=some false→(L.set i true).count false+1=L.count false:=by
 induction L with
 | nil=>intro i h;simp at h
 | cons b L ih =>
  intro i h
  cases i with
  | zero=>simp at h;subst h;simp
  | succ i =>
   simp only [List.getElem?_cons_succ] at h
   have:=ih h
   simp only [List.set_cons_succ,List.count_cons]
   omega
theorem XW {id:Nat} (hm:P.follows .mixedOrders=true) (cZ:List (List Nat)) (hk:Et l cZ=true) (X:(Nat→Bool)→Act→World→Prop) (h0:X (fun _=>false) a w.drew)
  (hstep:∀ i o S a w,l[i]?=some o→X S a w→S i=false→(∀ j∈cZ.getD i [],S j=true)→(∀ j,j < l.length→i∈cZ.getD j []→S j=false)→WL r P l.toArray (fun e a' w'=>e=.normal∧X (fE S i) a' w') [o] a w)
  (hend:∀ S a w,(∀ i,i < l.length→S i=true)→X S a w→Q .normal a w):WP r P (.region id l.toArray true) Q a w:=by
 have key:∀ (fuel:Nat) (listed:Array Bool) (S:Nat→Bool) (a:Act) (w:World),listed.size=l.length→(∀ i,i < l.length→listed[i]?=some (S i))→listed.toList.count false≤fuel→(∀ i,i < l.length→S i=true→∀ j∈yJ l i,S j=true)→(∀ i,l.length≤i→S i=false)→X S a w →
   wpAnyIn (FW r) 0 P .any l.toArray Q fuel listed a w:=by
  intro fuel
  induction fuel with
  | zero =>
   intro listed S a w hsz hS hc hdn hbig hX
   have hall:∀ i,i < l.length→S i=true:=by
    intro i hi
    cases dP:S i with
    | true=>rfl
    | false =>
     have h1:=hS i hi
     rw [dP] at h1
     have:false∈listed.toList:=nQ (by simpa using h1)
     have:=List.count_pos_iff.2 this
     omega
   refine ⟨?_,hend S a w hall hX⟩
   apply List.eq_nil_iff_forall_not_mem.2
   intro i hi
   obtain ⟨h1,o,ho,-⟩:=mem_ready.1 hi
   have hil:i < l.length:=by simpa using (Array.getElem?_eq_some_iff.1 ho).1
   have h2:=hS i hil
   rw [hall i hil] at h2
   rw [Array.getD_eq_getD_getElem?,h2] at h1
   cases h1
  | succ fuel ih =>
   intro listed S a w hsz hS hc hdn hbig hX
   have hget:∀ i d,i < l.length→listed.getD i d=S i:=fun i d hi=>by rw [Array.getD_eq_getD_getElem?,hS i hi];rfl
   refine ⟨fun hnil=>?_,fun i hi=>?_⟩
   ·by_cases hall:∀ i,i < l.length→S i=true
    ·exact hend S a w hall hX
    ·exfalso
     have hex:∃ i,i < l.length∧S i=false:=by
      apply Classical.byContradiction
      intro hno
      apply hall
      intro i hi
      cases dP:S i with
      | true=>rfl
      | false=>exact absurd ⟨i,hi,dP⟩ hno
     obtain ⟨i,hi,dP,hmin⟩:∃ i,i < l.length∧S i=false∧∀ j,j < i→S j=true:=by
      obtain ⟨i0,hi0,hs0⟩:=hex
      clear hall
      induction i0 using Nat.strongRecOn with
      | _ i0 ihh =>
       by_cases hlt:∃ j,j < i0∧S j=false
       ·obtain ⟨j,hj,hsj⟩:=hlt
        exact ihh j hj (by omega) hsj
       ·refine ⟨i0,hi0,hs0,fun j hj=>?_⟩
        cases hSj:S j with
        | true=>rfl
        | false=>exact absurd ⟨j,hj,hSj⟩ hlt
     have hr:i∈Region.ready .any l.toArray listed:=by
      rw [mem_ready]
      refine ⟨by rw [hget i true hi,dP],l[i],by simp [hi],fun e he hb=>?_⟩
      have hk1:=lU.1 hk i (vP.2 hi)
      simp only [jr,lU] at hk1
      have hin:e.on∈yJ l i:=by
       simp only [yJ,fP hi,List.mem_map,List.mem_filter]
       exact ⟨e,⟨by simpa using he,hb⟩,rfl⟩
      have hlt:e.on < i:=Eq.mp Nat.blt_eq (hk1.1 _ hin)
      rw [hget _ _ (by omega)]
      exact hmin _ hlt
     rw [hnil] at hr
     cases hr
   ·obtain ⟨h1,o,ho,aiM⟩:=mem_ready.1 hi
    have hil:i < l.length:=by simpa using (Array.getElem?_eq_some_iff.1 ho).1
    have ho':l[i]?=some o:=by simpa using ho
    have dP:S i=false:=by rw [← hget i true hil];exact h1
    have hdi:∀ j∈yJ l i,S j=true:=by
     intro j hj
     simp only [yJ,ho',List.mem_map,List.mem_filter] at hj
     obtain ⟨e,⟨he,hb⟩,rfl⟩:=hj
     have h2:=aiM e (by simpa using he) hb
     by_cases hjl:e.on < l.length
     ·rwa [hget _ _ hjl] at h2
     ·have hk1:=lU.1 hk i (vP.2 hil)
      simp only [jr,lU] at hk1
      have hin:e.on∈yJ l i:=by
       simp only [yJ,ho',List.mem_map,List.mem_filter]
       exact ⟨e,⟨he,hb⟩,rfl⟩
      have hlt:e.on < i:=Eq.mp Nat.blt_eq (hk1.1 _ hin)
      omega
    have ZE:∀ i,S i=true→∀ j∈yJ l i,S j=true:=by
     intro k hk' j hj
     by_cases hkl:k < l.length
     ·exact hdn k hkl hk' j hj
     ·rw [hbig k (by omega)] at hk';cases hk'
    refine aoV ho ?_
    have hs:=hstep i o S a w ho' hX dP (Yc hk ZE i hil hdi) (fun j hjl hj=>by
     cases hSj:S j with
     | false=>rfl
     | true=>have:=Yc hk ZE j hjl (hdn j hjl hSj) i hj;rw [this] at dP;cases dP)
    have hmono:∀ e a' w',(e=Exit.normal∧X (fE S i) a' w')→(e=Exit.normal∧wpAnyIn (FW r) 0 P .any l.toArray Q fuel (listed.setIfInBounds i true) a' w'):=by
     rintro e a' w' ⟨he,hX'⟩
     refine ⟨he,ih _ (fE S i) a' w' (by simpa using hsz) (fun j hj=>?_) ?_ (fun j hj hSj q hq=>?_) (fun j hj=>?_) hX'⟩
     ·rw [Array.getElem?_setIfInBounds]
      unfold fE
      by_cases e:i=j
      ·subst e;simp [hsz,hil]
      ·rw [ah e,ah (Ne.symm e)];exact hS j hj
     ·have h3:listed.toList[i]?=some false:=by have:=hS i hil;rw [dP] at this;simpa using this
      have:=count_set h3
      simp only [Array.toList_setIfInBounds]
      omega
     ·unfold fE at hSj ⊢
      split
      ·rfl
      ·split at hSj
       ·rename_i e;subst e;exact hdi q hq
       ·exact hdn j hj hSj q hq
     ·unfold fE
      rw [ah (by omega)]
      exact hbig j hj
    have hs':wpListIn (FW r) 0 P l.toArray (fun e a' w'=>e=.normal∧X (fE S i) a' w') [o] a w:=hs
    show wpListIn (FW r) 0 P l.toArray _ [o] a w
    unfold wpListIn at hs' ⊢
    split
    ·rename_i hw
     rw [au hw] at hs'
     refine ⟨fun _ _=>trivial,?_⟩
     have h2:=hs'.2
     generalize (o.semAt (FW r).round a.eval).run P w=res at h2 ⊢
     cases res with
     | ok x w1 =>
      cases x with
      | value v=>exact hmono _ _ _ h2
      | skip=>exact hmono _ _ _ h2
      | defer d=>exact hmono _ _ _ h2
      | enter f args=>exact ⟨h2.1,h2.2.mono fun e w2 he=>by
        cases e with
        | returned v=>exact hmono _ _ _ he
        | panicked ch=>exact absurd he.1 (by simp)
        | outgrown=>obtain ⟨_,_,h3,_⟩:=he;exact absurd h3 (by simp)⟩
      | row VG args=>exact ⟨h2.1,h2.2.mono fun v w2 he=>hmono _ _ _ he⟩
      | round l f t QB b=>exact ⟨h2.1,h2.2.mono fun e w2 he=>by
        cases e with
        | returned v=>exact hmono _ _ _ he
        | panicked ch=>exact absurd he.1 (by simp)
        | outgrown=>obtain ⟨_,_,h3,_⟩:=he;exact absurd h3 (by simp)⟩
      | _=>exact h2.elim
     | halt x w1 =>
      cases x with
      | panic v=>exact absurd h2.1 (by simp)
      | _=>exact h2.elim
    ·rename_i hw
     rw [ah hw] at hs'
     exact ⟨fun _ _=>trivial,hmono _ _ _ hs'.2⟩
 refine wpIn_region_any hm (key _ _ (fun _=>false) a w.drew (by simp) (fun i hi=>by simp [hi]) ?_ (fun _ _ h=>by cases h) (fun _ _=>rfl) h0)
 simp
end
def full (N:Nat) (a:Act):List (Nat × aj):=(List.range N).map fun t=>(t,a.tmps.getD t undef)
theorem OV (T U:List (Nat × aj)) (t:Nat):lk (T++U) t=match lk T t with|some v=>some v|none=>lk U t:=by
 induction T with
 | nil=>rfl
 | cons p T ih =>
  obtain ⟨s,v⟩:=p
  by_cases e:s=t
  ·subst e;rw [nS,xO,xO]
  ·rw [nS,wK e,wK e,ih]
theorem aaR (f:Nat→aj):∀ (L:List Nat) (t:Nat),t∈L→lk (L.map fun t=>(t,f t)) t=some (f t)
 | [],_,h=>by cases h
 | s :: L,t,h=>by
  simp only [dV]
  by_cases e:s=t
  ·subst e;rw [xO]
  ·rw [wK e]
   exact aaR f L t ((ow.1 h).resolve_left (Ne.symm e))
theorem OW {N t:Nat} (a:Act) (h:t < N):lk (full N a) t=some (a.tmps.getD t undef):=aaR (fun t=>a.tmps.getD t undef) _ t (vP.2 h)
section
variable {N:Nat} {D:List Deferred} {w0:World} {F:Nat→Prop} {G0 G G1 G2:GH} {L L1 L2:OL} {T Xs:List (Nat × aj)}
variable {r:Option Nat} {P:Program} {Q:Exit→Act→World→Prop} {l:List Oper} {a a':Act} {w w':World}
theorem St.full (H:St N D w0 F G0 G L T a w):St N D w0 F G0 G L (T++full N a) a w:=by
 refine ⟨H.nI,fun t v ht=>?_,H.tK,H.hp⟩
 rw [OV] at ht
 cases hT:lk T t with
 | some u=>rw [hT] at ht;simp only [oz] at ht;subst ht;exact H.get t u hT
 | none =>
  rw [hT] at ht
  by_cases hlt:t < N
  ·rw [OW a hlt] at ht
   simp only [oz] at ht
   have h2:t < a.tmps.size:=by rw [H.nI];exact hlt
   rw [← ht,Array.getD_eq_getD_getElem?,Array.getElem?_eq_getElem h2]
   rfl
  ·exfalso
   have:∀ (L:List Nat),t∉L→lk (L.map fun t=>(t,a.tmps.getD t undef)) t=none:=by
    intro L
    induction L with
    | nil=>intro _;rfl
    | cons s L ih=>intro h;simp only [dV];rw [wK (fun e=>h (by simp [e])),ih (fun h'=>h (by simp [h']))]
   rw [show lk (Proofs.YthmanofbmnfemaaGreat.full N a) t=none from this _ (by simp;omega)] at ht
   cases ht
theorem St.qV (H:St N D w0 F G0 G L T a w) {t:Nat} {v:aj} (h:a.tmps[t]?=some v):St N D w0 F G0 G L ((t,v) :: T) a w :=
 ⟨H.nI,fun s u hs=>by
  by_cases e:t=s
  ·subst e;rw [xO] at hs;simp only [oz] at hs;subst hs;exact h
  ·rw [wK e] at hs;exact H.get s u hs,H.tK,H.hp⟩
def DX (N:Nat) (D:List Deferred) (w0:World) (F:Nat→Prop) (G0 G:GH) (L:OL) (T:List (Nat × aj)) (l:List Oper) (pr:Nat→aj→GH→Prop) (S:Nat→Bool) (a:Act) (w:World):Prop :=
 ∃ G1,(∀ k o,G k=some o→G1 k=some o)∧St N D w0 F G0 G1 L T a w∧∀ i d,S i=true→fZ l i=some d→∃ v,a.tmps[d]?=some v∧pr i v G1
def oJ (l:List Oper) (T:List (Nat × aj)) (i:Nat):Bool :=
 match fZ l i with|none=>true|some d=>(lk T d).isNone && (List.range l.length).all fun j=>bif Nat.beq i j then true else !(fZ l j == some d)
def afj (l:List Oper) (T:List (Nat × aj)):Bool :=
 (List.range l.length).all (oJ l T)
theorem nU {pr:Nat→aj→GH→Prop} {S:Nat→Bool} {i d:Nat} {v:aj} (hok:oJ l T i=true) (kG:∀ i v (G G':GH),(∀ k o,G k=some o→G' k=some o)→pr i v G→pr i v G') (hi:fZ l i=some d) (hdl:Nat.blt i l.length=true)
  (HT:St N D w0 F G0 G1 L T a w) (Hb:St N D w0 F G0 G1 L (Xs++full N a) a w) (hG:∀ k o,G k=some o→G1 k=some o) (hv:∀ i d,S i=true→fZ l i=some d→∃ v,a.tmps[d]?=some v∧pr i v G1)
  (hG2:∀ k o,G1 k=some o→G2 k=some o) (hp:pr i v G2) (H:St N D w0 F G0 G2 L ((d,v) :: (Xs++full N a)) a' w'):DX N D w0 F G0 G L T l pr (fE S i) a' w':=by
 have hil:i < l.length:=Eq.mp Nat.blt_eq hdl
 have hok1:=hok
 rw [oJ,hi] at hok1
 simp only [jr,Option.isNone_iff_eq_none,lU,vP] at hok1
 have hsame:∀ t,t≠d→a'.tmps[t]?=a.tmps[t]?:=by
  intro t ht
  by_cases hlt:t < N
  ·have h1:∃ u,lk (Xs++full N a) t=some u:=by
    rw [OV]
    cases lk Xs t with
    | some u=>exact ⟨u,rfl⟩
    | none=>exact ⟨_,OW a hlt⟩
   obtain ⟨u,hu⟩:=h1
   rw [Hb.get t u hu,H.get t u (by rw [wK (Ne.symm ht)];exact hu)]
  ·rw [Array.getElem?_eq_none (by rw [H.nI];omega),Array.getElem?_eq_none (by rw [Hb.nI];omega)]
 refine ⟨G2,fun k o hk=>hG2 k o (hG k o hk),⟨H.nI,fun t u ht=>?_,H.tK,H.hp⟩,fun j e hj he=>?_⟩
 ·rw [hsame t (fun e=>by rw [e,hok1.1] at ht;cases ht)]
  exact HT.get t u ht
 ·by_cases hji:j=i
  ·subst hji
   rw [hi] at he
   simp only [oz] at he
   subst he
   exact ⟨v,H.get d v (xO _ _ _),hp⟩
  ·have hSj:S j=true:=by unfold fE at hj;rwa [ah hji] at hj
   obtain ⟨u,hu1,hu2⟩:=hv j e hSj he
   have hjl:j < l.length:=by
    unfold fZ at he
    by_cases hl:j < l.length
    ·exact hl
    ·rw [List.getElem?_eq_none (by omega)] at he;cases he
   have hne:e≠d:=by
    intro e'
    subst e'
    have h2:=hok1.2 j hjl
    have hb:Nat.beq i j=false:=by
     cases h:Nat.beq i j with
     | false=>rfl
     | true=>exact absurd (Em h).symm hji
    rw [hb,he] at h2
    simp at h2
   exact ⟨u,by rw [hsame e hne];exact hu1,kG j u _ _ hG2 hu2⟩
def CG (l:List Oper) (cZ:List (List Nat)) (B:List Nat):Bool :=
 (List.range B.length).all (fun p=>match B[p]? with|none=>false|some b=>Nat.blt b l.length && (List.range l.length).all fun i=>B.contains i && !(B.take p).contains i || (cZ.getD b []).contains i) &&
 (List.range l.length).all fun i=>B.contains i || (cZ.getD i []).all fun j=>!B.contains j
def sM (l:List Oper):List Nat→List Oper
 | []=>[]
 | b :: B=>match l[b]? with|some o=>o :: sM l B|none=>sM l B
theorem wU {ops:Array Oper} {Q':Exit→Act→World→Prop} (hq:∀ e a w,Q e a w→Q' e a w):∀ {L:List Oper} {a:Act} {w:World},WL r P ops Q L a w→WL r P ops Q' L a w
 | [],a,w,h=>hq _ _ _ h
 | o :: L,a,w,h=>by
  have h':wpListIn (FW r) 0 P ops Q (o :: L) a w:=h
  show wpListIn (FW r) 0 P ops Q' (o :: L) a w
  unfold wpListIn at h' ⊢
  split
  ·rename_i hw
   rw [au hw] at h'
   refine ⟨h'.1,?_⟩
   have h2:=h'.2
   generalize (o.semAt (FW r).round a.eval).run P w=res at h2 ⊢
   cases res with
   | ok x w1 =>
    cases x with
    | value v=>exact wU hq h2
    | skip=>exact wU hq h2
    | defer d=>exact wU hq h2
    | enter f args=>exact ⟨h2.1,h2.2.mono fun e w2 he=>by
      cases e with
      | returned v=>exact wU hq he
      | panicked ch=>exact hq _ _ _ he
      | outgrown=>obtain ⟨x,y,h3⟩:=he;exact ⟨x,y,hq _ _ _ h3⟩⟩
    | row VG args=>exact ⟨h2.1,h2.2.mono fun v w2 he=>wU hq he⟩
    | round l f t QB b=>exact ⟨h2.1,h2.2.mono fun e w2 he=>by
      cases e with
      | returned v=>exact wU hq he
      | panicked ch=>exact hq _ _ _ he
      | outgrown=>obtain ⟨x,y,h3⟩:=he;exact ⟨x,y,hq _ _ _ h3⟩⟩
    | _=>exact h2.elim
   | halt x w1 =>
    cases x with
    | panic v=>exact hq _ _ _ h2
    | _=>exact h2.elim
  ·rename_i hw
   rw [ah hw] at h'
   exact ⟨h'.1,wU hq h'.2⟩
theorem adb {ops:Array Oper} {o:Oper} {L:List Oper} {K:Act→World→Prop} (hK:∀ a w,WL r P ops (fun e a w=>e=.normal∧Q .normal a w) L a w→K a w) (h:WL r P ops (fun e a w=>e=.normal∧Q .normal a w) (o :: L) a w):WL r P ops (fun e a' w'=>e=.normal∧K a' w') [o] a w:=by
 have h':wpListIn (FW r) 0 P ops (fun e a w=>e=.normal∧Q .normal a w) (o :: L) a w:=h
 show wpListIn (FW r) 0 P ops _ [o] a w
 unfold wpListIn at h' ⊢
 split
 ·rename_i hw
  rw [au hw] at h'
  refine ⟨h'.1,?_⟩
  have h2:=h'.2
  generalize (o.semAt (FW r).round a.eval).run P w=res at h2 ⊢
  cases res with
  | ok x w1 =>
   cases x with
   | value v=>exact ⟨rfl,hK _ _ h2⟩
   | skip=>exact ⟨rfl,hK _ _ h2⟩
   | defer d=>exact ⟨rfl,hK _ _ h2⟩
   | enter f args=>exact ⟨h2.1,h2.2.mono fun e w2 he=>by
     cases e with
     | returned v=>exact ⟨rfl,hK _ _ he⟩
     | panicked ch=>exact absurd he.1 (by simp)
     | outgrown=>obtain ⟨_,_,h3,_⟩:=he;exact absurd h3 (by simp)⟩
   | row VG args=>exact ⟨h2.1,h2.2.mono fun v w2 he=>⟨rfl,hK _ _ he⟩⟩
   | round l f t QB b=>exact ⟨h2.1,h2.2.mono fun e w2 he=>by
     cases e with
     | returned v=>exact ⟨rfl,hK _ _ he⟩
     | panicked ch=>exact absurd he.1 (by simp)
     | outgrown=>obtain ⟨_,_,h3,_⟩:=he;exact absurd h3 (by simp)⟩
   | _=>exact h2.elim
  | halt x w1 =>
   cases x with
   | panic v=>exact absurd h2.1 (by simp)
   | _=>exact h2.elim
 ·rename_i hw
  rw [ah hw] at h'
  exact ⟨h'.1,rfl,hK _ _ h'.2⟩
theorem aeh {id:Nat} (hm:P.follows .mixedOrders=true) (cZ:List (List Nat)) (B:List Nat) (hk:Et l cZ=true) (hB:CG l cZ B=true) (pr:Nat→aj→GH→Prop) (kG:∀ i v (G G':GH),(∀ k o,G k=some o→G' k=some o)→pr i v G→pr i v G')
  (H:St N D w0 F G0 G L T a w)
  (hstep:∀ i o S a w G1,l[i]?=some o→B.contains i=false→S i=false→(∀ j∈cZ.getD i [],S j=true)→(∀ k o,G k=some o→G1 k=some o)→St N D w0 F G0 G1 L T a w→(∀ i d,S i=true→fZ l i=some d→∃ v,a.tmps[d]?=some v∧pr i v G1) →
   WL r P l.toArray (fun e a' w'=>e=.normal∧DX N D w0 F G0 G L T l pr (fE S i) a' w') [o] a w)
  (hend:∀ a w G1,(∀ k o,G k=some o→G1 k=some o)→St N D w0 F G0 G1 L T a w→(∀ i d,B.contains i=false→fZ l i=some d→∃ v,a.tmps[d]?=some v∧pr i v G1)→WL r P l.toArray (fun e a w=>e=.normal∧Q .normal a w) (sM l B) a w):WP r P (.region id l.toArray true) Q a w:=by
 have hB1:∀ p b,B[p]?=some b→b < l.length∧∀ i,i < l.length→(B.contains i=false∨(B.take p).contains i=true)→i∈cZ.getD b []:=by
  intro p b hp
  simp only [CG,jr] at hB
  have h1:=lU.1 hB.1 p (vP.2 (lG.1 hp).1)
  rw [hp] at h1
  simp only [jr,lU,vP] at h1
  refine ⟨Eq.mp Nat.blt_eq h1.1,fun i hi hor=>?_⟩
  have h2:=h1.2 i hi
  rcases hor with h3|h3
  ·have h4:i∉B:=by simpa using h3
   simpa [h4] using h2
  ·have h4:i∈B.take p:=by simpa using h3
   simpa [h4] using h2
 have hB2:∀ i,i < l.length→B.contains i=false→∀ j∈cZ.getD i [],B.contains j=false:=by
  intro i hi hb j hj
  simp only [CG,jr] at hB
  have h1:=lU.1 hB.2 i (vP.2 hi)
  rw [hb] at h1
  simp only [Bool.false_or,lU] at h1
  simpa using h1 j hj
 refine XW hm cZ hk (fun S a w=>((∀ i,B.contains i=true→S i=false)∧DX N D w0 F G0 G L T l pr S a w) ∨
   ∃ p,(∀ i,i < l.length→B.contains i=false→S i=true)∧(∀ i,(B.take p).contains i=true→S i=true)∧(∀ q b,B[q]?=some b→p≤q→S b=false)∧WL r P l.toArray (fun e a w=>e=.normal∧Q .normal a w) (sM l (B.drop p)) a w)
  (.inl ⟨fun _ _=>rfl,G,fun _ _ h=>h,H.move H.hp.drew,fun _ _ h=>by cases h⟩) ?_ ?_
 ·intro i o S a w ho hX dP qo hdesc
  have hil:i < l.length:=(lG.1 ho).1
  by_cases hbi:B.contains i=true
  ·-- an operation of the tail: all that stands ahead of it is done
   obtain ⟨p0,hp0⟩:=List.getElem?_of_mem (by simpa using hbi:i∈B)
   have hall:∀ j,j < l.length→B.contains j=false→S j=true:=fun j hj hb=>qo j ((hB1 p0 i hp0).2 j hj (.inl hb))
   have Uq:∃ p,(∀ i,(B.take p).contains i=true→S i=true)∧(∀ q b,B[q]?=some b→p≤q→S b=false)∧WL r P l.toArray (fun e a w=>e=.normal∧Q .normal a w) (sM l (B.drop p)) a w:=by
    rcases hX with ⟨h1,G1,hG,HS,hv⟩|⟨p,_,h2,h3,h4⟩
    ·refine ⟨0,by simp,fun q b hq _=>h1 b (by simpa using nQ hq),?_⟩
     refine hend a w G1 hG HS fun j e hb he=>?_
     have hjl:j < l.length:=by
      unfold fZ at he
      by_cases hl:j < l.length
      ·exact hl
      ·rw [List.getElem?_eq_none (by omega)] at he;cases he
     exact hv j e (hall j hjl hb) he
    ·exact ⟨p,h2,h3,h4⟩
   obtain ⟨p,h2,h3,h4⟩:=Uq
   -- i is the next one
   have hpp:p≤p0:=by
    rcases Nat.lt_or_ge p0 p with hlt|hge
    ·have:(B.take p).contains i=true:=by
      simp only [qb]
      exact nQ (i:=p0) (by rw [zK,au hlt];exact hp0)
     rw [h2 i this] at dP;cases dP
    ·exact hge
   have GV:p < B.length:=by have:=(lG.1 hp0).1;omega
   have hbp:B[p]?=some B[p]:=fP GV
   have heq:B[p]=i:=by
    rcases Nat.lt_or_ge p p0 with hlt|hge
    ·exfalso
     have hin:B[p]∈cZ.getD i []:=(hB1 p0 i hp0).2 _ (hB1 p _ hbp).1 (.inr (by
      simp only [qb]
      exact nQ (i:=p) (by rw [zK,au hlt];exact hbp)))
     have:=qo _ hin
     rw [h3 p _ hbp (dw _)] at this;cases this
    ·have:p=p0:=by omega
     subst this
     rw [hbp] at hp0;simpa using hp0
   have hdrop:B.drop p=i :: B.drop (p+1):=by rw [jV GV,heq]
   have hops:sM l (B.drop p)=o :: sM l (B.drop (p+1)):=by rw [hdrop];simp [sM,ho]
   rw [hops] at h4
   refine adb (fun a' w' h5=>.inr ⟨p+1,fun j hj hb=>?_,fun j hj=>?_,fun q b hq hpq=>?_,h5⟩) h4
   ·unfold fE;split
    ·rfl
    ·exact hall j hj hb
   ·unfold fE;split
    ·rfl
    ·rename_i hne
     refine h2 j ?_
     simp only [qb] at hj ⊢
     rw [mV GV,vO] at hj
     rcases hj with hj|hj
     ·exact hj
     ·simp only [vQ] at hj;exact absurd (hj.trans heq) hne
   ·unfold fE
    rw [ah ?_]
    ·exact h3 q b hq (by omega)
    ·rintro rfl
     -- i would stand twice in B: it would come ahead of itself
     have h6:=(hB1 q b hq).2 b (hB1 q b hq).1 (.inr (by
      simp only [qb]
      exact nQ (i:=p) (by rw [zK,au (by omega)];rw [hbp,heq])))
     rw [qo _ h6] at dP;cases dP
  ·have GA:B.contains i=false:=by cases h:B.contains i with|false=>rfl|true=>exact absurd h hbi
   rcases hX with ⟨h1,G1,hG,HS,hv⟩|⟨p,h0,_,_,_⟩
   ·refine wU (fun e a' w' ⟨he,hD⟩=>⟨he,.inl ⟨fun j hj=>?_,hD⟩⟩) (hstep i o S a w G1 ho GA dP qo hG HS hv)
    unfold fE
    rw [ah (by rintro rfl;rw [GA] at hj;cases hj)]
    exact h1 j hj
   ·rw [h0 i hil GA] at dP;cases dP
 ·intro S a w hall hX
  rcases hX with ⟨h1,G1,hG,HS,hv⟩|⟨p,_,_,h3,h4⟩
  ·have hnil:B=[]:=by
    cases B with
    | nil=>rfl
    | cons b B=>have h5:=h1 b (by simp);rw [hall b (hB1 0 b rfl).1] at h5;cases h5
   subst hnil
   have h6:=hend a w G1 hG HS fun j e _ he=>by
    have hjl:j < l.length:=by
     unfold fZ at he
     by_cases hl:j < l.length
     ·exact hl
     ·rw [List.getElem?_eq_none (by omega)] at he;cases he
    exact hv j e (hall j hjl) he
   exact h6.2
  ·have hnil:B.drop p=[]:=by
    cases hd:B.drop p with
    | nil=>rfl
    | cons b B' =>
     have hb:B[p]?=some b:=by
      have:=av (fun x:List Nat=>x[0]?) hd
      simpa using this
     have h5:=h3 p b hb (dw _)
     rw [hall b (hB1 p b hb).1] at h5;cases h5
   rw [hnil] at h4
   exact h4.2
def allI (φ:Nat→Oper→Prop):Nat→List Oper→Prop
 | _,[]=>True
 | i,o :: r=>φ i o∧allI φ (i+1) r
theorem dN {φ:Nat→Oper→Prop} {i:Nat}:allI φ i []:=trivial
theorem bC {φ:Nat→Oper→Prop} {i:Nat} {o:Oper} {r:List Oper} (h:φ i o) (t:allI φ (i+1) r):allI φ i (o :: r):=⟨h,t⟩
theorem Km {φ:Nat→Oper→Prop}:∀ {l:List Oper} {s:Nat},allI φ s l→∀ i o,l[i]?=some o→φ (s+i) o
 | [],s,_,i,o,h=>by simp at h
 | x :: l,s,h,0,o,ho=>by simp at ho;subst ho;exact h.1
 | x :: l,s,h,i+1,o,ho=>by
  have:=Km h.2 i o (by simpa using ho)
  rwa [show s+1+i=s+(i+1) by omega] at this
theorem Nf {id:Nat} (hm:P.follows .mixedOrders=true) (cZ:List (List Nat)) (B:List Nat) (hk:Et l cZ=true) (hB:CG l cZ B=true) (pr:Nat→aj→GH→Prop) (kG:∀ i v (G G':GH),(∀ k o,G k=some o→G' k=some o)→pr i v G→pr i v G')
  (H:St N D w0 F G0 G L T a w)
  (hstep:allI (fun i o=>∀ S a w G1,B.contains i=false→S i=false→(∀ j∈cZ.getD i [],S j=true)→(∀ k o,G k=some o→G1 k=some o)→St N D w0 F G0 G1 L T a w→(∀ i d,S i=true→fZ l i=some d→∃ v,a.tmps[d]?=some v∧pr i v G1) →
   WL r P l.toArray (fun e a' w'=>e=.normal∧DX N D w0 F G0 G L T l pr (fE S i) a' w') [o] a w) 0 l)
  (hend:∀ a w G1,(∀ k o,G k=some o→G1 k=some o)→St N D w0 F G0 G1 L T a w→(∀ i d,B.contains i=false→fZ l i=some d→∃ v,a.tmps[d]?=some v∧pr i v G1)→WL r P l.toArray (fun e a w=>e=.normal∧Q .normal a w) (sM l B) a w):WP r P (.region id l.toArray true) Q a w :=
 aeh hm cZ B hk hB pr kG H (fun i o S a w G1 ho hb hs hc hg HS hv=>by
  have:=Km hstep i o ho
  rw [nT] at this
  exact this S a w G1 hb hs hc hg HS hv) hend
theorem aW {pr:Nat→aj→GH→Prop} {i d j t:Nat} {op:Op} {ty:TypeId} {pos:String} {aR:Array Edge} {want b:Bool} {cZ:List (List Nat)} {B:List Nat} (hok:oJ l T i=true) (kG:∀ i v (G G':GH),(∀ k o,G k=some o→G' k=some o)→pr i v G→pr i v G')
  (hi:fZ l i=some d) (hdl:Nat.blt i l.length=true) (hjd:fZ l j=some t) (hjc:(cZ.getD i []).contains j=true) (hd:Nat.blt d N=true) (hb:∀ v G,pr j v G→v=.bool b) (hbw:b=!want) (hu:∀ G,pr i undef G) :
  ∀ S a w G1,B.contains i=false→S i=false→(∀ j∈cZ.getD i [],S j=true)→(∀ k o,G k=some o→G1 k=some o)→St N D w0 F G0 G1 L T a w→(∀ i d,S i=true→fZ l i=some d→∃ v,a.tmps[d]?=some v∧pr i v G1) →
   WL r P l.toArray (fun e a' w'=>e=.normal∧DX N D w0 F G0 G L T l pr (fE S i) a' w') [⟨some d,op,ty,pos,aR,some (j,want)⟩] a w:=by
 intro S a w G1 _ _ hc hG HT hv
 obtain ⟨u,hu1,hu2⟩:=hv j t (hc j (qb.1 hjc)) hjd
 obtain rfl:=hb _ _ hu2
 have H:=(HT.qV hu1).full
 refine abK H (by unfold fZ at hjd;simpa using hjd) (show lk ((t,Value.bool b) :: (T++full N a)) t=_ by simp [lk]) hbw hd ?_
 intro a' H'
 refine aJ ⟨rfl,?_⟩
 exact nU (Xs:=(t,.bool b) :: T) hok kG hi hdl HT H hG hv (fun _ _ h=>h) (hu G1) H'
def QA (pr:Nat→aj→GH→Prop):List (Nat × Nat × aj)→Prop
 | []=>True
 | (j,_,u) :: r=>(∀ v G,pr j v G→v=u)∧QA pr r
def CF (us:List (Nat × Nat × aj)) (T:List (Nat × aj)):List (Nat × aj):=us.foldl (fun T x=>(x.2.1,x.2.2) :: T) T
theorem XD {pr:Nat→aj→GH→Prop} {S:Nat→Bool} {ds:List Nat}:∀ {us:List (Nat × Nat × aj)} {T:List (Nat × aj)},us.all (fun x=>ds.contains x.1 && (fZ l x.1 == some x.2.1))=true→QA pr us→(∀ j∈ds,S j=true)→(∀ i d,S i=true→fZ l i=some d→∃ v,a.tmps[d]?=some v∧pr i v G1)→St N D w0 F G0 G1 L T a w→St N D w0 F G0 G1 L (CF us T) a w
 | [],_,_,_,_,_,H=>H
 | (j,t,u) :: r,T,h,hu,hc,hv,H=>by
  simp only [List.all_cons,jr,beq_iff_eq] at h
  obtain ⟨v,hv1,hv2⟩:=hv j t (hc j (qb.1 h.1.1)) h.1.2
  obtain rfl:=hu.1 v _ hv2
  exact XD (us:=r) h.2 hu.2 hc hv (H.qV hv1)
theorem jZ {pr:Nat→aj→GH→Prop} {i d:Nat} {o:Oper} {cZ:List (List Nat)} {B:List Nat} (us:List (Nat × Nat × aj)) (UJ:us.all (fun x=>(cZ.getD i []).contains x.1 && (fZ l x.1 == some x.2.1))=true) (hu:QA pr us) (hok:oJ l T i=true) (kG:∀ i v (G G':GH),(∀ k o,G k=some o→G' k=some o)→pr i v G→pr i v G')
  (hi:fZ l i=some d) (hdl:Nat.blt i l.length=true)
  (k:∀ S a w G1,(∀ k o,G k=some o→G1 k=some o)→St N D w0 F G0 G1 L T a w→St N D w0 F G0 G1 L (CF us T++full N a) a w →
   (∀ {a' w' G2 v},St N D w0 F G0 G2 L ((d,v) :: (CF us T++full N a)) a' w'→(∀ k o,G1 k=some o→G2 k=some o)→pr i v G2→WL r P l.toArray (fun e a' w'=>e=.normal∧DX N D w0 F G0 G L T l pr (fE S i) a' w') [] a' w')→WL r P l.toArray (fun e a' w'=>e=.normal∧DX N D w0 F G0 G L T l pr (fE S i) a' w') [o] a w) :
  ∀ S a w G1,B.contains i=false→S i=false→(∀ j∈cZ.getD i [],S j=true)→(∀ k o,G k=some o→G1 k=some o)→St N D w0 F G0 G1 L T a w→(∀ i d,S i=true→fZ l i=some d→∃ v,a.tmps[d]?=some v∧pr i v G1) →
   WL r P l.toArray (fun e a' w'=>e=.normal∧DX N D w0 F G0 G L T l pr (fE S i) a' w') [o] a w:=by
 intro S a w G1 _ _ hc hG HT hv
 have H:=XD UJ hu hc hv HT
 exact k S a w G1 hG HT H.full fun H' hG2 hp=>aJ ⟨rfl,nU (Xs:=CF us T) hok kG hi hdl HT H.full hG hv hG2 hp H'⟩
end
end
section
open Go.RowKit
section
variable {N:Nat} {D:List Deferred} {w0:World} {F:Nat→Prop} {G0 G:GH} {L:List (Nat × Obj)} {T:List (Nat × aj)}
variable {r:Option Nat} {P:Program} {ops:Array Oper} {Q:Exit→Act→World→Prop} {rest:List Oper} {w:World}
variable {d:Nat} {ty:TypeId} {pos:String} {aR:Array Edge}
theorem kH {a:Act} {l:List Oper} (H:St N D w0 F G0 G L T a w) (k:∀ a,St N D w0 F G0 G L T a w→WL r P ops Q l a w):WL r P ops Q l a w:=k a H
theorem Rm {x:Operand} {v:aj} (h:(ev T x,Nat.blt d N)=(some v,true)) (k:∀ a',St N D w0 F G0 G L ((d,v) :: T) a' w→WL r P ops Q rest a' w) :
  ∀ a,St N D w0 F G0 G L T a w→WL r P ops Q (⟨some d,.move x,ty,pos,aR,none⟩ :: rest) a w:=fun _ H=>by
 simp only [iU] at h
 exact JH H wn h.1 h.2 k
theorem Ra {x:Operand} {v:aj} (h:(ev T x,Nat.blt d N)=(some v,true)) (k:∀ a',St N D w0 F G0 G L ((d,v) :: T) a' w→WL r P ops Q rest a' w) :
  ∀ a,St N D w0 F G0 G L T a w→WL r P ops Q (⟨some d,.assign x,ty,pos,aR,none⟩ :: rest) a w:=fun _ H=>by
 simp only [iU] at h
 exact amK H wn h.1 h.2 k
theorem Rc {op:BinOp} {x y:Operand} {t yt:TypeId} {kd:IntKind} {p q:Int} {b:Bool} (h:(ev T x,ev T y,Kr op p q,Nat.blt d N)=(some (.int kd p),some (.int kd q),some b,true)) (k:∀ a',St N D w0 F G0 G L ((d,.bool b) :: T) a' w→WL r P ops Q rest a' w) :
  ∀ a,St N D w0 F G0 G L T a w→WL r P ops Q (⟨some d,.binOp op t x y yt,ty,pos,aR,none⟩ :: rest) a w:=fun _ H=>by
 simp only [iU] at h
 exact Ml H wn h.1 h.2.1 h.2.2.1 h.2.2.2 k
theorem Rf {s:TypeId} {x:Operand} {n b o off:Nat} (hs:dJ P s n off) (h:(ev T x,Nat.blt d N)=(some (.pointer (some ⟨b,o,none⟩)),true)) (k:∀ a',St N D w0 F G0 G L ((d,.pointer (some ⟨b,o+off,none⟩)) :: T) a' w→WL r P ops Q rest a' w) :
  ∀ a,St N D w0 F G0 G L T a w→WL r P ops Q (⟨some d,.fieldAddr s x n,ty,pos,aR,none⟩ :: rest) a w:=fun _ H=>by
 simp only [iU] at h
 exact JG hs H wn h.1 h.2 k
theorem Rn {x:Operand} {t:TypeId} {b:Bool} (h:(ev T x,Nat.blt d N)=(some (.bool b),true)) (k:∀ a',St N D w0 F G0 G L ((d,.bool (!b)) :: T) a' w→WL r P ops Q rest a' w) :
  ∀ a,St N D w0 F G0 G L T a w→WL r P ops Q (⟨some d,.unOp .not t x,ty,pos,aR,none⟩ :: rest) a w:=fun _ H=>by
 simp only [iU] at h
 exact VH H wn h.1 h.2 k
theorem Rk {x:Operand} {p:Addr} (h:(ev T x,Nat.blt d N)=(some (.pointer (some p)),true)) (k:∀ a',St N D w0 F G0 G L ((d,.pointer (some p)) :: T) a' w→WL r P ops Q rest a' w) :
  ∀ a,St N D w0 F G0 G L T a w→WL r P ops Q (⟨some d,.nilCheck x,ty,pos,aR,none⟩ :: rest) a w:=fun _ H=>by
 simp only [iU] at h
 exact sO H wn h.1 h.2 k
theorem Rl {x:Operand} {t e:TypeId} {A:Option Addr} {n c:Nat} (hs:P.underlying t=some (.slice e)) (h:(ev T x,Nat.blt d N)=(some (.slice A n c),true)) (k:∀ a',St N D w0 F G0 G L ((d,.int .i64 n) :: T) a' w→WL r P ops Q rest a' w) :
  ∀ a,St N D w0 F G0 G L T a w→WL r P ops Q (⟨some d,.call { callee:=.builtin .len,args:=#[x],argTypes:=#[t] },ty,pos,aR,none⟩ :: rest) a w:=fun _ H=>by
 simp only [iU] at h
 exact abF hs H wn h.1 h.2 k
theorem Ro {t:TypeId} {sz bytes:Nat} {zero:List aj} (ht:Ty P t sz bytes zero false) (i:Nat) {x:Operand} {b o:Nat} {v:aj} {c:Array aj} {e:TypeId} {fz:Nat × Nat} (h:(ev T x,L[i]?,Nat.blt d N,c[o]?)=(some (.pointer (some ⟨b,o,none⟩)),some (b,.cells c e fz),true,some v))
  (k:∀ a',St N D w0 F G0 G L ((d,v) :: T) a' w→WL r P ops Q rest a' w) :
  ∀ a,St N D w0 F G0 G L T a w→WL r P ops Q (⟨some d,.load t x,ty,pos,aR,none⟩ :: rest) a w:=fun _ H=>by
 simp only [iU] at h
 exact zu ht H wn h.1 (H.hp.qN i h.2.1 h.2.2.2) h.2.2.1 k
theorem aT {d':Nat} {ty':TypeId} {pos':String} {adJ:Array Edge} {s:TypeId} {x:Operand} {n b o off:Nat} (hs:dJ P s n off) {t:TypeId} {sz bytes:Nat} {zero:List aj} (ht:Ty P t sz bytes zero false) (i:Nat) {v:aj} {c:Array aj} {e:TypeId} {fz:Nat × Nat}
  (h:(ev T x,Nat.blt d N)=(some (.pointer (some ⟨b,o,none⟩)),true)) (h':(L[i]?,Nat.blt d' N,c[o+off]?)=(some (b,.cells c e fz),true,some v))
  (k:∀ a',St N D w0 F G0 G L ((d',v) :: (d,.pointer (some ⟨b,o+off,none⟩)) :: T) a' w→WL r P ops Q rest a' w) :
  ∀ a,St N D w0 F G0 G L T a w→WL r P ops Q (⟨some d,.fieldAddr s x n,ty,pos,aR,none⟩ :: ⟨some d',.load t (.tmp d),ty',pos',adJ,none⟩ :: rest) a w :=
 Rf hs h (Ro ht i (by simp only [iU] at h' ⊢;exact ⟨xO ..,h'.1,h'.2.1,h'.2.2⟩) k)
theorem lv {a:Act} {fn:Func} {t:Nat} {v:aj} {R:Ending→World→Prop} (H:St N [] w0 F G0 G L T a w) (hr:fn.results=#[.tmp t]) (h:lk T t=some v) (hR:R (.returned v) w):bodyPostM (FW none) 0 P fn R .ret a w :=
 (leave1 H (rs:=[.tmp t]) hr (.cons (bB H h) .nil) hR).1
theorem St.rt {a:Act} {R:aj→GH→Prop} {v:aj} (H:St N D w0 (fun k=>k < w0.heap.size) G0 G L T a w) (hR:R v G):bY w0 G0 R (.returned v) w:=H.hp.ret hR
theorem St.ro {a:Act} (H:St N D w0 F G0 G L T a w):∀ k o,G k=some o→w.heap[k]?=some o:=H.hp.ro
theorem iJ {H:GH}:∀ k o,H k=some o→H k=some o:=fun _ _ h=>h
end
theorem eN {N:Nat} {w:World} {G:GH} {P:Program} (T:List (Nat × aj)) {f:FuncId} {fn:Func} {c:Code} {vs:List aj} {R:Ending→World→Prop} (hf:P.funcs[f]?=some fn) (hb:fn.body=some c) (hN:fn.ntmps=N) (hle:Nat.ble vs.length N=true)
  (hT:FV 0 vs=T) (hG:Hold G w) (h:∀ a,St N [] w (fun k=>k < w.heap.size) G G [] T a w→WP none P c (bodyPostM (FW none) 0 P fn R) a w):Calls P f vs.toArray w R :=
 enter hf hb hN hle hT hG (fun _ h=>h) (fun _ h=>by cases h) (fun _ h=>by cases h) (fun _ h=>by cases h) List.Pairwise.nil h
def pvW:List aj→Nat→aj→Prop
 | [],_,_=>True
 | x :: _,0,v=>v=x
 | _ :: l,i+1,v=>pvW l i v
def VA (vs:List aj) (i:Nat) (v:aj) (_:GH):Prop:=pvW vs i v
section
variable {N:Nat} {D:List Deferred} {w0:World} {F:Nat→Prop} {G0 G:GH} {L:OL} {T:List (Nat × aj)}
variable {P:Program} {l:List Oper} {r:Option Nat}
abbrev Kk (N:Nat) (D:List Deferred) (w0:World) (F:Nat→Prop) (G0 G:GH) (L:OL) (T:List (Nat × aj)) (r:Option Nat) (P:Program) (l:List Oper) (pr:Nat→aj→GH→Prop) (i d:Nat) (o:Oper) (us:List (Nat × Nat × aj)):Prop :=
 ∀ S a w G1,(∀ k o,G k=some o→G1 k=some o)→St N D w0 F G0 G1 L T a w→St N D w0 F G0 G1 L (CF us T++full N a) a w →
   (∀ {a' w' G2 v},St N D w0 F G0 G2 L ((d,v) :: (CF us T++full N a)) a' w'→(∀ k o,G1 k=some o→G2 k=some o)→pr i v G2→WL r P l.toArray (fun e a' w'=>e=.normal∧DX N D w0 F G0 G L T l pr (fE S i) a' w') [] a' w')→WL r P l.toArray (fun e a' w'=>e=.normal∧DX N D w0 F G0 G L T l pr (fE S i) a' w') [o] a w
abbrev wY (N:Nat) (D:List Deferred) (w0:World) (F:Nat→Prop) (G0 G:GH) (L:OL) (T:List (Nat × aj)) (r:Option Nat) (P:Program) (l:List Oper) (cZ:List (List Nat)) (B:List Nat) (pr:Nat→aj→GH→Prop) (i:Nat) (o:Oper):Prop :=
 ∀ S a w G1,B.contains i=false→S i=false→(∀ j∈cZ.getD i [],S j=true)→(∀ k o,G k=some o→G1 k=some o)→St N D w0 F G0 G1 L T a w→(∀ i d,S i=true→fZ l i=some d→∃ v,a.tmps[d]?=some v∧pr i v G1) →
   WL r P l.toArray (fun e a' w'=>e=.normal∧DX N D w0 F G0 G L T l pr (fE S i) a' w') [o] a w
variable {pr:Nat→aj→GH→Prop} {i d:Nat} {o:Oper} {cZ:List (List Nat)} {B:List Nat}
theorem BI (h:(fZ l i,Nat.blt i l.length)=(some d,true)) (k:Kk N D w0 F G0 G L T r P l pr i d o [])
  (hok:oJ l T i=true:=by kernel_rfl) (kG:∀ i v (G G':GH),(∀ k o,G k=some o→G' k=some o)→pr i v G→pr i v G':=by exact fun _ _ _ _ _ h=>h):wY N D w0 F G0 G L T r P l cZ B pr i o:=by
 simp only [iU] at h
 exact jZ [] rfl trivial hok kG h.1 h.2 k
theorem eF (j t:Nat) {x:aj} (h:(fZ l i,Nat.blt i l.length,[(j,t,x)].all (fun x=>(cZ.getD i []).contains x.1 && (fZ l x.1 == some x.2.1)))=(some d,true,true)) (hu:pr j=fun v _=>v=x) (k:Kk N D w0 F G0 G L T r P l pr i d o [(j,t,x)])
  (hok:oJ l T i=true:=by kernel_rfl) (kG:∀ i v (G G':GH),(∀ k o,G k=some o→G' k=some o)→pr i v G→pr i v G':=by exact fun _ _ _ _ _ h=>h):wY N D w0 F G0 G L T r P l cZ B pr i o:=by
 simp only [iU] at h
 exact jZ _ h.2.2 ⟨fun v G h=>by rw [hu] at h;exact h,aB⟩ hok kG h.1 h.2.1 k
theorem eU (j t j' t':Nat) {x x':aj} (h:(fZ l i,Nat.blt i l.length,[(j,t,x),(j',t',x')].all (fun x=>(cZ.getD i []).contains x.1 && (fZ l x.1 == some x.2.1)))=(some d,true,true)) (hu:(pr j,pr j')=(fun v _=>v=x,fun v _=>v=x')) (k:Kk N D w0 F G0 G L T r P l pr i d o [(j,t,x),(j',t',x')])
  (hok:oJ l T i=true:=by kernel_rfl) (kG:∀ i v (G G':GH),(∀ k o,G k=some o→G' k=some o)→pr i v G→pr i v G':=by exact fun _ _ _ _ _ h=>h):wY N D w0 F G0 G L T r P l cZ B pr i o:=by
 simp only [iU] at h hu
 exact jZ _ h.2.2 ⟨fun v G h=>by rw [hu.1] at h;exact h,fun v G h=>by rw [hu.2] at h;exact h,aB⟩ hok kG h.1 h.2.1 k
theorem vK (j t j' t' j2 t2:Nat) {x x' x2:aj} (h:(fZ l i,Nat.blt i l.length,[(j,t,x),(j',t',x'),(j2,t2,x2)].all (fun x=>(cZ.getD i []).contains x.1 && (fZ l x.1 == some x.2.1)))=(some d,true,true)) (hu:(pr j,pr j',pr j2)=(fun v _=>v=x,fun v _=>v=x',fun v _=>v=x2)) (k:Kk N D w0 F G0 G L T r P l pr i d o [(j,t,x),(j',t',x'),(j2,t2,x2)])
  (hok:oJ l T i=true:=by kernel_rfl) (kG:∀ i v (G G':GH),(∀ k o,G k=some o→G' k=some o)→pr i v G→pr i v G':=by exact fun _ _ _ _ _ h=>h):wY N D w0 F G0 G L T r P l cZ B pr i o:=by
 simp only [iU] at h hu
 exact jZ _ h.2.2 ⟨fun v G h=>by rw [hu.1] at h;exact h,fun v G h=>by rw [hu.2.1] at h;exact h,fun v G h=>by rw [hu.2.2] at h;exact h,aB⟩ hok kG h.1 h.2.1 k
theorem skI (j:Nat) {t:Nat} {op:Op} {ty:TypeId} {pos:String} {aR:Array Edge} {want b b':Bool} (he:b'=b) (h:(fZ l i,Nat.blt i l.length,fZ l j,(cZ.getD i []).contains j,Nat.blt d N,b,b)=(some d,true,some t,true,true,!want,b)) (hv:pr j=fun v _=>v=.bool b')
  (hok:oJ l T i=true:=by kernel_rfl) (kG:∀ i v (G G':GH),(∀ k o,G k=some o→G' k=some o)→pr i v G→pr i v G':=by exact fun _ _ _ _ _ h=>h) (hu:∀ G,pr i undef G:=by exact fun _=>rfl):wY N D w0 F G0 G L T r P l cZ B pr i ⟨some d,op,ty,pos,aR,some (j,want)⟩:=by
 simp only [iU] at h
 exact aW (b:=b) hok kG h.1 h.2.1 h.2.2.1 h.2.2.2.1 h.2.2.2.2.1 (fun v G g=>by rw [hv] at g;rw [← he];exact g) h.2.2.2.2.2.1 hu
theorem cu {X:(Nat→Bool)→Act→World→GH→Prop} {b:Bool} (h:b=true):∀ S a w G1,b=false→X S a w G1:=fun _ _ _ _ hB=>by rw [h] at hB;cases hB
theorem aI {φ:Nat→Oper→Prop} {i:Nat} {o1 o2 o3 o4:Oper} {r:List Oper} (h1:φ i o1) (h2:φ (i+1) o2) (h3:φ (i+1+1) o3) (h4:φ (i+1+1+1) o4) (t:allI φ (i+1+1+1+1) r):allI φ i (o1 :: o2 :: o3 :: o4 :: r):=⟨h1,h2,h3,h4,t⟩
end
section
variable {N:Nat} {D:List Deferred} {w0:World} {F:Nat→Prop} {G0 G:GH} {L:List (Nat × Obj)} {T:List (Nat × aj)}
variable {r:Option Nat} {P:Program} {ops:Array Oper} {Q:Exit→Act→World→Prop} {rest:List Oper} {w:World}
variable {d:Nat} {ty:TypeId} {pos:String} {aR:Array Edge} {j t:Nat} {want b:Bool}
theorem YM {x:Operand} {v:aj} (hb:b=want) (h:((ops[j]?).bind (·.dst),lk T t,ev T x,Nat.blt d N)=(some t,some (.bool b),some v,true)) (k:∀ a',St N D w0 F G0 G L ((d,v) :: T) a' w→WL r P ops Q rest a' w) :
  ∀ a,St N D w0 F G0 G L T a w→WL r P ops Q (⟨some d,.move x,ty,pos,aR,some (j,want)⟩ :: rest) a w:=fun _ H=>by
 simp only [iU] at h
 exact JH H (wg H h.1 h.2.1 hb) h.2.2.1 h.2.2.2 k
theorem YN {x:Operand} {y:TypeId} {v:Bool} (hb:b=want) (h:((ops[j]?).bind (·.dst),lk T t,ev T x,Nat.blt d N)=(some t,some (.bool b),some (.bool v),true)) (k:∀ a',St N D w0 F G0 G L ((d,.bool (!v)) :: T) a' w→WL r P ops Q rest a' w) :
  ∀ a,St N D w0 F G0 G L T a w→WL r P ops Q (⟨some d,.unOp .not y x,ty,pos,aR,some (j,want)⟩ :: rest) a w:=fun _ H=>by
 simp only [iU] at h
 exact VH H (wg H h.1 h.2.1 hb) h.2.2.1 h.2.2.2 k
theorem YC {op:BinOp} {x y:Operand} {u yt:TypeId} {kd:IntKind} {p q:Int} {c:Bool} (hb:b=want) (h:((ops[j]?).bind (·.dst),lk T t,ev T x,ev T y,Kr op p q,Nat.blt d N)=(some t,some (.bool b),some (.int kd p),some (.int kd q),some c,true)) (k:∀ a',St N D w0 F G0 G L ((d,.bool c) :: T) a' w→WL r P ops Q rest a' w) :
  ∀ a,St N D w0 F G0 G L T a w→WL r P ops Q (⟨some d,.binOp op u x y yt,ty,pos,aR,some (j,want)⟩ :: rest) a w:=fun _ H=>by
 simp only [iU] at h
 exact Ml H (wg H h.1 h.2.1 hb) h.2.2.1 h.2.2.2.1 h.2.2.2.2.1 h.2.2.2.2.2 k
theorem YF {s:TypeId} {x:Operand} {n e o off:Nat} (hs:dJ P s n off) (hb:b=want) (h:((ops[j]?).bind (·.dst),lk T t,ev T x,Nat.blt d N)=(some t,some (.bool b),some (.pointer (some ⟨e,o,none⟩)),true)) (k:∀ a',St N D w0 F G0 G L ((d,.pointer (some ⟨e,o+off,none⟩)) :: T) a' w→WL r P ops Q rest a' w) :
  ∀ a,St N D w0 F G0 G L T a w→WL r P ops Q (⟨some d,.fieldAddr s x n,ty,pos,aR,some (j,want)⟩ :: rest) a w:=fun _ H=>by
 simp only [iU] at h
 exact JG hs H (wg H h.1 h.2.1 hb) h.2.2.1 h.2.2.2 k
theorem YO {u:TypeId} {sz bytes:Nat} {zero:List aj} (ht:Ty P u sz bytes zero false) (i:Nat) {x:Operand} {e o:Nat} {v:aj} {c:Array aj} {y:TypeId} {fz:Nat × Nat} (hb:b=want) (h:((ops[j]?).bind (·.dst),lk T t,ev T x,L[i]?,Nat.blt d N,c[o]?)=(some t,some (.bool b),some (.pointer (some ⟨e,o,none⟩)),some (e,.cells c y fz),true,some v))
  (k:∀ a',St N D w0 F G0 G L ((d,v) :: T) a' w→WL r P ops Q rest a' w) :
  ∀ a,St N D w0 F G0 G L T a w→WL r P ops Q (⟨some d,.load u x,ty,pos,aR,some (j,want)⟩ :: rest) a w:=fun _ H=>by
 simp only [iU] at h
 exact zu ht H (wg H h.1 h.2.1 hb) h.2.2.1 (H.hp.qN i h.2.2.2.1 h.2.2.2.2.2) h.2.2.2.2.1 k
theorem YR {u:TypeId} {sz bytes:Nat} {zero:List aj} (ht:Ty P u sz bytes zero false) {x:Operand} {e o:Nat} {v:aj} (hb:b=want) (h:((ops[j]?).bind (·.dst),lk T t,ev T x,Nat.blt d N)=(some t,some (.bool b),some (.pointer (some ⟨e,o,none⟩)),true)) (hv:aG G e o=some v)
  (k:∀ a',St N D w0 F G0 G L ((d,v) :: T) a' w→WL r P ops Q rest a' w) :
  ∀ a,St N D w0 F G0 G L T a w→WL r P ops Q (⟨some d,.load u x,ty,pos,aR,some (j,want)⟩ :: rest) a w:=fun _ H=>by
 simp only [iU] at h
 exact zu ht H (wg H h.1 h.2.1 hb) h.2.2.1 (H.hp.aG hv) h.2.2.2 k
theorem Rg {u:TypeId} {sz bytes:Nat} {zero:List aj} (ht:Ty P u sz bytes zero false) {x:Operand} {e o:Nat} {v:aj} (h:(ev T x,Nat.blt d N)=(some (.pointer (some ⟨e,o,none⟩)),true)) (hv:aG G e o=some v)
  (k:∀ a',St N D w0 F G0 G L ((d,v) :: T) a' w→WL r P ops Q rest a' w) :
  ∀ a,St N D w0 F G0 G L T a w→WL r P ops Q (⟨some d,.load u x,ty,pos,aR,none⟩ :: rest) a w:=fun _ H=>by
 simp only [iU] at h
 exact zu ht H wn h.1 (H.hp.aG hv) h.2 k
theorem YL {x:Operand} {u e:TypeId} {A:Option Addr} {n c:Nat} (hs:P.underlying u=some (.slice e)) (hb:b=want) (h:((ops[j]?).bind (·.dst),lk T t,ev T x,Nat.blt d N)=(some t,some (.bool b),some (.slice A n c),true)) (k:∀ a',St N D w0 F G0 G L ((d,.int .i64 n) :: T) a' w→WL r P ops Q rest a' w) :
  ∀ a,St N D w0 F G0 G L T a w→WL r P ops Q (⟨some d,.call { callee:=.builtin .len,args:=#[x],argTypes:=#[u] },ty,pos,aR,some (j,want)⟩ :: rest) a w:=fun _ H=>by
 simp only [iU] at h
 exact abF hs H (wg H h.1 h.2.1 hb) h.2.2.1 h.2.2.2 k
theorem Ks {op:Op} (hb:b=!want) (h:((ops[j]?).bind (·.dst),lk T t,Nat.blt d N)=(some t,some (.bool b),true)) (k:∀ a',St N D w0 F G0 G L ((d,undef) :: T) a' w→WL r P ops Q rest a' w) :
  ∀ a,St N D w0 F G0 G L T a w→WL r P ops Q (⟨some d,op,ty,pos,aR,some (j,want)⟩ :: rest) a w:=fun _ H=>by
 simp only [iU] at h
 exact abK H h.1 h.2.1 hb h.2.2 k
theorem aS {d2:Nat} {o1 o2:Op} {V8:TypeId} {pos2:String} {Qz:Array Edge} (hb:b=!want) (h:((ops[j]?).bind (·.dst),lk T t,lk ((d,undef) :: T) t,Nat.blt d N,Nat.blt d2 N)=(some t,some (.bool b),some (.bool b),true,true)) (k:∀ a',St N D w0 F G0 G L ((d2,undef) :: (d,undef) :: T) a' w→WL r P ops Q rest a' w) :
  ∀ a,St N D w0 F G0 G L T a w→WL r P ops Q (⟨some d,o1,ty,pos,aR,some (j,want)⟩ :: ⟨some d2,o2,V8,pos2,Qz,some (j,want)⟩ :: rest) a w:=by
 simp only [iU] at h
 exact Ks hb (by rw [h.1,h.2.1,h.2.2.2.1]) (Ks hb (by rw [h.1,h.2.2.1,h.2.2.2.2]) k)
theorem aZ {d2 d3:Nat} {o1 o2 o3:Op} {V8 ty3:TypeId} {pos2 alY:String} {Qz adK:Array Edge} (hb:b=!want) (h:((ops[j]?).bind (·.dst),lk T t,lk ((d,undef) :: T) t,lk ((d2,undef) :: (d,undef) :: T) t,Nat.blt d N,Nat.blt d2 N,Nat.blt d3 N)=(some t,some (.bool b),some (.bool b),some (.bool b),true,true,true)) (k:∀ a',St N D w0 F G0 G L ((d3,undef) :: (d2,undef) :: (d,undef) :: T) a' w→WL r P ops Q rest a' w) :
  ∀ a,St N D w0 F G0 G L T a w→WL r P ops Q (⟨some d,o1,ty,pos,aR,some (j,want)⟩ :: ⟨some d2,o2,V8,pos2,Qz,some (j,want)⟩ :: ⟨some d3,o3,ty3,alY,adK,some (j,want)⟩ :: rest) a w:=by
 simp only [iU] at h
 exact Ks hb (by rw [h.1,h.2.1,h.2.2.2.2.1]) (aS hb (by rw [h.1,h.2.2.1,h.2.2.2.1,h.2.2.2.2.2.1,h.2.2.2.2.2.2]) k)
theorem Ku {op:Op} (h:((ops[j]?).bind (·.dst),lk T t,Nat.blt d N)=(some t,some undef,true)) (k:∀ a',St N D w0 F G0 G L ((d,undef) :: T) a' w→WL r P ops Q rest a' w) :
  ∀ a,St N D w0 F G0 G L T a w→WL r P ops Q (⟨some d,op,ty,pos,aR,some (j,want)⟩ :: rest) a w:=fun _ H=>by
 simp only [iU] at h
 exact amU H h.1 h.2.1 h.2.2 k
theorem Pt {c x y:Operand} {v:aj} (hb:b=true) (h:(ev T c,ev T x,Nat.blt d N)=(some (.bool b),some v,true)) (k:∀ a',St N D w0 F G0 G L ((d,v) :: T) a' w→WL r P ops Q rest a' w) :
  ∀ a,St N D w0 F G0 G L T a w→WL r P ops Q (⟨some d,.pick c x y,ty,pos,aR,none⟩ :: rest) a w:=fun _ H=>by
 simp only [iU] at h
 exact Mq H wn h.1 hb h.2.1 h.2.2 k
theorem Pf {c x y:Operand} {v:aj} (hb:b=false) (h:(ev T c,ev T y,Nat.blt d N)=(some (.bool b),some v,true)) (k:∀ a',St N D w0 F G0 G L ((d,v) :: T) a' w→WL r P ops Q rest a' w) :
  ∀ a,St N D w0 F G0 G L T a w→WL r P ops Q (⟨some d,.pick c x y,ty,pos,aR,none⟩ :: rest) a w:=fun _ H=>by
 simp only [iU] at h
 exact Px H wn h.1 hb h.2.1 h.2.2 k
theorem PT {c x y:Operand} {v:aj} {b':Bool} (hb:b=want) (hb':b'=true) (h:((ops[j]?).bind (·.dst),lk T t,ev T c,ev T x,Nat.blt d N)=(some t,some (.bool b),some (.bool b'),some v,true)) (k:∀ a',St N D w0 F G0 G L ((d,v) :: T) a' w→WL r P ops Q rest a' w) :
  ∀ a,St N D w0 F G0 G L T a w→WL r P ops Q (⟨some d,.pick c x y,ty,pos,aR,some (j,want)⟩ :: rest) a w:=fun _ H=>by
 simp only [iU] at h
 exact Mq H (wg H h.1 h.2.1 hb) h.2.2.1 hb' h.2.2.2.1 h.2.2.2.2 k
theorem PF {c x y:Operand} {v:aj} {b':Bool} (hb:b=want) (hb':b'=false) (h:((ops[j]?).bind (·.dst),lk T t,ev T c,ev T y,Nat.blt d N)=(some t,some (.bool b),some (.bool b'),some v,true)) (k:∀ a',St N D w0 F G0 G L ((d,v) :: T) a' w→WL r P ops Q rest a' w) :
  ∀ a,St N D w0 F G0 G L T a w→WL r P ops Q (⟨some d,.pick c x y,ty,pos,aR,some (j,want)⟩ :: rest) a w:=fun _ H=>by
 simp only [iU] at h
 exact Px H (wg H h.1 h.2.1 hb) h.2.2.1 hb' h.2.2.2.1 h.2.2.2.2 k
theorem Ri {s e:TypeId} {sz bytes:Nat} {zero:List aj} {agg:Bool} (hs:P.underlying s=some (.slice e)) (ht:Ty P e sz bytes zero agg) {x y:Operand} {q o n c:Nat} {kd:IntKind} {z:Int} {i:Nat}
  (h:(ev T x,ev T y,Nat.blt d N)=(some (.slice (some ⟨q,o,none⟩) n c),some (.int kd z),true)) (hz:z=(i:Int)) (k:∀ a',St N D w0 F G0 G L ((d,.pointer (some ⟨q,o+i*sz,none⟩)) :: T) a' w→WL r P ops Q rest a' w) (hn:i < n:=by first|assumption|omega) :
  ∀ a,St N D w0 F G0 G L T a w→WL r P ops Q (⟨some d,.indexAddr s x y,ty,pos,aR,none⟩ :: rest) a w:=fun _ H=>by
 simp only [iU] at h
 exact Pv hs ht i H wn h.1 h.2.1 hz hn h.2.2 k
theorem YI {s e:TypeId} {sz bytes:Nat} {zero:List aj} {agg:Bool} (hs:P.underlying s=some (.slice e)) (ht:Ty P e sz bytes zero agg) {x y:Operand} {q o n c:Nat} {kd:IntKind} {z:Int} {i:Nat} (hb:b=want)
  (h:((ops[j]?).bind (·.dst),lk T t,ev T x,ev T y,Nat.blt d N)=(some t,some (.bool b),some (.slice (some ⟨q,o,none⟩) n c),some (.int kd z),true)) (hz:z=(i:Int)) (k:∀ a',St N D w0 F G0 G L ((d,.pointer (some ⟨q,o+i*sz,none⟩)) :: T) a' w→WL r P ops Q rest a' w) (hn:i < n:=by first|assumption|omega) :
  ∀ a,St N D w0 F G0 G L T a w→WL r P ops Q (⟨some d,.indexAddr s x y,ty,pos,aR,some (j,want)⟩ :: rest) a w:=fun _ H=>by
 simp only [iU] at h
 exact Pv hs ht i H (wg H h.1 h.2.1 hb) h.2.2.1 h.2.2.2.1 hz hn h.2.2.2.2 k
theorem Rd {x y:Operand} {u yt:TypeId} {p q z:Int} (h:(ev T x,ev T y,p+q,Nat.blt d N)=(some (.int .i64 p),some (.int .i64 q),z,true)) (k:∀ a',St N D w0 F G0 G L ((d,.int .i64 z) :: T) a' w→WL r P ops Q rest a' w) (h1:-9223372036854775808≤z:=by omega) (h2:z < 9223372036854775808:=by omega) :
  ∀ a,St N D w0 F G0 G L T a w→WL r P ops Q (⟨some d,.binOp .add u x y yt,ty,pos,aR,none⟩ :: rest) a w:=fun _ H=>by
 simp only [iU] at h
 exact Pp z H wn h.1 h.2.1 h.2.2.1 h1 h2 h.2.2.2 k
theorem Rs {x y:Operand} {u yt:TypeId} {p q z:Int} (h:(ev T x,ev T y,p - q,Nat.blt d N)=(some (.int .i64 p),some (.int .i64 q),z,true)) (k:∀ a',St N D w0 F G0 G L ((d,.int .i64 z) :: T) a' w→WL r P ops Q rest a' w) (h1:-9223372036854775808≤z:=by omega) (h2:z < 9223372036854775808:=by omega) :
  ∀ a,St N D w0 F G0 G L T a w→WL r P ops Q (⟨some d,.binOp .sub u x y yt,ty,pos,aR,none⟩ :: rest) a w:=fun _ H=>by
 simp only [iU] at h
 exact mD z H wn h.1 h.2.1 h.2.2.1 h1 h2 h.2.2.2 k
theorem Rv {x:Operand} {u:TypeId} {s:ByteArray} (hs:P.underlying u=some .string) (h:(ev T x,Nat.blt d N)=(some (.string s),true)) (k:∀ a',St N D w0 F G0 G L ((d,.int .i64 s.size) :: T) a' w→WL r P ops Q rest a' w) :
  ∀ a,St N D w0 F G0 G L T a w→WL r P ops Q (⟨some d,.call { callee:=.builtin .len,args:=#[x],argTypes:=#[u] },ty,pos,aR,none⟩ :: rest) a w:=fun _ H=>by
 simp only [iU] at h
 exact Bu hs H wn h.1 h.2 k
theorem Kz {X:Act→World→Prop} (hK:∀ a w,X a w→WL r P ops Q [] a w) (k:∀ a,St N D w0 F G0 G L T a w→X a w):∀ a,St N D w0 F G0 G L T a w→WL r P ops Q [] a w:=fun a H=>hK a w (k a H)
theorem Kn {X:Act→World→Prop} (hK:∀ a w,X a w→Q .normal a w) (k:∀ a,St N D w0 F G0 G L T a w→X a w):∀ a,St N D w0 F G0 G L T a w→WL r P ops Q [] a w:=fun a H=>aJ (hK a w (k a H))
theorem ak {X:Act→World→Prop} {x:Operand} {v:aj} (hK:∀ a w,X a w→WL r P ops Q [] a w) (h:(ev T x,Nat.blt d N)=(some v,true)) (k:∀ a',St N D w0 F G0 G L ((d,v) :: T) a' w→X a' w):∀ a,St N D w0 F G0 G L T a w→WL r P ops Q [⟨some d,.assign x,ty,pos,aR,none⟩] a w:=Ra h (Kz hK k)
theorem aM {X:Act→World→Prop} {x:Operand} {v:aj} (hK:∀ a w,X a w→Q .normal a w) (h:(ev T x,Nat.blt d N)=(some v,true)) (k:∀ a',St N D w0 F G0 G L ((d,v) :: T) a' w→X a' w):∀ a,St N D w0 F G0 G L T a w→WL r P ops Q [⟨some d,.assign x,ty,pos,aR,none⟩] a w:=Ra h (Kn hK k)
theorem Kc {X:Act→World→Prop} (hK:∀ a w,X a w→Q .normal a w) (k:∀ a,St N D w0 F G0 G L T a w→X a w):∀ a,St N D w0 F G0 G L T a w→WP r P .skip Q a w:=fun a H=>fF (hK a w (k a H))
theorem SR {id:Nat} {l:List Oper} {y:Code} (h:∀ K:Act→World→Prop,(∀ a w,WP r P y Q a w→WL r P l.toArray (Exit.then K Q) [] a w)→∀ a,St N D w0 F G0 G L T a w→WL r P l.toArray (Exit.then K Q) l a w):∀ a,St N D w0 F G0 G L T a w→WP r P (.seq (.region id l.toArray false) y) Q a w:=fun a H=>dh fun K hK=>h K hK a H
theorem SQ {x y:Code} (h:∀ K:Act→World→Prop,(∀ a w,WP r P y Q a w→K a w)→∀ a,St N D w0 F G0 G L T a w→WP r P x (Exit.then K Q) a w):∀ a,St N D w0 F G0 G L T a w→WP r P (.seq x y) Q a w:=fun a H=>aN fun K hK=>h K hK a H
theorem SC {id:Nat} {l:List Oper} (h:∀ a,St N D w0 F G0 G L T a w→WL r P l.toArray Q l a w):∀ a,St N D w0 F G0 G L T a w→WP r P (.region id l.toArray false) Q a w:=fun a H=>qG (h a H)
theorem SB {id:Nat} {c:Code} (h:∀ a,St N D w0 F G0 G L T a w→WP r P c (Exit.inBlock id Q) a w):∀ a,St N D w0 F G0 G L T a w→WP r P (.block id c) Q a w:=fun a H=>sD (h a H)
theorem kP {a:Act} {c:Code} (H:St N D w0 F G0 G L T a w) (k:∀ a,St N D w0 F G0 G L T a w→WP r P c Q a w):WP r P c Q a w:=k a H
theorem lr {a:Act} {fn:Func} {v:aj} {R:Ending→World→Prop} (H:St N [] w0 F G0 G L T a w) (hr:fn.results=#[.tmp t]) (hQ:(lk T t,Q .ret a w)=(some v,bodyPostM (FW none) 0 P fn R .ret a w)) (hR:R (.returned v) w):WP none P .ret Q a w:=by
 simp only [iU] at hQ
 exact dG (by rw [hQ.2];exact lv H hr hQ.1 hR)
theorem dT {p:Prop} [Decidable p] (h:decide p=true):p:=oD h
theorem dF {p:Prop} [Decidable p] (h:decide p=false):¬p:=of_decide_eq_false h
end
section
variable {N:Nat} {D:List Deferred} {w0:World} {F:Nat→Prop} {G0 G:GH} {L:OL} {T:List (Nat × aj)}
variable {P:Program} {l:List Oper} {r:Option Nat} {pr:Nat→aj→GH→Prop} {i d:Nat} {o:Oper} {cZ:List (List Nat)} {B:List Nat} {v:aj}
abbrev BJ (N:Nat) (D:List Deferred) (w0:World) (F:Nat→Prop) (G0 G:GH) (L:OL) (T:List (Nat × aj)) (r:Option Nat) (P:Program) (l:List Oper) (d:Nat) (v:aj) (o:Oper) (us:List (Nat × Nat × aj)):Prop :=
 ∀ {Q:Exit→Act→World→Prop} {a:Act} {w:World} {G1:GH} (_:∀ k o,G k=some o→G1 k=some o),(∀ a',St N D w0 F G0 G1 L ((d,v) :: (CF us T++full N a)) a' w→WL r P l.toArray Q [] a' w)→∀ a',St N D w0 F G0 G1 L (CF us T++full N a) a' w→WL r P l.toArray Q [o] a' w
abbrev M0 (N:Nat) (D:List Deferred) (w0:World) (F:Nat→Prop) (G0 G:GH) (L:OL) (T:List (Nat × aj)) (r:Option Nat) (P:Program) (l:List Oper) (d:Nat) (v:aj) (o:Oper) (us:List (Nat × Nat × aj)):Prop :=
 ∀ {Q:Exit→Act→World→Prop} {a:Act} {w:World} {G1:GH},(∀ a',St N D w0 F G0 G1 L ((d,v) :: (CF us T++full N a)) a' w→WL r P l.toArray Q [] a' w)→∀ a',St N D w0 F G0 G1 L (CF us T++full N a) a' w→WL r P l.toArray Q [o] a' w
theorem BJ.k {us:List (Nat × Nat × aj)} (hv:pr i=fun u _=>u=v) (k:BJ N D w0 F G0 G L T r P l d v o us):Kk N D w0 F G0 G L T r P l pr i d o us :=
 fun _ a w G1 hG _ H fin=>k hG (fun _ H=>fin H (fun _ _ h=>h) (by rw [hv])) a H
theorem X0 (h:(fZ l i,Nat.blt i l.length,pr i)=(some d,true,fun u _=>u=v)) (k:BJ N D w0 F G0 G L T r P l d v o [])
  (hok:oJ l T i=true:=by kernel_rfl) (kG:∀ i v (G G':GH),(∀ k o,G k=some o→G' k=some o)→pr i v G→pr i v G':=by exact fun _ _ _ _ _ h=>h):wY N D w0 F G0 G L T r P l cZ B pr i o:=by
 simp only [iU] at h
 exact BI (by rw [h.1,h.2.1]) (BJ.k h.2.2 k) hok kG
theorem X1 (j t:Nat) {x:aj} (h:(fZ l i,Nat.blt i l.length,pr j,pr i,[(j,t,x)].all (fun x=>(cZ.getD i []).contains x.1 && (fZ l x.1 == some x.2.1)))=(some d,true,fun v _=>v=x,fun u _=>u=v,true)) (k:BJ N D w0 F G0 G L T r P l d v o [(j,t,x)])
  (hok:oJ l T i=true:=by kernel_rfl) (kG:∀ i v (G G':GH),(∀ k o,G k=some o→G' k=some o)→pr i v G→pr i v G':=by exact fun _ _ _ _ _ h=>h):wY N D w0 F G0 G L T r P l cZ B pr i o:=by
 simp only [iU] at h
 exact eF j t (by rw [h.1,h.2.1,h.2.2.2.2]) h.2.2.1 (BJ.k h.2.2.2.1 k) hok kG
theorem X2 (j t j' t':Nat) {x x':aj} (h:(fZ l i,Nat.blt i l.length,pr j,pr j',pr i,[(j,t,x),(j',t',x')].all (fun x=>(cZ.getD i []).contains x.1 && (fZ l x.1 == some x.2.1)))=(some d,true,fun v _=>v=x,fun v _=>v=x',fun u _=>u=v,true)) (k:BJ N D w0 F G0 G L T r P l d v o [(j,t,x),(j',t',x')])
  (hok:oJ l T i=true:=by kernel_rfl) (kG:∀ i v (G G':GH),(∀ k o,G k=some o→G' k=some o)→pr i v G→pr i v G':=by exact fun _ _ _ _ _ h=>h):wY N D w0 F G0 G L T r P l cZ B pr i o:=by
 simp only [iU] at h
 exact eU j t j' t' (by rw [h.1,h.2.1,h.2.2.2.2.2]) (by rw [h.2.2.1,h.2.2.2.1]) (BJ.k h.2.2.2.2.1 k) hok kG
theorem X3 (j t j' t' j2 t2:Nat) {x x' x2:aj} (h:(fZ l i,Nat.blt i l.length,pr j,pr j',pr j2,pr i,[(j,t,x),(j',t',x'),(j2,t2,x2)].all (fun x=>(cZ.getD i []).contains x.1 && (fZ l x.1 == some x.2.1)))=(some d,true,fun v _=>v=x,fun v _=>v=x',fun v _=>v=x2,fun u _=>u=v,true)) (k:BJ N D w0 F G0 G L T r P l d v o [(j,t,x),(j',t',x'),(j2,t2,x2)])
  (hok:oJ l T i=true:=by kernel_rfl) (kG:∀ i v (G G':GH),(∀ k o,G k=some o→G' k=some o)→pr i v G→pr i v G':=by exact fun _ _ _ _ _ h=>h):wY N D w0 F G0 G L T r P l cZ B pr i o:=by
 simp only [iU] at h
 exact vK j t j' t' j2 t2 (by rw [h.1,h.2.1,h.2.2.2.2.2.2]) (by rw [h.2.2.1,h.2.2.2.1,h.2.2.2.2.1]) (BJ.k h.2.2.2.2.2.1 k) hok kG
theorem Z0 (h:(fZ l i,Nat.blt i l.length,pr i)=(some d,true,fun u _=>u=v)) (k:M0 N D w0 F G0 G L T r P l d v o [])
  (hok:oJ l T i=true:=by kernel_rfl) (kG:∀ i v (G G':GH),(∀ k o,G k=some o→G' k=some o)→pr i v G→pr i v G':=by exact fun _ _ _ _ _ h=>h):wY N D w0 F G0 G L T r P l cZ B pr i o:=X0 h (fun _=>k) hok kG
theorem Z1 (j t:Nat) {x:aj} (h:(fZ l i,Nat.blt i l.length,pr j,pr i,[(j,t,x)].all (fun x=>(cZ.getD i []).contains x.1 && (fZ l x.1 == some x.2.1)))=(some d,true,fun v _=>v=x,fun u _=>u=v,true)) (k:M0 N D w0 F G0 G L T r P l d v o [(j,t,x)])
  (hok:oJ l T i=true:=by kernel_rfl) (kG:∀ i v (G G':GH),(∀ k o,G k=some o→G' k=some o)→pr i v G→pr i v G':=by exact fun _ _ _ _ _ h=>h):wY N D w0 F G0 G L T r P l cZ B pr i o:=X1 j t h (fun _=>k) hok kG
theorem Z2 (j t j' t':Nat) {x x':aj} (h:(fZ l i,Nat.blt i l.length,pr j,pr j',pr i,[(j,t,x),(j',t',x')].all (fun x=>(cZ.getD i []).contains x.1 && (fZ l x.1 == some x.2.1)))=(some d,true,fun v _=>v=x,fun v _=>v=x',fun u _=>u=v,true)) (k:M0 N D w0 F G0 G L T r P l d v o [(j,t,x),(j',t',x')])
  (hok:oJ l T i=true:=by kernel_rfl) (kG:∀ i v (G G':GH),(∀ k o,G k=some o→G' k=some o)→pr i v G→pr i v G':=by exact fun _ _ _ _ _ h=>h):wY N D w0 F G0 G L T r P l cZ B pr i o:=X2 j t j' t' h (fun _=>k) hok kG
theorem Z3 (j t j' t' j2 t2:Nat) {x x' x2:aj} (h:(fZ l i,Nat.blt i l.length,pr j,pr j',pr j2,pr i,[(j,t,x),(j',t',x'),(j2,t2,x2)].all (fun x=>(cZ.getD i []).contains x.1 && (fZ l x.1 == some x.2.1)))=(some d,true,fun v _=>v=x,fun v _=>v=x',fun v _=>v=x2,fun u _=>u=v,true)) (k:M0 N D w0 F G0 G L T r P l d v o [(j,t,x),(j',t',x'),(j2,t2,x2)])
  (hok:oJ l T i=true:=by kernel_rfl) (kG:∀ i v (G G':GH),(∀ k o,G k=some o→G' k=some o)→pr i v G→pr i v G':=by exact fun _ _ _ _ _ h=>h):wY N D w0 F G0 G L T r P l cZ B pr i o:=X3 j t j' t' j2 t2 h (fun _=>k) hok kG
theorem St.bg {a:Act} {w:World} {p:aj→Prop} (H:St N D w0 F G0 G L T a w) (h:∃ u,a.tmps[d]?=some u∧p u) (he:p=fun u=>u=v):St N D w0 F G0 G L ((d,v) :: T) a w:=by
 subst he
 obtain ⟨u,h1,h2⟩:=h
 exact H.qV (h2 ▸ h1)
theorem dI {a:Act} {w:World} {Q:Exit→Act→World→Prop} {id:Nat} (hm:P.follows .mixedOrders=true) (cZ:List (List Nat)) (B:List Nat) (hk:(Et l cZ && CG l cZ B)=true) (vs:List aj) (H:St N D w0 F G0 G L T a w)
  (hstep:allI (fun i o=>wY N D w0 F G0 G L T r P l cZ B (VA vs) i o) 0 l)
  (hend:∀ a w G1,(∀ k o,G k=some o→G1 k=some o)→St N D w0 F G0 G1 L T a w→(∀ i d,B.contains i=false→fZ l i=some d→∃ v,a.tmps[d]?=some v∧VA vs i v G1)→WL r P l.toArray (fun e a w=>e=.normal∧Q .normal a w) (sM l B) a w):WP r P (.region id l.toArray true) Q a w:=by
 rw [jr] at hk
 exact Nf hm cZ B hk.1 hk.2 (VA vs) (fun _ _ _ _ _ h=>h) H hstep hend
variable {w:World} {ops:Array Oper} {Q:Exit→Act→World→Prop} {b:Bool} {t:Nat} {x:Operand} {c1 c2:Code}
theorem Cd (h:ev T x=some (.bool b)) (k1:b=true→∀ a,St N D w0 F G0 G L T a w→WP r P c1 Q a w) (k2:b=false→∀ a,St N D w0 F G0 G L T a w→WP r P c2 Q a w):∀ a,St N D w0 F G0 G L T a w→WP r P (.cond x c1 c2) Q a w:=fun a H=>qF H h (fun h=>k1 h a H) (fun h=>k2 h a H)
theorem Ct (h:ev T x=some (.bool b)) (hb:b=true) (k:∀ a,St N D w0 F G0 G L T a w→WP r P c1 Q a w):∀ a,St N D w0 F G0 G L T a w→WP r P (.cond x c1 c2) Q a w:=fun a H=>Ay H h hb (k a H)
theorem Cf (h:ev T x=some (.bool b)) (hb:b=false) (k:∀ a,St N D w0 F G0 G L T a w→WP r P c2 Q a w):∀ a,St N D w0 F G0 G L T a w→WP r P (.cond x c1 c2) Q a w:=fun a H=>oh H h hb (k a H)
theorem Sp {X:Act→Prop} (t:Nat) (h:lk T t=some (.bool b)) (k1:b=true→∀ a,St N D w0 F G0 G L T a w→X a) (k2:b=false→∀ a,St N D w0 F G0 G L T a w→X a):∀ a,St N D w0 F G0 G L T a w→X a:=fun a H=>VJ H t h (fun h=>k1 h a H) (fun h=>k2 h a H)
theorem LR {fn:Func} {R:Ending→World→Prop} (hr:fn.results=#[.tmp t]) (hQ:(lk T t,Q .ret)=(some v,fun a w=>bodyPostM (FW none) 0 P fn R .ret a w)) (hR:∀ {a},St N [] w0 F G0 G L T a w→R (.returned v) w):∀ a,St N [] w0 F G0 G L T a w→WP none P .ret Q a w:=fun a H=>by
 simp only [iU] at hQ
 exact lr H hr (by rw [hQ.1,hQ.2]) (hR H)
end
def ra:Nat→Nat→List Nat
 | _,0=>[]
 | a,n+1=>a :: ra (a+1) n
theorem lca {α:Type} (a:α) (l m:List α):a :: l++m=a :: (l++m):=rfl
theorem aO {α:Type} (l:List α):[]++l=l:=rfl
theorem aF {p:Prop} [Decidable p] (h:p):decide p=true:=dQ h
theorem aP {p:Prop} [Decidable p] (h:¬p):decide p=false:=gY h
end
section
open Go.RowKit
def gQ (e sz:Nat) (v:aj) (n:Nat) (xs:List aj) (Lo:OL):Prop :=
 xs.length=n*sz∧((v=.slice none 0 0∧n=0∧Lo=[])∨∃ b cap cur,v=.slice (some ⟨b,0,none⟩) n cap∧Lo=[(b,.cells cur e (0,0))]∧n≤cap∧cap≤maxLen∧cur.size=cap*sz∧cur.toList.take (n*sz)=xs)
theorem gQ.nil {e sz:Nat}:gQ e sz (.slice none 0 0) 0 [] []:=⟨by simp,.inl ⟨rfl,rfl,rfl⟩⟩
theorem gQ.shape {e sz n:Nat} {v:aj} {xs:List aj} {Lo:OL} (h:gQ e sz v n xs Lo):∃ A c,v=.slice A n c∧n≤c∧c≤maxLen:=by
 rcases h.2 with ⟨rfl,rfl,_⟩|⟨b,cap,cur,rfl,_,h1,h2,_,_⟩
 ·exact ⟨none,0,rfl,dw _,by simp [maxLen]⟩
 ·exact ⟨_,cap,rfl,h1,h2⟩
section
variable {N:Nat} {D:List Deferred} {w0:World} {F:Nat→Prop} {G0 G:GH} {L Li Lo:OL} {T:List (Nat × aj)}
variable {r:Option Nat} {P:Program} {ops:Array Oper} {Q:Exit→Act→World→Prop} {rest:List Oper} {a:Act} {w w':World}
variable {d:Nat} {ty:TypeId} {pos:String} {aR:Array Edge} {g:Option (Nat × Bool)}
theorem gQ.owns {e sz n:Nat} {v:aj} {xs:List aj} (h:gQ e sz v n xs Lo) (H:Hp w0 F G0 G (Li++Lo) w):w.ownsRow 0 e sz v n xs:=by
 refine ⟨h.1,?_⟩
 rcases h.2 with ⟨h1,h2,_⟩|⟨b,cap,cur,h1,h2,h3,h4,h5,h6⟩
 ·exact .inl ⟨h1,h2⟩
 ·exact .inr ⟨b,cap,cur,h1,gX _,H.own (b,.cells cur e (0,0)) (by simp [h2]),h3,h4,h5,h6⟩
theorem aeF {e sz n n':Nat} {v v':aj} {xs xs':List aj} (h:gQ e sz v n xs Lo) (ho:ji G Lo w) (hown:w'.ownsRow 0 e sz v' n' xs') (hg:w.grownBy w' v.ownBlock) (hb:v'.ownBlock=v.ownBlock∨v'.ownBlock=some w.heap.size) :
  ∃ jU,gQ e sz v' n' xs' jU∧Change w w' G G Lo jU:=by
 have hrow:∀ k,v.ownBlock=some k→∃ p∈Lo,p.1=k:=by
  intro k hk
  rcases h.2 with ⟨h1,_,_⟩|⟨b,cap,cur,h1,h2,_⟩
  ·rw [h1] at hk;cases hk
  ·rw [h1] at hk;simp only [Value.ownBlock,oz] at hk;exact ⟨_,by rw [h2];exact List.mem_singleton_self _,hk⟩
 have hro:∀ k o,G k=some o→w'.heap[k]?=some o:=by
  intro k o hk
  rw [hg.block k (lt_of_heap (ho.ro k o hk)) (fun e'=>by
   obtain ⟨p,hp,e2⟩:=hrow k e'.symm
   have:=ho.sep p hp
   rw [e2,hk] at this;cases this)]
  exact ho.ro k o hk
 have hfr:∀ k,k < w.heap.size→(∀ p∈Lo,p.1≠k)→w'.heap[k]?=w.heap[k]?:=fun k hk hn=>hg.block k hk fun e'=>by
  obtain ⟨p,hp,e2⟩:=hrow k e'.symm
  exact hn p hp e2
 rcases hown.2 with ⟨h1,h2⟩|⟨b,cap,cur,h1,_,h3,h4,h5,h6,h7⟩
 ·exact ⟨[],⟨hown.1,.inl ⟨h1,h2,rfl⟩⟩,⟨hg.os,hg.tape,hg.output,hg.size,hfr,fun _ _ h=>h,fun _ _ h=>.inl h,⟨hro,fun _ h=>(by cases h),fun _ h=>(by cases h),List.Pairwise.nil⟩,fun _ h=>(by cases h)⟩⟩
 ·refine ⟨[(b,.cells cur e (0,0))],⟨hown.1,.inr ⟨b,cap,cur,h1,rfl,h4,h5,h6,h7⟩⟩,⟨hg.os,hg.tape,hg.output,hg.size,hfr,fun _ _ h=>h,fun _ _ h=>.inl h,⟨hro,fun p hp=>?_,fun p hp=>?_,by simp⟩,fun p hp=>?_⟩⟩
  ·rw [vQ.1 hp];exact h3
  ·rw [vQ.1 hp]
   cases hgb:G b with
   | none=>rfl
   | some o =>
    exfalso
    rw [h1] at hb
    rcases hb with hb|hb
    ·obtain ⟨p',hp',e2⟩:=hrow b (by rw [← hb];rfl)
     have:=ho.sep p' hp'
     rw [e2,hgb] at this;cases this
    ·simp only [Value.ownBlock,oz] at hb
     have:=lt_of_heap (ho.ro b o hgb)
     omega
  ·rw [vQ.1 hp]
   rw [h1] at hb
   rcases hb with hb|hb
   ·obtain ⟨p',hp',e2⟩:=hrow b (by rw [← hb];rfl)
    exact .inr ⟨p',hp',e2⟩
   ·simp only [Value.ownBlock,oz] at hb
    exact .inl (by simp only;omega)
theorem E8 {t e:TypeId} {sz bytes:Nat} {zero:List aj} {agg:Bool} (hs:P.underlying t=some (.slice e)) (ht:Ty P e sz bytes zero agg) (hz:Nat.beq zero.length sz=true) (hsz:Nat.blt 0 sz=true) {x y:Operand} {v:aj} {n m c b2 o2:Nat} {xs news:List aj} (H:St N D w0 F G0 G (Li++Lo) T a w)
  (hw:Region.wanted ⟨some d,.call { callee:=.builtin .append,args:=#[x,y],argTypes:=#[t,t] },ty,pos,aR,g⟩ (yielded ops a.tmps)=true) (hx:ev T x=some v) (hy:ev T y=some (.slice (some ⟨b2,o2,none⟩) m c)) (hrow:gQ e sz v n xs Lo)
  (hn:news.length=m*sz) (hc:∀ j u,news[j]?=some u→w.cell? ⟨b2,o2+j,none⟩=some u) (h1:news.all Value.oneCell'=true) (h63:n+m≤maxLen) (hb:(n+m)*bytes≤140737488355328) (hd:Nat.blt d N=true)
  (k:∀ v' jU a' w',gQ e sz v' (n+m) (xs++news) jU→St N D w0 F G0 G (Li++jU) ((d,v') :: T) a' w'→WL r P ops Q rest a' w') :
  WL r P ops Q (⟨some d,.call { callee:=.builtin .append,args:=#[x,y],argTypes:=#[t,t] },ty,pos,aR,g⟩ :: rest) a w:=by
 obtain ⟨i,z,hi,hi1,hi2,hi3,hi4⟩:=ht.parts
 obtain ⟨v',w2,hrun,r1,r2,_,r4⟩:=run_append_own_at (P:=P) w 0 t ty e i z sz bytes hs hi hi3 hi1 hi2 (by rw [hi4];simpa using Em hz) (Eq.mp Nat.blt_eq hsz) v n xs (hrow.owns H.hp) ⟨b2,o2,none⟩ m c news hn (fun j u hj=>by rw [add_lit];exact hc j u hj) (fun u hu=>lU.1 h1 u hu) h63 hb (gX _)
 obtain ⟨jU,hr,hch⟩:=aeF hrow H.hp.owns r1 r2 r4
 refine iF (v:=v') (w':=w2) hw rfl ?_ (k v' jU _ w2 hr (H.put hd v' (H.hp.change hch)))
 simp [execOp,resolve,invoke,builtin,H.ev hx,H.ev hy,fD,hrun]
theorem amJ {t e:TypeId} {sz bytes:Nat} {zero:List aj} {agg:Bool} (hs:P.underlying t=some (.slice e)) (ht:Ty P e sz bytes zero agg) {x y:Operand} {A B:Option Addr} {n c c':Nat} (H:St N D w0 F G0 G L T a w)
  (hw:Region.wanted ⟨some d,.call { callee:=.builtin .append,args:=#[x,y],argTypes:=#[t,t] },ty,pos,aR,g⟩ (yielded ops a.tmps)=true) (hx:ev T x=some (.slice A n c)) (hy:ev T y=some (.slice B 0 c')) (hnc:n≤c) (hd:Nat.blt d N=true)
  (k:∀ a',St N D w0 F G0 G L ((d,.slice A n c) :: T) a' w→WL r P ops Q rest a' w) :
  WL r P ops Q (⟨some d,.call { callee:=.builtin .append,args:=#[x,y],argTypes:=#[t,t] },ty,pos,aR,g⟩ :: rest) a w:=by
 refine iF (v:=.slice A n c) (w':=w) hw rfl ?_ (k _ (H.put hd _ H.hp))
 have h1:∀ w,(Builtin.firstCells sz 0 (.slice B 0 c')).run P w=.ok #[] w:=by intro w;cases B <;> simp [Builtin.firstCells,loadCells,loadCellsFrom]
 have hle:n+0≤c:=by omega
 cases A <;> simp [execOp,resolve,invoke,builtin,H.ev hx,H.ev hy,fD,Builtin.append_,qx hs,ht.Cx,Builtin.lenOf,hnc,h1,storeCells]
theorem amM {t e:TypeId} {sz bytes:Nat} {zero:List aj} {agg:Bool} (hs:P.underlying t=some (.slice e)) (ht:Ty P e sz bytes zero agg) (H:St N D w0 F G0 G L T a w) (hw:Region.wanted ⟨some d,.buildSlice t 0 #[],ty,pos,aR,g⟩ (yielded ops a.tmps)=true) (hd:Nat.blt d N=true)
  (k:∀ b a' w',w0.heap.size≤b→St N D w0 F G0 G ((b,.cells #[] e (0,0)) :: L) ((d,.slice (some ⟨b,0,none⟩) 0 0) :: T) a' w'→WL r P ops Q rest a' w'):WL r P ops Q (⟨some d,.buildSlice t 0 #[],ty,pos,aR,g⟩ :: rest) a w:=by
 refine iF (v:=.slice (some ⟨w.heap.size,0,none⟩) 0 0) (w':=w.alloc (.cells #[] e (0,0))) hw rfl ?_ (k _ _ _ H.hp.size (H.put hd _ (H.hp.alloc _)))
 have h0:¬ (0*sz > 2 ^ 24):=by simp
 simp [execOp,Instr.buildSlice,fD,qx hs,ht.Cx,Instr.fill,newRow,newObj,Sem.run]
 congr 2
 apply Array.eq_empty_of_size_eq_zero
 simp
theorem gQ.empty {e sz b:Nat}:gQ e sz (.slice (some ⟨b,0,none⟩) 0 0) 0 [] [(b,.cells #[] e (0,0))] :=
 ⟨by simp,.inr ⟨b,0,#[],rfl,rfl,dw _,by simp [maxLen],by simp,by simp⟩⟩
theorem vg {x:Operand} {fv:aj} {xs:List Operand} {vs:List aj} {ts:Array TypeId} {R:aj→GH→Prop} (H:St N D w0 F G0 G L T a w) (hw:Region.wanted ⟨some d,.call { callee:=.value x,args:=xs.toArray,argTypes:=ts },ty,pos,aR,g⟩ (yielded ops a.tmps)=true)
  (hf:ev T x=some fv) (hx:evs T xs=some vs) (hc:zD P fv vs w (bY w G R)) (hd:Nat.blt d N=true)
  (k:∀ v G' a' w',R v G'→(∀ k o,G k=some o→G' k=some o)→St N D w0 F G0 G' L ((d,v) :: T) a' w'→WL r P ops Q rest a' w'):WL r P ops Q (⟨some d,.call { callee:=.value x,args:=xs.toArray,argTypes:=ts },ty,pos,aR,g⟩ :: rest) a w:=by
 refine Wo (nx:=_) (R:=bY w G R) hw rfl rfl ?_ ?_
 ·have h1:=H.evs hx
  have e:(execOp a.eval ⟨some d,.call { callee:=.value x,args:=xs.toArray,argTypes:=ts },ty,pos,aR,g⟩)=(do let d ← Deferred.ofValue fv vs.toArray;invoke d.target d.args:Sem Next):=by
   simp only [execOp,resolve,H.ev hf,List.map_toArray,h1]
  rw [e]
  exact hc.go
 ·rintro e w' ⟨v,G',rfl,hb,hx,hR⟩
  exact ⟨v,rfl,k v G' _ w' hR hx.1 (H.put hd v (H.hp.XM hb hx))⟩
theorem Hp.amv {R:aj→GH→Prop} {w:World} {G:GH} {e:Ending} {w':World} (hG:Hold G w) (h:bY w G R e w'):iM w G [] (fun v G' L'=>L'=[]∧R v G') e w':=by
 obtain ⟨v,G',rfl,hb,hx,hR⟩:=h
 exact ⟨v,G',[],rfl,⟨hb.os,hb.tape,hb.output,hb.size,fun k hk _=>hb.block k hk,hx.1,fun k o hk=>(hx.2.1 k o hk).imp id .inl,⟨hx.2.2,fun _ h=>(by cases h),fun _ h=>(by cases h),List.Pairwise.nil⟩,fun _ h=>(by cases h)⟩,rfl,hR⟩
end
def ig (G:GH) (sz:Nat) (rows:List (List Dat)) (xs:List aj):Prop :=
 ∃ css:List (List aj),xs=css.flatten∧css.length=rows.length∧∀ (j:Nat) (r:List Dat) (cs:List aj),rows[j]?=some r→css[j]?=some cs→bJ G r cs∧cs.length=sz
theorem ig.nil {G:GH} {sz:Nat}:ig G sz [] []:=⟨[],rfl,rfl,fun j r cs h=>by simp at h⟩
theorem ig.mono {G G':GH} (hm:∀ k o,G k=some o→G' k=some o) {sz:Nat} {rows:List (List Dat)} {xs:List aj} (h:ig G sz rows xs):ig G' sz rows xs:=by
 obtain ⟨css,h1,h2,h3⟩:=h
 exact ⟨css,h1,h2,fun j r cs hr hc=>⟨(h3 j r cs hr hc).1.mono hm,(h3 j r cs hr hc).2⟩⟩
theorem ig.snoc {G:GH} {sz:Nat} {rows:List (List Dat)} {xs:List aj} (h:ig G sz rows xs) {q:List Dat} {cs:List aj} (hr:bJ G q cs) (hl:cs.length=sz):ig G sz (rows++[q]) (xs++cs):=by
 obtain ⟨css,h1,h2,h3⟩:=h
 refine ⟨css++[cs],by simp [h1],by simp [h2],fun j r c hj hc=>?_⟩
 by_cases hlt:j < rows.length
 ·rw [CY hlt] at hj
  rw [CY (by omega)] at hc
  exact h3 j r c hj hc
 ·have hje:j=rows.length:=by
   have:=(lG.1 hj).1
   simp at this;omega
  subst hje
  rw [BL (dw _),Nat.sub_self] at hj
  rw [BL (by omega),h2,Nat.sub_self] at hc
  simp only [En,oz] at hj hc
  subst hj;subst hc
  exact ⟨hr,hl⟩
theorem Zd {sz:Nat}:∀ {css:List (List aj)} {j:Nat} {cs:List aj},(∀ (j:Nat) (cs:List aj),css[j]?=some cs→cs.length=sz)→css[j]?=some cs→∀ i,i < sz→css.flatten[j*sz+i]?=cs[i]?
 | [],_,_,_,h,_,_=>by simp at h
 | c :: css,0,cs,hl,h,i,hi=>by
  simp only [En,oz] at h
  subst h
  have:=hl 0 c rfl
  simp only [List.flatten_cons,Nat.zero_mul,nT]
  rw [CY (by omega)]
 | c :: css,j+1,cs,hl,h,i,hi=>by
  have hc:=hl 0 c rfl
  have ih:=Zd (css:=css) (j:=j) (cs:=cs) (fun j cs hj=>hl (j+1) cs (by simpa using hj)) (by simpa using h) i hi
  simp only [List.flatten_cons]
  rw [BL (by rw [hc,Nat.succ_mul];omega),← ih]
  congr 1
  rw [hc,Nat.succ_mul];omega
theorem mU.cat {G:GH} {sz b:Nat}:∀ {rows:List (List Dat)} {o:Nat},mU G sz b o rows→∃ xs:List aj,xs.length=rows.length*sz∧(∀ j u,xs[j]?=some u→aG G b (o+j)=some u)∧xs.all Value.oneCell'=true∧ig G sz rows xs
 | [],o,_=>⟨[],by simp,fun j u h=>by simp at h,rfl,ig.nil⟩
 | r :: rs,o,h=>by
  simp only [mU] at h
  obtain ⟨⟨cs,h1,h2,h3⟩,h4⟩:=h
  obtain ⟨xs,g1,g2,g3,css,g4,g5,g6⟩:=mU.cat h4
  refine ⟨cs++xs,by simp [h1,g1,Nat.succ_mul,Nat.add_comm],fun j u hj=>?_,by simp [h3.one,g3],cs :: css,by simp [g4],by simp [g5],fun j q c hj hc=>?_⟩
  ·by_cases hlt:j < cs.length
   ·rw [CY hlt] at hj;exact h2 j u hj
   ·rw [BL (by omega)] at hj
    rw [← g2 _ u hj];congr 1;omega
  ·cases j with
   | zero=>simp only [En,oz] at hj hc;subst hj;subst hc;exact ⟨h3,h1⟩
   | succ j=>exact g6 j q c (by simpa using hj) (by simpa using hc)
theorem aC.cells {G:GH} {sz:Nat} {rows:List (List Dat)} {A:Option Addr} {n c:Nat} (h:aC G (.sl sz rows) (.slice A n c)):n=rows.length∧n≤c∧c≤maxLen∧(A=none→rows=[]) ∧
  (rows≠[]→∃ b o xs,A=some ⟨b,o,none⟩∧xs.length=n*sz∧(∀ j u,xs[j]?=some u→aG G b (o+j)=some u)∧xs.all Value.oneCell'=true∧ig G sz rows xs):=by
 simp only [aC] at h
 obtain ⟨A',c',h1,h2,h3,h4⟩:=h
 injection h1 with e1 e2 e3
 subst e1;subst e2;subst e3
 refine ⟨rfl,h2,h3,fun hn=>?_,fun hne=>?_⟩
 ·apply Classical.byContradiction
  intro hne
  obtain ⟨b,o,e,_⟩:=h4 hne
  rw [hn] at e;cases e
 ·obtain ⟨b,o,e,hr⟩:=h4 hne
  obtain ⟨xs,g1,g2,g3,g4⟩:=hr.cat
  exact ⟨b,o,xs,e,g1,g2,g3,g4⟩
theorem aC.lD {G:GH} {sz:Nat} {A:Option Addr} {n c:Nat} (h:n=0) (hc:c≤maxLen):aC G (.sl sz []) (.slice A n c):=by
 subst h
 simp only [aC]
 exact ⟨A,c,rfl,gX _,hc,fun h=>absurd rfl h⟩
theorem aC.eZ {G:GH} {e sz n b cap:Nat} {cur:Array aj} {xs:List aj} {rows:List (List Dat)} (hb:G b=some (.cells cur e (0,0))) (hl:rows.length=n) (hc:n≤cap) (hm:cap≤maxLen) (ht:cur.toList.take (n*sz)=xs) (rO:ig G sz rows xs) :
  aC G (.sl sz rows) (.slice (some ⟨b,0,none⟩) n cap):=by
 obtain ⟨css,h1,h2,h3⟩:=rO
 simp only [aC]
 refine ⟨_,cap,by rw [hl],by omega,hm,fun _=>⟨b,0,rfl,mU.mk fun k q hk=>?_⟩⟩
 have hkl:k < css.length:=by rw [h2];exact (lG.1 hk).1
 have hcs:css[k]?=some css[k]:=fP hkl
 obtain ⟨g1,g2⟩:=h3 k q _ hk hcs
 refine ⟨css[k],g2,fun j u hj=>?_,g1⟩
 have hjs:j < sz:=by rw [← g2];exact (lG.1 hj).1
 have hlen:∀ (j:Nat) (cs:List aj),css[j]?=some cs→cs.length=sz:=by
  intro j cs hj
  have hjl:j < rows.length:=by rw [← h2];exact (lG.1 hj).1
  exact (h3 j _ cs (fP hjl) hj).2
 have hf:=Zd hlen hcs j hjs
 rw [← h1,← ht,hj] at hf
 unfold aG
 rw [hb]
 simp only
 have hlt:k*sz+j < n*sz:=by
  have:(k+1)*sz≤n*sz:=Nat.mul_le_mul_right _ (by omega)
  rw [Nat.succ_mul] at this;omega
 rw [zK,au hlt] at hf
 simpa using hf
theorem St.Gf {N:Nat} {D:List Deferred} {w0:World} {F:Nat→Prop} {G0 G:GH} {Li Lo:OL} {T:List (Nat × aj)} {a:Act} {w:World} {e sz n:Nat} {v:aj} {xs:List aj} {rows:List (List Dat)} (H:St N D w0 F G0 G (Li++Lo) T a w)
  (hrow:gQ e sz v n xs Lo) (hl:rows.length=n) (rO:ig G sz rows xs):∃ G',(∀ k o,G k=some o→G' k=some o)∧aC G' (.sl sz rows) v∧St N D w0 F G0 G' Li T a w:=by
 rcases hrow.2 with ⟨rfl,h2,rfl⟩|⟨b,cap,cur,rfl,rfl,h3,h4,h5,h6⟩
 ·refine ⟨G,fun _ _ h=>h,?_,by simpa using H⟩
  have:rows=[]:=List.eq_nil_of_length_eq_zero (by omega)
  subst this
  simp only [aC]
  exact ⟨none,0,by simp,by simp,by simp [maxLen],fun h=>absurd rfl h⟩
 ·have hi:(Li++[(b,Obj.cells cur e (0,0))])[Li.length]?=some (b,.cells cur e (0,0)):=by simp
  have hn:=H.Zi _ hi
  have hm:∀ k o,G k=some o→(G.add b (.cells cur e (0,0))) k=some o:=fun k o h=>GH.FT G hn k o h
  refine ⟨_,hm,aC.eZ (GH.FU G b _) hl h3 h4 h6 (rO.mono hm),?_⟩
  have:=H.giveUp _ hi
  rwa [List.eraseIdx_append_of_length_le (dw _),Nat.sub_self,List.eraseIdx_zero,List.tail_cons,nH] at this
theorem St.dW {N:Nat} {D:List Deferred} {w0:World} {F:Nat→Prop} {G0 G:GH} {L:OL} {T:List (Nat × aj)} {a:Act} {w:World} {b:Nat} {o:Obj} (H:St N D w0 F G0 G ((b,o) :: L) T a w) :
  ∃ G',(∀ k o,G k=some o→G' k=some o)∧G' b=some o∧St N D w0 F G0 G' L T a w :=
 ⟨G.add b o,GH.FT G (H.Zi 0 rfl),GH.FU G b o,H.giveUp 0 rfl⟩
theorem St.NT {N:Nat} {D:List Deferred} {w0:World} {F:Nat→Prop} {G0 G:GH} {L:OL} {T:List (Nat × aj)} {a:Act} {w:World} {b e sz:Nat} {cs:List aj} {d:List Dat} (H:St N D w0 F G0 G ((b,.cells cs.toArray e (0,0)) :: L) T a w) (hl:cs.length=sz) (hr:bJ G d cs) :
  ∃ G',(∀ k o,G k=some o→G' k=some o)∧aC G' (.sl sz [d]) (.slice (some ⟨b,0,none⟩) 1 1)∧St N D w0 F G0 G' L T a w:=by
 obtain ⟨G',hm,hb,H⟩:=H.dW
 exact ⟨G',hm,aC.eZ (xs:=cs) hb rfl (dw _) (by decide) (by simp [← hl]) (by simpa using (ig.nil (sz:=sz)).snoc (hr.mono hm) hl),H⟩
structure Now {α:Type} (xs:List AP) (P:α→AP) (J:Nat→GH→OL→Prop) (je j:Nat) (A:List α) (g:GH) (L:OL):Prop where
 now:J j g L
 rem:∀ i a,A[i]?=some a→xs[j+i]?=some (P a)
 len:j+A.length=je
theorem Now.head {α:Type} {xs:List AP} {P:α→AP} {J:Nat→GH→OL→Prop} {je j:Nat} {x:α} {A:List α} {g:GH} {L:OL} (h:Now xs P J je j (x :: A) g L):xs[j]?=some (P x):=h.rem 0 x rfl
theorem Now.step {α:Type} {xs:List AP} {P:α→AP} {J:Nat→GH→OL→Prop} {je j:Nat} {x:α} {A:List α} {g g':GH} {L L':OL} (h:Now xs P J je j (x :: A) g L) (hJ:J (j+1) g' L'):Now xs P J je (j+1) A g' L' :=
 ⟨hJ,fun i a hi=>by rw [show j+1+i=j+(i+1) by omega];exact h.rem (i+1) a (by simpa using hi),by have:=h.len;simp only [kW] at this;omega⟩
theorem Now.part {α:Type} {xs:List AP} {P:α→AP} {J:Nat→GH→OL→Prop} {je j:Nat} {A B:List α} {g:GH} {L:OL} (h:Now xs P J je j (A++B) g L):∀ i a,A[i]?=some a→xs[j+i]?=some (P a):=fun i a hi=>h.rem i a (by rw [CY (lG.1 hi).1];exact hi)
theorem Now.jump {α:Type} {xs:List AP} {P:α→AP} {J:Nat→GH→OL→Prop} {je j:Nat} {A B:List α} {g g':GH} {L L':OL} (h:Now xs P J je j (A++B) g L) (hJ:J (j+A.length) g' L'):Now xs P J je (j+A.length) B g' L' :=
 ⟨hJ,fun i a hi=>by rw [Nat.add_assoc];exact h.rem (A.length+i) a (by rw [BL (Nat.le_add_right _ _),CZ];exact hi),by have:=h.len;simp only [jP] at this;omega⟩
theorem Hp.bR {R:aj→GH→OL→Prop} {v:aj} {w0 w:World} {G0 G:GH} {L0 L L':OL} (h:Hp w0 (Fr w0 L0) G0 G L w) (hs:L'.Sublist L) (hR:R v G L'):iM w0 G0 L0 R (.returned v) w:=(h.drop hs).fO hR
section
variable {N:Nat} {D:List Deferred} {w0:World} {F:Nat→Prop} {G0 G:GH} {L Li Lo:OL} {T:List (Nat × aj)}
variable {r:Option Nat} {P:Program} {ops:Array Oper} {Q:Exit→Act→World→Prop} {rest:List Oper} {a:Act} {w:World}
variable {d:Nat} {ty:TypeId} {pos:String} {aR:Array Edge} {g:Option (Nat × Bool)}
theorem Cz {t e:TypeId} {sz bytes:Nat} {zero:List aj} {agg:Bool} (hs:P.underlying t=some (.slice e)) (ht:Ty P e sz bytes zero agg) (hz:Nat.beq zero.length sz=true) (hsz:Nat.blt 0 sz=true) {x y:Operand} {v:aj} {n m c:Nat} {A:Option Addr} {xs:List aj} {rows:List (List Dat)} (H:St N D w0 F G0 G (Li++Lo) T a w)
  (hw:Region.wanted ⟨some d,.call { callee:=.builtin .append,args:=#[x,y],argTypes:=#[t,t] },ty,pos,aR,g⟩ (yielded ops a.tmps)=true) (hx:ev T x=some v) (hy:ev T y=some (.slice A m c)) (hrow:gQ e sz v n xs Lo)
  (hrep:aC G (.sl sz rows) (.slice A m c)) (h63:n+m≤maxLen) (hb:(n+m)*bytes≤140737488355328) (hd:Nat.blt d N=true)
  (k:∀ v' jU news a' w',gQ e sz v' (n+m) (xs++news) jU→ig G sz rows news→St N D w0 F G0 G (Li++jU) ((d,v') :: T) a' w'→WL r P ops Q rest a' w') :
  WL r P ops Q (⟨some d,.call { callee:=.builtin .append,args:=#[x,y],argTypes:=#[t,t] },ty,pos,aR,g⟩ :: rest) a w:=by
 obtain ⟨hn,hc1,hc2,hnil,hxx⟩:=hrep.cells
 by_cases hr0:rows=[]
 ·have hm0:m=0:=by rw [hn,hr0];rfl
  subst hm0
  obtain ⟨A',c',rfl,h1,h2⟩:=hrow.shape
  refine amJ hs ht H hw hx hy h1 hd fun a' H'=>?_
  exact k _ Lo [] a' w (by simpa using hrow) (by rw [hr0];exact ig.nil) H'
 ·obtain ⟨b,o,news,rfl,hxl,hxc,hx1,rO⟩:=hxx hr0
  exact E8 hs ht hz hsz H hw hx hy hrow hxl (fun j u hj=>H.hp.aG (hxc j u hj)) hx1 h63 hb hd fun v' jU a' w' hr' H'=>k v' jU news a' w' hr' rO H'
theorem Py {t e:TypeId} {sz bytes:Nat} {zero:List aj} {agg:Bool} (hs:P.underlying t=some (.slice e)) (ht:Ty P e sz bytes zero agg) {x y z:Operand} {A:Option Addr} {n c:Nat} (lo hi:Nat) {p q:Int} (H:St N D w0 F G0 G L T a w)
  (hw:Region.wanted ⟨some d,.slice t x (some y) (some z) none,ty,pos,aR,g⟩ (yielded ops a.tmps)=true) (hx:ev T x=some (.slice A n c)) (hy:ev T y=some (.int .i64 p)) (hz:ev T z=some (.int .i64 q)) (hp:p=(lo:Int)) (hq:q=(hi:Int)) (h1:lo≤hi) (h2:hi≤c) (hd:Nat.blt d N=true)
  (k:∀ a',St N D w0 F G0 G L ((d,.slice (if c=lo then A else A.map (·.add (lo*sz))) (hi - lo) (c - lo)) :: T) a' w→WL r P ops Q rest a' w):WL r P ops Q (⟨some d,.slice t x (some y) (some z) none,ty,pos,aR,g⟩ :: rest) a w:=by
 subst hp;subst hq
 refine iF (v:=.slice (if c=lo then A else A.map (·.add (lo*sz))) (hi - lo) (c - lo)) (w':=w) hw rfl ?_ (k _ (H.put hd _ H.hp))
 simp [execOp,H.ev hx,H.ev hy,H.ev hz,Instr.sliceAt,Instr.slice,Instr.sliceBounds,Instr.sliceBound,fD,qx hs,ht.Cx,asIntOf,h1,h2]
end
theorem aC.part {G:GH} {sz:Nat} {rows:List (List Dat)} {A:Option Addr} {n c:Nat} (h:aC G (.sl sz rows) (.slice A n c)) (lo hi:Nat) (h1:lo≤hi) (h2:hi≤rows.length) :
  aC G (.sl sz ((rows.drop lo).take (hi - lo))) (.slice (if c=lo then A else A.map (·.add (lo*sz))) (hi - lo) (c - lo)):=by
 obtain ⟨A',c',he,hc1,hc2,hg⟩:=h.slice
 injection he with e1 e2 e3
 subst e1;subst e3
 have hl:((rows.drop lo).take (hi - lo)).length=hi - lo:=by simp;omega
 simp only [aC]
 refine ⟨_,_,by rw [hl],by rw [hl];omega,by omega,fun hn=>?_⟩
 have hlt:lo < hi:=by
  rcases Nat.lt_or_ge lo hi with h|h
  ·exact h
  ·exact absurd (List.eq_nil_of_length_eq_zero (by rw [hl];omega)) hn
 obtain ⟨b,o,cs,hA,-⟩:=hg lo rows[lo] (by simp)
 subst hA
 refine ⟨b,o+lo*sz,by rw [ah (by omega),yE,add_lit],mU.mk fun k r hk=>?_⟩
 rw [zK] at hk
 split at hk
 ·rw [List.getElem?_drop] at hk
  obtain ⟨b',o',cs,hA,g1,g2,g3⟩:=hg (lo+k) r hk
  obtain ⟨rfl,rfl⟩:b=b'∧o=o':=by simpa using hA
  exact ⟨cs,g1,fun j u hj=>by rw [← g2 j u hj];congr 1;rw [Nat.add_mul];omega,g3⟩
 ·cases hk
theorem ig.append {G:GH} {sz:Nat} {r1 r2:List (List Dat)} {x1 x2:List aj} (h1:ig G sz r1 x1) (h2:ig G sz r2 x2):ig G sz (r1++r2) (x1++x2):=by
 obtain ⟨c1,rfl,e1,f1⟩:=h1
 obtain ⟨c2,rfl,e2,f2⟩:=h2
 refine ⟨c1++c2,by simp,by simp [e1,e2],fun j r cs hr hc=>?_⟩
 by_cases hj:j < r1.length
 ·exact f1 j r cs (by rwa [CY hj] at hr) (by rwa [CY (by omega)] at hc)
 ·exact f2 (j - r1.length) r cs (by rwa [BL (by omega)] at hr) (by rwa [BL (by omega),e1] at hc)
end
section
open Go.RowKit
section
variable {N:Nat} {D:List Deferred} {w0:World} {F:Nat→Prop} {G0 G G1 G2:GH} {L L1 L2:OL} {T Xs:List (Nat × aj)}
variable {r:Option Nat} {P:Program} {Q:Exit→Act→World→Prop} {l:List Oper} {a a':Act} {w w':World}
theorem BN {x y:Nat} (h:x≠y):Nat.beq x y=false:=by
 cases h':Nat.beq x y with
 | false=>rfl
 | true=>exact absurd (Em h') h
theorem BR {i e:Nat} (h:fZ l i=some e):i < l.length:=by
 unfold fZ at h
 by_cases hl:i < l.length
 ·exact hl
 ·rw [List.getElem?_eq_none (by omega)] at h;cases h
theorem abN:∀ (vs c:List aj) (o:Nat),o+vs.length≤c.length→setRow c o vs=c.take o++vs++c.drop (o+vs.length)
 | [],c,o,_=>by simp [setRow]
 | v :: vs,c,o,h=>by
  simp only [kW] at h
  rw [setRow,abN vs (c.set o v) (o+1) (by simp;omega),List.take_set,List.drop_set,au (by omega),mV (by omega)]
  have e:((c.take o++[c[o]]).set o v)=c.take o++[v]:=by
   have hl:(c.take o).length=o:=by simp;omega
   rw [List.set_append,ah (by omega),hl,Nat.sub_self];rfl
  rw [e,kW,show o+1+vs.length=o+(vs.length+1) by omega]
  simp
end
end
section
open Go.RowKit
structure Ip (P:Program) (t:TypeId):Prop where
 h:(P.info? t).map (fun j=>j.size == 0)=some false
theorem Ip.parts {P:Program} {t:TypeId} (h:Ip P t):∃ j,P.info? t=some j∧j.size≠0:=by
 obtain ⟨j,h1,h2⟩:=oC.1 h.h
 exact ⟨j,h1,by simpa using h2⟩
section
variable {N:Nat} {D:List Deferred} {w0:World} {F:Nat→Prop} {G0 G:GH} {L Li Lo:OL} {T:List (Nat × aj)}
variable {r:Option Nat} {P:Program} {ops:Array Oper} {Q:Exit→Act→World→Prop} {rest:List Oper} {a:Act} {w:World}
variable {d:Nat} {ty:TypeId} {pos:String} {aR:Array Edge} {g:Option (Nat × Bool)}
theorem Hp.shape (h:Hp w0 F G0 G L w) {i b:Nat} {c:Array aj} {e:TypeId} {fz:Nat × Nat} (hi:L[i]?=some (b,.cells c e fz)):w.shape? b=some (e,c.size):=by
 have:=h.own _ (nQ hi)
 simp only at this
 simp [World.shape?,this]
theorem amZ {t u te e:TypeId} {x:Operand} {b o:Nat} {c:Array aj} {fz:Nat × Nat} (hs:P.underlying t=some (.pointer te)) (hu:P.underlying u=some .unsafePointer) (hj:Ip P te) (H:St N D w0 F G0 G L T a w) (hw:Region.wanted ⟨some d,.convert t u x,ty,pos,aR,g⟩ (yielded ops a.tmps)=true)
  (hx:ev T x=some (.pointer (some ⟨b,o,none⟩))) (i:Nat) (hi:L[i]?=some (b,.cells c e fz)) (ho:Nat.blt o c.size=true) (hd:Nat.blt d N=true)
  (k:∀ a',St N D w0 F G0 G L ((d,.pointer (some ⟨b,o,none⟩)) :: T) a' w→WL r P ops Q rest a' w):WL r P ops Q (⟨some d,.convert t u x,ty,pos,aR,g⟩ :: rest) a w:=by
 obtain ⟨j,h1,h2⟩:=hj.parts
 refine iF (v:=.pointer (some ⟨b,o,none⟩)) (w':=w) hw rfl ?_ (k _ (H.put hd _ H.hp))
 have h:=Lib.run_to_unsafe (P:=P) w ⟨b,o,none⟩ hs hu h1 h2 (H.hp.shape hi) (Eq.mp Nat.blt_eq ho)
 simp only [execOp,H.ev hx,fD,h,pq,sW]
theorem amP {t u te e:TypeId} {x:Operand} {b o:Nat} {c:Array aj} {fz:Nat × Nat} (hs:P.underlying t=some .unsafePointer) (hu:P.underlying u=some (.pointer te)) (hj:Ip P te) (H:St N D w0 F G0 G L T a w) (hw:Region.wanted ⟨some d,.convert t u x,ty,pos,aR,g⟩ (yielded ops a.tmps)=true)
  (hx:ev T x=some (.pointer (some ⟨b,o,none⟩))) (i:Nat) (hi:L[i]?=some (b,.cells c e fz)) (hl:liesAt P P.depth e (c.size / P.cellsOf e) o te 1=true) (hd:Nat.blt d N=true)
  (k:∀ a',St N D w0 F G0 G L ((d,.pointer (some ⟨b,o,none⟩)) :: T) a' w→WL r P ops Q rest a' w):WL r P ops Q (⟨some d,.convert t u x,ty,pos,aR,g⟩ :: rest) a w:=by
 obtain ⟨j,h1,h2⟩:=hj.parts
 refine iF (v:=.pointer (some ⟨b,o,none⟩)) (w':=w) hw rfl ?_ (k _ (H.put hd _ H.hp))
 have h:=Lib.run_from_unsafe (P:=P) w ⟨b,o,none⟩ hs hu h1 (H.hp.shape hi) hl
 simp only [execOp,H.ev hx,fD,h,pq,sW]
theorem amS {f:FuncId} {xs:List Operand} {v:aj} {ts:Array TypeId} (hcf:∀ (w:World),(callFunc f #[v]).run P w=.ok (.value v) w) (H:St N D w0 F G0 G L T a w) (hw:Region.wanted ⟨some d,.call { callee:=.value (.func f),args:=xs.toArray,argTypes:=ts },ty,pos,aR,g⟩ (yielded ops a.tmps)=true)
  (hx:evs T xs=some [v]) (hd:Nat.blt d N=true)
  (k:∀ a',St N D w0 F G0 G L ((d,v) :: T) a' w→WL r P ops Q rest a' w):WL r P ops Q (⟨some d,.call { callee:=.value (.func f),args:=xs.toArray,argTypes:=ts },ty,pos,aR,g⟩ :: rest) a w:=by
 refine iF (v:=v) (w':=w) hw rfl ?_ (k _ (H.put hd _ H.hp))
 have h1:=H.evs hx
 simp [execOp,resolve,Act.eval,Deferred.ofValue,invoke,fD,h1,hcf]
theorem amE {f:FuncId} {fn:Func} (hf:P.funcs[f]?=some fn) (hname:(fn.name == "runtime.NumGoroutine")=false) (hb:fn.body.isNone=true) (hn:Extern.findNext fn=none) (he:Extern.find fn=some Extern.AbiNoEscape.same) (v:aj) (w:World):(callFunc f #[v]).run P w=.ok (.value v) w:=by
 rw [run_callFunc_extern hf hname hb hn he,Lib.run_noEscape]
 rfl
theorem abE {t u te:TypeId} (hs:P.underlying t=some (.pointer te)) {x:Operand} {p:Option Addr} (H:St N D w0 F G0 G L T a w) (hw:Region.wanted ⟨some d,.binOp .eql t x (.const (.pointer none)) u,ty,pos,aR,g⟩ (yielded ops a.tmps)=true) (hx:ev T x=some (.pointer p)) (hd:Nat.blt d N=true)
  (k:∀ a',St N D w0 F G0 G L ((d,.bool p.isNone) :: T) a' w→WL r P ops Q rest a' w):WL r P ops Q (⟨some d,.binOp .eql t x (.const (.pointer none)) u,ty,pos,aR,g⟩ :: rest) a w:=by
 refine iF (v:=.bool p.isNone) (w':=w) hw rfl ?_ (k _ (H.put hd _ H.hp))
 have h1:(Op.equal t (.pointer p) (.pointer none)).run P w=.ok p.isNone w:=by
  show (Op.equalIn (9999+1) t (.pointer p) (.pointer none)).run P w=_
  rw [Op.equalIn.eq_2,fD,qx hs]
  cases p <;> simp
 have h2:(do eqGuard .eql t x (.const (.pointer none)) (.pointer p) (.pointer none);binOp .eql t (.pointer p) (.pointer none):Sem aj).run P w=.ok (.bool p.isNone) w:=by
  have e:(do eqGuard .eql t x (.const (.pointer none)) (.pointer p) (.pointer none);binOp .eql t (.pointer p) (.pointer none):Sem aj)=(do pure (.bool (← Op.equal t (.pointer p) (.pointer none))):Sem aj):=rfl
  rw [e,fD,h1];rfl
 have e0:execOp a.eval ⟨some d,.binOp .eql t x (.const (.pointer none)) u,ty,pos,aR,g⟩=(do pure (.value (← (do eqGuard .eql t x (.const (.pointer none)) (.pointer p) (.pointer none);binOp .eql t (.pointer p) (.pointer none):Sem aj))):Sem Next):=by
  simp only [execOp,H.ev hx];rfl
 rw [e0,fD,h2]
 rfl
theorem amR {t u te:TypeId} (hs:P.underlying t=some (.pointer te)) (hj:Ip P te) {x y:Operand} {p:Addr} (H:St N D w0 F G0 G L T a w) (hw:Region.wanted ⟨some d,.binOp .neq t x y u,ty,pos,aR,g⟩ (yielded ops a.tmps)=true) (hx:ev T x=some (.pointer (some p))) (hy:ev T y=some (.pointer (some p))) (hd:Nat.blt d N=true)
  (k:∀ a',St N D w0 F G0 G L ((d,.bool false) :: T) a' w→WL r P ops Q rest a' w):WL r P ops Q (⟨some d,.binOp .neq t x y u,ty,pos,aR,g⟩ :: rest) a w:=by
 obtain ⟨j,h1,h2⟩:=hj.parts
 refine iF (v:=.bool false) (w':=w) hw rfl ?_ (k _ (H.put hd _ H.hp))
 have h:=Lib.run_neq_ptr_same (P:=P) (w:=w) p hs h1
 simp only [execOp,H.ev hx,H.ev hy]
 simp [fD,eqGuard,h]
theorem amV {t:TypeId} {x:Operand} {p:Addr} {n c:Nat} (H:St N D w0 F G0 G L T a w) (hw:Region.wanted ⟨some d,.call { callee:=.builtin .unsafeSliceData,args:=#[x],argTypes:=#[t] },ty,pos,aR,g⟩ (yielded ops a.tmps)=true) (hx:ev T x=some (.slice (some p) n c)) (hc:c≠0) (hd:Nat.blt d N=true)
  (k:∀ a',St N D w0 F G0 G L ((d,.pointer (some p)) :: T) a' w→WL r P ops Q rest a' w):WL r P ops Q (⟨some d,.call { callee:=.builtin .unsafeSliceData,args:=#[x],argTypes:=#[t] },ty,pos,aR,g⟩ :: rest) a w:=by
 refine iF (v:=.pointer (some p)) (w':=w) hw rfl ?_ (k _ (H.put hd _ H.hp))
 have h:=Lib.run_unsafeSliceData_row (P:=P) (w:=w) #[t] ty p n c hc
 simp [execOp,resolve,invoke,builtin,H.ev hx,fD,h]
theorem aox {w:World} {b n:Nat} {c:Array aj} {e:TypeId} {fz:Nat × Nat} (h:w.heap[b]?=some (.cells c e fz)) (hn:n≠0):∃ Gd,wZ b (.cells c e Gd) w (w.freeze ⟨b,0,none⟩ n):=by
 unfold World.freeze
 rw [ah hn]
 refine ⟨if fz.1 == fz.2 then (0,0+n) else (min fz.1 0,max fz.2 (0+n)),rfl,rfl,rfl,by simp,?_,fun k hk=>?_⟩
 ·simp [Array.getElem?_modify,h]
 ·simp [Array.getElem?_modify,Ne.symm hk]
theorem ana {pt it e:TypeId} {x y:Operand} {b i:Nat} {cur:Array aj} {fz:Nat × Nat} (l:List UInt8) (hp:P.underlying pt=some (.pointer e)) (hc:P.cellsOf e=1) (h0:l≠[]) (h63:l.length≤9223372036854775807) (H:St N D w0 F G0 G L T a w)
  (hw:Region.wanted ⟨some d,.call { callee:=.builtin .unsafeString,args:=#[x,y],argTypes:=#[pt,it] },ty,pos,aR,g⟩ (yielded ops a.tmps)=true) (hx:ev T x=some (.pointer (some ⟨b,0,none⟩))) (hy:ev T y=some (.int .i64 (l.length:Int)))
  (hi:L[i]?=some (b,.cells cur e fz)) (hl:cur.toList.take l.length=Lib.byteCells l) (hd:Nat.blt d N=true)
  (k:∀ Gd a' w',St N D w0 F G0 G (L.set i (b,.cells cur e Gd)) ((d,.string ⟨l.toArray⟩) :: T) a' w'→WL r P ops Q rest a' w'):WL r P ops Q (⟨some d,.call { callee:=.builtin .unsafeString,args:=#[x,y],argTypes:=#[pt,it] },ty,pos,aR,g⟩ :: rest) a w:=by
 have hb:=H.hp.own _ (nQ hi)
 simp only at hb
 have hlen:l.length≤cur.size:=by
  have:=av List.length hl
  simp only [List.length_take,Lib.byteCells_length,yD] at this
  omega
 obtain ⟨Gd,hu⟩:=aox (n:=l.length) hb (by simpa using h0)
 have h:=Lib.run_unsafeString_row (P:=P) w pt it ty e hp hc b cur.size (H.hp.shape hi) l h0 hlen h63 (fun j x hj=>by
  rw [add_lit,nT]
  simp only [World.cell?,hb]
  have h2:(cur.toList.take l.length)[j]?=some (.int .u8 x.toNat):=by rw [hl];simp [Lib.byteCells,hj]
  rw [zK] at h2
  split at h2
  ·simpa using h2
  ·cases h2)
 refine iF (v:=.string ⟨l.toArray⟩) (w':=w.freeze ⟨b,0,none⟩ l.length) hw rfl ?_ (k Gd _ _ (H.put hd _ (H.hp.upd hi hu)))
 simp [execOp,resolve,invoke,builtin,H.ev hx,H.ev hy,fD,h]
theorem Zc (sz n:Nat):∀ (css:List (List aj)) (k:Nat) (pre z:List aj),pre.length=k*sz→z.length=css.length*sz→(∀ c∈css,c.length=sz)→k+css.length=n →
  Cb ((List.range n).map fun i=>(i*sz,sz)) (pre++z) ((css.zipIdx k).map fun p=>(p.2,p.1))=some (pre++css.flatten)
 | [],k,pre,z,_,hz,_,_=>by
  have:z=[]:=List.eq_nil_of_length_eq_zero (by simpa using hz)
  subst this
  simp [Cb]
 | c :: css,k,pre,z,hp,hz,hc,hn=>by
  have hcl:=hc c jB
  simp only [kW] at hz hn
  have hpl:((List.range n).map fun i=>(i*sz,sz))[k]?=some (k*sz,sz):=by
   rw [qE,List.getElem?_range (by omega)];rfl
  have hz1:z.length=sz+css.length*sz:=by rw [hz,Nat.add_mul,Nat.one_mul,Nat.add_comm]
  have hle:k*sz+c.length≤(pre++z).length:=by rw [jP,hp,hcl];omega
  have e1:Nat.beq c.length sz=true:=by rw [hcl];exact Nat.beq_refl sz
  have e2:Nat.ble (k*sz+c.length) (pre++z).length=true:=Eq.mpr Nat.ble_eq hle
  rw [List.zipIdx_cons,dV]
  simp only [Cb,hpl,e1,e2,Bool.and_self,cond_true]
  have e3:setRow (pre++z) (k*sz) c=(pre++c)++z.drop sz:=by
   rw [abN _ _ _ hle,← hp,List.take_left' rfl,List.drop_append,fI (by omega),kD,hcl]
   congr 2;omega
  rw [e3,Zc sz n css (k+1) (pre++c) (z.drop sz) (by rw [jP,hp,hcl,Nat.succ_mul]) (by rw [List.length_drop];omega) (fun q hq=>hc q (vR _ hq)) (by omega)]
  simp
theorem amL {t e:TypeId} {sz bytes:Nat} {zero:List aj} {agg:Bool} (hs:P.underlying t=some (.slice e)) (ht:Ty P e sz bytes zero agg) {n:Nat} {xs:List (Nat × Operand)} {vs:List (Nat × aj)} (css:List (List aj)) (H:St N D w0 F G0 G L T a w) (hw:Region.wanted ⟨some d,.buildSlice t n xs.toArray,ty,pos,aR,g⟩ (yielded ops a.tmps)=true)
  (hx:pts T xs=some vs) (hv:vs.map (fun x=>(x.1,x.2.cells.toList))=(css.zipIdx 0).map fun p=>(p.2,p.1)) (hl:css.all (fun c=>Nat.beq c.length sz)=true) (hcn:Nat.beq css.length n=true) (hn:Nat.ble (n*sz) 1000=true) (hn0:Nat.beq (n*sz) 0=false) (hd:Nat.blt d N=true)
  (k:∀ b a' w',w0.heap.size≤b→St N D w0 F G0 G ((b,.cells css.flatten.toArray e (0,0)) :: L) ((d,.slice (some ⟨b,0,none⟩) n n) :: T) a' w'→WL r P ops Q rest a' w'):WL r P ops Q (⟨some d,.buildSlice t n xs.toArray,ty,pos,aR,g⟩ :: rest) a w:=by
 have hcn':css.length=n:=Em hcn
 refine jy (vs':=(css.zipIdx 0).map fun p=>(p.2,p.1)) hs ht ((List.range (n*sz)).map (fun i=>zero[i % zero.length]!)) css.flatten H hw hx hv hn hn0 rfl (fun i q h=>?_) ?_ hd k
 ·rw [qE] at h
  obtain ⟨j,hj,rfl⟩:=oC.1 h
  obtain ⟨h1,h2⟩:=lG.1 hj
  rw [List.getElem_range] at h2
  rw [h2]
 ·have h:=Zc sz n css 0 [] ((List.range (n*sz)).map (fun i=>zero[i % zero.length]!)) (by simp) (by simp [hcn']) (fun c hc=>Em (lU.1 hl c hc)) (by omega)
  simpa using h
end
end
section
open Go.RowKit
theorem nZ:prog.underlying 3=some (.int .i64):=by kernel_rfl
theorem ME:prog.underlying 5=some (.int .u8):=by kernel_rfl
theorem iB:prog.underlying 9=some .string:=by kernel_rfl
theorem ags:∀ args w,(callFunc 227 args).run prog w=.ok (.enter 227 args) w:=enters func227 rfl (by kernel_rfl)
theorem agc:∀ args w,(callFunc 202 args).run prog w=.ok (.enter 202 args) w:=enters func202 rfl (by kernel_rfl)
theorem afJ:∀ args w,(callFunc 157 args).run prog w=.ok (.enter 157 args) w:=enters func157 rfl (by kernel_rfl)
theorem Eu:∀ args w,(callFunc 94 args).run prog w=.ok (.enter 94 args) w:=enters func94 rfl (by kernel_rfl)
def jA (b:Int):Int × Int × Int :=
  (if b=224 then 160 else if b=240 then 144 else 128,if b=237 then 159 else if b=244 then 143 else 191,
   if b < 128 then 1 else if b < 194∨244 < b then 0 else if b < 224 then 2 else if b < 240 then 3 else 4)
theorem V3 (b:Int):0≤(jA b).2.2∧(jA b).2.2≤4:=by
 simp only [jA];split
 ·omega
 split
 ·omega
 split
 ·omega
 split <;> omega
theorem anZ (G:GH) (w0:World) (hG:Hold G w0) (b:Int) :
  Calls prog 227 #[.int .u8 b] w0 (bY w0 G fun v G'=>v=.tuple #[.int .u8 (jA b).1,.int .u8 (jA b).2.1,.int .i64 (jA b).2.2]∧G=G'):=by
 refine eN [(0,_)] func227 rfl ntmps227 rfl rfl hG ?_;intro a H;refine kP H (SR fun _ K1=>Ra rfl (Ra rfl (ak K1 rfl (SR fun _ K2=>Ra rfl (ak K2 rfl (SQ fun _ K3=>SB (SR fun _ K4=>Rm rfl (Rc rfl (ak K4 rfl (Cd rfl ?_ ?_)))))))))) <;> clear H K1 K2 K4
 ·intro h5 a H
  try have p5:=dT h5
  refine kP H (SC (aM K3 rfl (SQ fun _ K5=>SR fun _ K6=>Rm rfl (Kz K6 (SB (SR fun _ K7=>Rc rfl (ak K7 rfl (Cd rfl ?_ ?_)))))))) <;> clear H K3 K6 K7
  ·intro h22 a H
   try have jE:=dT h22
   refine kP H (SC (aM K5 rfl (SR fun _ K8=>Rm rfl (Rm rfl (Rm rfl (Ra rfl (Ra rfl (ak K8 rfl ?_))))))));clear H K5 K8;intro a H;refine dG ?_;refine (gV H results227 (.cons (bB H rfl) (.cons (bB H rfl) (.cons (bB H rfl) .nil))) ?_).1
   first|(exfalso;omega)|exact H.rt ⟨by simp only [jA];repeat (first|rw [au (by omega)]|rw [ah (by omega)]),rfl⟩
  intro h22 a H
  try have jE:=dF h22
  refine kP H (SR fun _ K9=>Rc rfl (ak K9 rfl (Cd rfl ?_ ?_))) <;> clear H K9
  ·intro fJ a H
   try have nO:=dT fJ
   refine kP H (SC (aM K5 rfl (SR fun _ aV=>Rm rfl (Rm rfl (Rm rfl (Ra rfl (Ra rfl (ak aV rfl ?_))))))));clear H K5 aV;intro a H;refine dG ?_;refine (gV H results227 (.cons (bB H rfl) (.cons (bB H rfl) (.cons (bB H rfl) .nil))) ?_).1
   first|(exfalso;omega)|exact H.rt ⟨by simp only [jA];repeat (first|rw [au (by omega)]|rw [ah (by omega)]),rfl⟩
  intro fJ a H
  try have nO:=dF fJ
  refine kP H (SR fun _ bF=>Rc rfl (ak bF rfl (Cd rfl ?_ ?_))) <;> clear H bF
  ·intro eO a H
   try have p26:=dT eO
   refine kP H (SC (aM K5 rfl (SR fun _ bG=>Rm rfl (Rm rfl (Rm rfl (Ra rfl (Ra rfl (ak bG rfl ?_))))))));clear H K5 bG;intro a H;refine dG ?_;refine (gV H results227 (.cons (bB H rfl) (.cons (bB H rfl) (.cons (bB H rfl) .nil))) ?_).1
   first|(exfalso;omega)|exact H.rt ⟨by simp only [jA];repeat (first|rw [au (by omega)]|rw [ah (by omega)]),rfl⟩
  intro eO a H
  try have p26:=dF eO
  refine kP H (SR fun _ bM=>Rc rfl (ak bM rfl (Cd rfl ?_ ?_))) <;> clear H bM
  ·intro jC a H
   try have p28:=dT jC
   refine kP H (SC (aM K5 rfl (SR fun _ bN=>Rm rfl (Rm rfl (Rm rfl (Ra rfl (Ra rfl (ak bN rfl ?_))))))));clear H K5 bN;intro a H;refine dG ?_;refine (gV H results227 (.cons (bB H rfl) (.cons (bB H rfl) (.cons (bB H rfl) .nil))) ?_).1
   first|(exfalso;omega)|exact H.rt ⟨by simp only [jA];repeat (first|rw [au (by omega)]|rw [ah (by omega)]),rfl⟩
  intro jC a H
  try have p28:=dF jC
  refine kP H (Kc K5 (SR fun _ bW=>Rm rfl (Rm rfl (Rm rfl (Ra rfl (Ra rfl (ak bW rfl ?_)))))));clear H K5 bW;intro a H;refine dG ?_;refine (gV H results227 (.cons (bB H rfl) (.cons (bB H rfl) (.cons (bB H rfl) .nil))) ?_).1
  first|(exfalso;omega)|exact H.rt ⟨by simp only [jA];repeat (first|rw [au (by omega)]|rw [ah (by omega)]),rfl⟩
 intro h5 a H
 try have p5:=dF h5
 refine kP H (SR fun _ cK=>Rm rfl (Rc rfl (Rm rfl (Sp 11 rfl ?_ ?_)))) <;> clear H
 ·intro h11 a H
  try have xP:=dT h11
  refine kH H (aS h11 rfl (Pt h11 rfl (ak cK rfl (Ct rfl rfl (SC (aM K3 rfl (SQ fun _ bS=>SR fun _ dD=>Rm rfl (Kz dD (SB (SR fun _ dO=>Rc rfl (ak dO rfl (Cd rfl ?_ ?_)))))))))))) <;> clear H cK K3 dD dO
  ·intro h22 a H
   try have jE:=dT h22
   refine kP H (SC (aM bS rfl (SR fun _ dK=>Rm rfl (Rm rfl (Rm rfl (Ra rfl (Ra rfl (ak dK rfl ?_))))))));clear H bS dK;intro a H;refine dG ?_;refine (gV H results227 (.cons (bB H rfl) (.cons (bB H rfl) (.cons (bB H rfl) .nil))) ?_).1
   first|(exfalso;omega)|exact H.rt ⟨by simp only [jA];repeat (first|rw [au (by omega)]|rw [ah (by omega)]),rfl⟩
  intro h22 a H
  try have jE:=dF h22
  refine kP H (SR fun _ dS=>Rc rfl (ak dS rfl (Cd rfl ?_ ?_))) <;> clear H dS
  ·intro fJ a H
   try have nO:=dT fJ
   refine kP H (SC (aM bS rfl (SR fun _ eP=>Rm rfl (Rm rfl (Rm rfl (Ra rfl (Ra rfl (ak eP rfl ?_))))))));clear H bS eP;intro a H;refine dG ?_;refine (gV H results227 (.cons (bB H rfl) (.cons (bB H rfl) (.cons (bB H rfl) .nil))) ?_).1
   first|(exfalso;omega)|exact H.rt ⟨by simp only [jA];repeat (first|rw [au (by omega)]|rw [ah (by omega)]),rfl⟩
  intro fJ a H
  try have nO:=dF fJ
  refine kP H (SR fun _ gG=>Rc rfl (ak gG rfl (Cd rfl ?_ ?_))) <;> clear H gG
  ·intro eO a H
   try have p26:=dT eO
   refine kP H (SC (aM bS rfl (SR fun _ gT=>Rm rfl (Rm rfl (Rm rfl (Ra rfl (Ra rfl (ak gT rfl ?_))))))));clear H bS gT;intro a H;refine dG ?_;refine (gV H results227 (.cons (bB H rfl) (.cons (bB H rfl) (.cons (bB H rfl) .nil))) ?_).1
   first|(exfalso;omega)|exact H.rt ⟨by simp only [jA];repeat (first|rw [au (by omega)]|rw [ah (by omega)]),rfl⟩
  intro eO a H
  try have p26:=dF eO
  refine kP H (SR fun _ gM=>Rc rfl (ak gM rfl (Cd rfl ?_ ?_))) <;> clear H gM
  ·intro jC a H
   try have p28:=dT jC
   refine kP H (SC (aM bS rfl (SR fun _ jf=>Rm rfl (Rm rfl (Rm rfl (Ra rfl (Ra rfl (ak jf rfl ?_))))))));clear H bS jf;intro a H;refine dG ?_;refine (gV H results227 (.cons (bB H rfl) (.cons (bB H rfl) (.cons (bB H rfl) .nil))) ?_).1
   first|(exfalso;omega)|exact H.rt ⟨by simp only [jA];repeat (first|rw [au (by omega)]|rw [ah (by omega)]),rfl⟩
  intro jC a H
  try have p28:=dF jC
  refine kP H (Kc bS (SR fun _ jq=>Rm rfl (Rm rfl (Rm rfl (Ra rfl (Ra rfl (ak jq rfl ?_)))))));clear H bS jq;intro a H;refine dG ?_;refine (gV H results227 (.cons (bB H rfl) (.cons (bB H rfl) (.cons (bB H rfl) .nil))) ?_).1
  first|(exfalso;omega)|exact H.rt ⟨by simp only [jA];repeat (first|rw [au (by omega)]|rw [ah (by omega)]),rfl⟩
 intro h11 a H
 try have xP:=dF h11
 refine kH H (YM h11 rfl (YC h11 rfl (Pf h11 rfl (ak cK rfl (Cd rfl ?_ ?_))))) <;> clear H cK
 ·intro h8 a H
  try have p8:=dT h8
  refine kP H (SC (aM K3 rfl (SQ fun _ iQ=>SR fun _ kT=>Rm rfl (Kz kT (SB (SR fun _ kU=>Rc rfl (ak kU rfl (Cd rfl ?_ ?_)))))))) <;> clear H K3 kT kU
  ·intro h22 a H
   try have jE:=dT h22
   refine kP H (SC (aM iQ rfl (SR fun _ jG=>Rm rfl (Rm rfl (Rm rfl (Ra rfl (Ra rfl (ak jG rfl ?_))))))));clear H iQ jG;intro a H;refine dG ?_;refine (gV H results227 (.cons (bB H rfl) (.cons (bB H rfl) (.cons (bB H rfl) .nil))) ?_).1
   first|(exfalso;omega)|exact H.rt ⟨by simp only [jA];repeat (first|rw [au (by omega)]|rw [ah (by omega)]),rfl⟩
  intro h22 a H
  try have jE:=dF h22
  refine kP H (SR fun _ kZ=>Rc rfl (ak kZ rfl (Cd rfl ?_ ?_))) <;> clear H kZ
  ·intro fJ a H
   try have nO:=dT fJ
   refine kP H (SC (aM iQ rfl (SR fun _ lg=>Rm rfl (Rm rfl (Rm rfl (Ra rfl (Ra rfl (ak lg rfl ?_))))))));clear H iQ lg;intro a H;refine dG ?_;refine (gV H results227 (.cons (bB H rfl) (.cons (bB H rfl) (.cons (bB H rfl) .nil))) ?_).1
   first|(exfalso;omega)|exact H.rt ⟨by simp only [jA];repeat (first|rw [au (by omega)]|rw [ah (by omega)]),rfl⟩
  intro fJ a H
  try have nO:=dF fJ
  refine kP H (SR fun _ lK=>Rc rfl (ak lK rfl (Cd rfl ?_ ?_))) <;> clear H lK
  ·intro eO a H
   try have p26:=dT eO
   refine kP H (SC (aM iQ rfl (SR fun _ lM=>Rm rfl (Rm rfl (Rm rfl (Ra rfl (Ra rfl (ak lM rfl ?_))))))));clear H iQ lM;intro a H;refine dG ?_;refine (gV H results227 (.cons (bB H rfl) (.cons (bB H rfl) (.cons (bB H rfl) .nil))) ?_).1
   first|(exfalso;omega)|exact H.rt ⟨by simp only [jA];repeat (first|rw [au (by omega)]|rw [ah (by omega)]),rfl⟩
  intro eO a H
  try have p26:=dF eO
  refine kP H (SR fun _ lN=>Rc rfl (ak lN rfl (Cd rfl ?_ ?_))) <;> clear H lN
  ·intro jC a H
   try have p28:=dT jC
   refine kP H (SC (aM iQ rfl (SR fun _ lY=>Rm rfl (Rm rfl (Rm rfl (Ra rfl (Ra rfl (ak lY rfl ?_))))))));clear H iQ lY;intro a H;refine dG ?_;refine (gV H results227 (.cons (bB H rfl) (.cons (bB H rfl) (.cons (bB H rfl) .nil))) ?_).1
   first|(exfalso;omega)|exact H.rt ⟨by simp only [jA];repeat (first|rw [au (by omega)]|rw [ah (by omega)]),rfl⟩
  intro jC a H
  try have p28:=dF jC
  refine kP H (Kc iQ (SR fun _ qD=>Rm rfl (Rm rfl (Rm rfl (Ra rfl (Ra rfl (ak qD rfl ?_)))))));clear H iQ qD;intro a H;refine dG ?_;refine (gV H results227 (.cons (bB H rfl) (.cons (bB H rfl) (.cons (bB H rfl) .nil))) ?_).1
  first|(exfalso;omega)|exact H.rt ⟨by simp only [jA];repeat (first|rw [au (by omega)]|rw [ah (by omega)]),rfl⟩
 intro h8 a H
 try have p8:=dF h8
 refine kP H (SR fun _ vH=>Rm rfl (Rc rfl (ak vH rfl (Cd rfl ?_ ?_)))) <;> clear H vH
 ·intro jI a H
  try have pQ:=dT jI
  refine kP H (SC (aM K3 rfl (SQ fun _ kV=>SR fun _ yC=>Rm rfl (Kz yC (SB (SR fun _ vI=>Rc rfl (ak vI rfl (Cd rfl ?_ ?_)))))))) <;> clear H K3 yC vI
  ·intro h22 a H
   try have jE:=dT h22
   refine kP H (SC (aM kV rfl (SR fun _ D7=>Rm rfl (Rm rfl (Rm rfl (Ra rfl (Ra rfl (ak D7 rfl ?_))))))));clear H kV D7;intro a H;refine dG ?_;refine (gV H results227 (.cons (bB H rfl) (.cons (bB H rfl) (.cons (bB H rfl) .nil))) ?_).1
   first|(exfalso;omega)|exact H.rt ⟨by simp only [jA];repeat (first|rw [au (by omega)]|rw [ah (by omega)]),rfl⟩
  intro h22 a H
  try have jE:=dF h22
  refine kP H (SR fun _ BG=>Rc rfl (ak BG rfl (Cd rfl ?_ ?_))) <;> clear H BG
  ·intro fJ a H
   try have nO:=dT fJ
   refine kP H (SC (aM kV rfl (SR fun _ Aq=>Rm rfl (Rm rfl (Rm rfl (Ra rfl (Ra rfl (ak Aq rfl ?_))))))));clear H kV Aq;intro a H;refine dG ?_;refine (gV H results227 (.cons (bB H rfl) (.cons (bB H rfl) (.cons (bB H rfl) .nil))) ?_).1
   first|(exfalso;omega)|exact H.rt ⟨by simp only [jA];repeat (first|rw [au (by omega)]|rw [ah (by omega)]),rfl⟩
  intro fJ a H
  try have nO:=dF fJ
  refine kP H (SR fun _ zH=>Rc rfl (ak zH rfl (Cd rfl ?_ ?_))) <;> clear H zH
  ·intro eO a H
   try have p26:=dT eO
   refine kP H (SC (aM kV rfl (SR fun _ CP=>Rm rfl (Rm rfl (Rm rfl (Ra rfl (Ra rfl (ak CP rfl ?_))))))));clear H kV CP;intro a H;refine dG ?_;refine (gV H results227 (.cons (bB H rfl) (.cons (bB H rfl) (.cons (bB H rfl) .nil))) ?_).1
   first|(exfalso;omega)|exact H.rt ⟨by simp only [jA];repeat (first|rw [au (by omega)]|rw [ah (by omega)]),rfl⟩
  intro eO a H
  try have p26:=dF eO
  refine kP H (SR fun _ CQ=>Rc rfl (ak CQ rfl (Cd rfl ?_ ?_))) <;> clear H CQ
  ·intro jC a H
   try have p28:=dT jC
   refine kP H (SC (aM kV rfl (SR fun _ BH=>Rm rfl (Rm rfl (Rm rfl (Ra rfl (Ra rfl (ak BH rfl ?_))))))));clear H kV BH;intro a H;refine dG ?_;refine (gV H results227 (.cons (bB H rfl) (.cons (bB H rfl) (.cons (bB H rfl) .nil))) ?_).1
   first|(exfalso;omega)|exact H.rt ⟨by simp only [jA];repeat (first|rw [au (by omega)]|rw [ah (by omega)]),rfl⟩
  intro jC a H
  try have p28:=dF jC
  refine kP H (Kc kV (SR fun _ FB=>Rm rfl (Rm rfl (Rm rfl (Ra rfl (Ra rfl (ak FB rfl ?_)))))));clear H kV FB;intro a H;refine dG ?_;refine (gV H results227 (.cons (bB H rfl) (.cons (bB H rfl) (.cons (bB H rfl) .nil))) ?_).1
  first|(exfalso;omega)|exact H.rt ⟨by simp only [jA];repeat (first|rw [au (by omega)]|rw [ah (by omega)]),rfl⟩
 intro jI a H
 try have pQ:=dF jI
 refine kP H (SR fun _ FC=>Rm rfl (Rc rfl (ak FC rfl (Cd rfl ?_ ?_)))) <;> clear H FC
 ·intro h18 a H
  try have xQ:=dT h18
  refine kP H (SC (aM K3 rfl (SQ fun _ uF=>SR fun _ D8=>Rm rfl (Kz D8 (SB (SR fun _ FD=>Rc rfl (ak FD rfl (Cd rfl ?_ ?_)))))))) <;> clear H K3 D8 FD
  ·intro h22 a H
   try have jE:=dT h22
   refine kP H (SC (aM uF rfl (SR fun _ oZ=>Rm rfl (Rm rfl (Rm rfl (Ra rfl (Ra rfl (ak oZ rfl ?_))))))));clear H uF oZ;intro a H;refine dG ?_;refine (gV H results227 (.cons (bB H rfl) (.cons (bB H rfl) (.cons (bB H rfl) .nil))) ?_).1
   first|(exfalso;omega)|exact H.rt ⟨by simp only [jA];repeat (first|rw [au (by omega)]|rw [ah (by omega)]),rfl⟩
  intro h22 a H
  try have jE:=dF h22
  refine kP H (SR fun _ D9=>Rc rfl (ak D9 rfl (Cd rfl ?_ ?_))) <;> clear H D9
  ·intro fJ a H
   try have nO:=dT fJ
   refine kP H (SC (aM uF rfl (SR fun _ wX=>Rm rfl (Rm rfl (Rm rfl (Ra rfl (Ra rfl (ak wX rfl ?_))))))));clear H uF wX;intro a H;refine dG ?_;refine (gV H results227 (.cons (bB H rfl) (.cons (bB H rfl) (.cons (bB H rfl) .nil))) ?_).1
   first|(exfalso;omega)|exact H.rt ⟨by simp only [jA];repeat (first|rw [au (by omega)]|rw [ah (by omega)]),rfl⟩
  intro fJ a H
  try have nO:=dF fJ
  refine kP H (SR fun _ Ea=>Rc rfl (ak Ea rfl (Cd rfl ?_ ?_))) <;> clear H Ea
  ·intro eO a H
   try have p26:=dT eO
   refine kP H (SC (aM uF rfl (SR fun _ FE=>Rm rfl (Rm rfl (Rm rfl (Ra rfl (Ra rfl (ak FE rfl ?_))))))));clear H uF FE;intro a H;refine dG ?_;refine (gV H results227 (.cons (bB H rfl) (.cons (bB H rfl) (.cons (bB H rfl) .nil))) ?_).1
   first|(exfalso;omega)|exact H.rt ⟨by simp only [jA];repeat (first|rw [au (by omega)]|rw [ah (by omega)]),rfl⟩
  intro eO a H
  try have p26:=dF eO
  refine kP H (SR fun _ Eb=>Rc rfl (ak Eb rfl (Cd rfl ?_ ?_))) <;> clear H Eb
  ·intro jC a H
   try have p28:=dT jC
   refine kP H (SC (aM uF rfl (SR fun _ FH=>Rm rfl (Rm rfl (Rm rfl (Ra rfl (Ra rfl (ak FH rfl ?_))))))));clear H uF FH;intro a H;refine dG ?_;refine (gV H results227 (.cons (bB H rfl) (.cons (bB H rfl) (.cons (bB H rfl) .nil))) ?_).1
   first|(exfalso;omega)|exact H.rt ⟨by simp only [jA];repeat (first|rw [au (by omega)]|rw [ah (by omega)]),rfl⟩
  intro jC a H
  try have p28:=dF jC
  refine kP H (Kc uF (SR fun _ Ar=>Rm rfl (Rm rfl (Rm rfl (Ra rfl (Ra rfl (ak Ar rfl ?_)))))));clear H uF Ar;intro a H;refine dG ?_;refine (gV H results227 (.cons (bB H rfl) (.cons (bB H rfl) (.cons (bB H rfl) .nil))) ?_).1
  first|(exfalso;omega)|exact H.rt ⟨by simp only [jA];repeat (first|rw [au (by omega)]|rw [ah (by omega)]),rfl⟩
 intro h18 a H
 try have xQ:=dF h18
 refine kP H (SC (aM K3 rfl (SQ fun _ sS=>SR fun _ CU=>Rm rfl (Kz CU (SB (SR fun _ FI=>Rc rfl (ak FI rfl (Cd rfl ?_ ?_)))))))) <;> clear H K3 CU FI
 ·intro h22 a H
  try have jE:=dT h22
  refine kP H (SC (aM sS rfl (SR fun _ FJ=>Rm rfl (Rm rfl (Rm rfl (Ra rfl (Ra rfl (ak FJ rfl ?_))))))));clear H sS FJ;intro a H;refine dG ?_;refine (gV H results227 (.cons (bB H rfl) (.cons (bB H rfl) (.cons (bB H rfl) .nil))) ?_).1
  first|(exfalso;omega)|exact H.rt ⟨by simp only [jA];repeat (first|rw [au (by omega)]|rw [ah (by omega)]),rfl⟩
 intro h22 a H
 try have jE:=dF h22
 refine kP H (SR fun _ Ec=>Rc rfl (ak Ec rfl (Cd rfl ?_ ?_))) <;> clear H Ec
 ·intro fJ a H
  try have nO:=dT fJ
  refine kP H (SC (aM sS rfl (SR fun _ Ed=>Rm rfl (Rm rfl (Rm rfl (Ra rfl (Ra rfl (ak Ed rfl ?_))))))));clear H sS Ed;intro a H;refine dG ?_;refine (gV H results227 (.cons (bB H rfl) (.cons (bB H rfl) (.cons (bB H rfl) .nil))) ?_).1
  first|(exfalso;omega)|exact H.rt ⟨by simp only [jA];repeat (first|rw [au (by omega)]|rw [ah (by omega)]),rfl⟩
 intro fJ a H
 try have nO:=dF fJ
 refine kP H (SR fun _ Ee=>Rc rfl (ak Ee rfl (Cd rfl ?_ ?_))) <;> clear H Ee
 ·intro eO a H
  try have p26:=dT eO
  refine kP H (SC (aM sS rfl (SR fun _ Il=>Rm rfl (Rm rfl (Rm rfl (Ra rfl (Ra rfl (ak Il rfl ?_))))))));clear H sS Il;intro a H;refine dG ?_;refine (gV H results227 (.cons (bB H rfl) (.cons (bB H rfl) (.cons (bB H rfl) .nil))) ?_).1
  first|(exfalso;omega)|exact H.rt ⟨by simp only [jA];repeat (first|rw [au (by omega)]|rw [ah (by omega)]),rfl⟩
 intro eO a H
 try have p26:=dF eO
 refine kP H (SR fun _ FK=>Rc rfl (ak FK rfl (Cd rfl ?_ ?_))) <;> clear H FK
 ·intro jC a H
  try have p28:=dT jC
  refine kP H (SC (aM sS rfl (SR fun _ J7=>Rm rfl (Rm rfl (Rm rfl (Ra rfl (Ra rfl (ak J7 rfl ?_))))))));clear H sS J7;intro a H;refine dG ?_;refine (gV H results227 (.cons (bB H rfl) (.cons (bB H rfl) (.cons (bB H rfl) .nil))) ?_).1
  first|(exfalso;omega)|exact H.rt ⟨by simp only [jA];repeat (first|rw [au (by omega)]|rw [ah (by omega)]),rfl⟩
 intro jC a H
 try have p28:=dF jC
 refine kP H (Kc sS (SR fun _ MV=>Rm rfl (Rm rfl (Rm rfl (Ra rfl (Ra rfl (ak MV rfl ?_)))))));clear H sS MV;intro a H;refine dG ?_;refine (gV H results227 (.cons (bB H rfl) (.cons (bB H rfl) (.cons (bB H rfl) .nil))) ?_).1
 first|(exfalso;omega)|exact H.rt ⟨by simp only [jA];repeat (first|rw [au (by omega)]|rw [ah (by omega)]),rfl⟩
def iY (s:ByteArray) (i:Nat):Int:=if h:i < s.size then (s[i].toNat:Int) else 0
theorem nJ {s:ByteArray} {i:Nat} (h:i < s.size):iY s i=(s[i].toNat:Int):=by simp [iY,h]
def xw (s:ByteArray) (at_ n:Nat):(fuel k:Nat)→(low high p:Int)→Int × Nat × Bool
 | 0,k,_,_,p=>(p,k,true)
 | f+1,k,low,high,p =>
  if n≤k then (p,k,true)
  else if s.size≤at_+k∨iY s (at_+k) < low∨high < iY s (at_+k) then (0,k,false)
  else xw s at_ n f (k+1) 128 191 (xk .or .i64 (IntKind.i64.wrap (p*2 ^ 6)) (xk .and .i64 (iY s (at_+k)) 63))
def oH (s:ByteArray) (at_:Nat):Int × Nat × Bool :=
 let b:=iY s at_
 let t:=jA b
 if t.2.2=0 then (0,0,false) else if t.2.2=1 then (b,1,true)
 else xw s at_ t.2.2.toNat 4 1 t.1 t.2.1 (xk .and .i64 b ((127:Int).fdiv (2 ^ t.2.2.toNat)))
theorem Wd (n:UInt8):IntKind.i64.wrap (n.toNat:Int)=(n.toNat:Int):=Jq (by omega) (by have:=n.toNat_lt;omega)
set_option maxHeartbeats 1000000 in
theorem afd (G:GH) (w0:World) (hG:Hold G w0) (s:ByteArray) (i:Nat) (hi:i < s.size) (hs:s.size < 4611686018427387904) :
  Calls prog 202 #[.string s,.int .i64 i] w0 (bY w0 G fun v G'=>v=.tuple #[.int .i64 (oH s i).1,.int .i64 (oH s i).2.1,.bool (oH s i).2.2]∧G=G'):=by
 have hb:=nJ hi;obtain ⟨n,hn⟩:∃ n:Nat,(jA (iY s i)).2.2=(n:Int):=⟨(jA (iY s i)).2.2.toNat,by have:=V3 (iY s i);omega⟩
 have Uh:n≤4:=by have:=V3 (iY s i);omega
 refine eN [(0,_),(1,_)] func202 rfl ntmps202 rfl rfl hG ?_;intro a H;refine kP H (SR fun _ K1=>Ra rfl (Ra rfl (ak K1 rfl (SR fun _ K2=>Rm rfl (Rm rfl ?_)))));clear H K1;intro a H;refine pU _ iB H wn rfl rfl rfl (by first|assumption|omega) rfl ?_;clear H;intro a H;refine kH H (Ra rfl ?_);clear H;intro a H;rw [← hb] at H;refine K2 _ _ ?_;clear K2;refine kP H (SR fun _ K3=>Rm rfl ?_);clear H;intro a H;refine s_call ags H wn rfl (anZ _ _ H.ro _) rfl ?_;clear H;rintro v16 _ a w ⟨rfl,rfl⟩ - H;refine kH H (Rm rfl ?_);clear H;intro a H;(iterate 3 refine nA H wn rfl rfl rfl ?_;clear H;intro a H);refine kH H (Ra rfl (Ra rfl (ak K3 rfl (SQ fun _ K4=>SR fun _ K5=>Rm rfl (Kz K5 (SB (SR fun _ K6=>Rc rfl (ak K6 rfl (Cd rfl ?_ ?_))))))))) <;> clear H K3 K5 K6
 ·intro h21 a H
  try have nX:=dT h21
  refine kP H (SR fun _ K7=>Ra rfl (Ra rfl (ak K7 rfl ?_)));clear H K7;intro a H;refine dG ?_;skip;refine (gV H results202 (.cons (bB H rfl) (.cons (bB H rfl) (.cons (bB H rfl) .nil))) ?_).1;exact H.rt ⟨by simp [oH,nX],rfl⟩
 intro h21 a H
 try have nX:=dF h21
 refine kP H (SR fun _ K8=>Rc rfl (ak K8 rfl (Cd rfl ?_ ?_))) <;> clear H K8
 ·intro h23 a H
  try have Cr:=dT h23
  refine kP H (SR fun _ K9=>Rm rfl ?_);clear H;intro a H;refine JF (iY s i) nZ ME H wn rfl (by rw [hb];exact Wd _) rfl ?_;clear H;intro a H;refine kH H (Ra rfl (Ra rfl (ak K9 rfl ?_)));clear H K9;intro a H;refine dG ?_;skip;refine (gV H results202 (.cons (bB H rfl) (.cons (bB H rfl) (.cons (bB H rfl) .nil))) ?_).1;exact H.rt ⟨by simp [oH,nX,Cr],rfl⟩
 intro h23 a H
 try have Cr:=dF h23
 refine kP H (Kc K4 (SR fun _ aV=>Rm rfl ?_));clear H K4;intro a H;refine JF (iY s i) nZ ME H wn rfl (by rw [hb];exact Wd _) rfl ?_;clear H;intro a H;refine kH H (Rm rfl ?_);clear H;intro a H;refine abJ n H wn rfl rfl (by rw [hn]) (by show n≤64;omega) rfl ?_;clear H;intro a H;refine Pq rfl H wn rfl rfl rfl ?_;clear H;intro a H;refine kH H (ak aV rfl (SQ fun _ bF=>SR fun _ bG=>ak bG rfl (SB ?_)));clear H aV bG;intro a H;skip;refine eT (ι:=Nat × Int × Int × Int) (Tc:=[(0,_),(1,_),(10,_)]) (Lc:=[]) (fun gh=>[(4,.int .i64 gh.2.2.2),(5,.int .i64 (gh.1:Int)),(8,.int .u8 gh.2.1),(9,.int .u8 gh.2.2.1)]) (fun gh=>[]) (fun gh=>G) (fun gh=>gh.1≤4∧oH s i=xw s i n (5 - gh.1) gh.1 gh.2.1 gh.2.2.1 gh.2.2.2) (fun gh=>5 - gh.1) ((1,_,_,_)) (by exact (H).sub ⟨rfl,rfl,rfl,rfl,rfl,rfl,rfl,aB⟩) ?_ ?_
 ·refine ⟨by omega,?_⟩;simp only [oH,hn];rw [ah (by omega),ah (by omega)];rfl
 clear H;rintro ⟨k,low,high,p⟩ a w hI H;dsimp only at hI H;obtain ⟨hk,hdec⟩:=hI;dsimp only [lca,aO] at H;refine kP H (SQ fun _ bM=>SR fun _ bN=>Rm rfl (Rm rfl (Rc rfl (Kz bN (Cd rfl ?_ ?_))))) <;> clear H bN
 ·intro eG a H
  try have p34:=dT eG
  refine kP H (Kc bM (SQ fun _ bW=>SB (SQ fun _ cK=>SR fun _ bS=>Rm rfl (Rm rfl (Rd rfl (Rm rfl (Rv iB rfl (Rc rfl (Rm rfl (Sp 43 rfl ?_ ?_)))))))))) <;> clear H bM
  ·intro h43 a H
   try have p43:=dT h43
   refine kH H (aZ h43 rfl (aS h43 rfl (aS h43 rfl (Pt h43 rfl (Rm rfl (aZ rfl rfl (aS rfl rfl (aS rfl rfl (Pt rfl rfl (Kz bS (Ct rfl rfl (SR fun _ dD=>Rm rfl (Ra rfl (Ra rfl (ak dD rfl ?_)))))))))))))));clear H bS dD;intro a H;refine dG ?_
   have hfin:oH s i=(if n≤k then (p,k,true) else (0,k,false)):=by
    rw [hdec];have e:5 - k=(4 - k)+1:=by omega
    rw [e,xw]
    by_cases hk2:n≤k
    ·rw [au hk2,au hk2]
    rw [ah hk2,ah hk2,au (by first|omega|(rw [nJ (by omega)];omega))]
   refine (gV H results202 (.cons (bB H rfl) (.cons (bB H rfl) (.cons (bB H rfl) .nil))) ?_).1;exact H.rt ⟨by rw [hfin];first|rw [au (by omega)]|rw [ah (by omega)],rfl⟩
  intro h43 a H
  try have p43:=dF h43
  refine kH H (YM h43 rfl (YM h43 rfl (YM h43 rfl ?_)));clear H;intro a H;refine Pp _ H (wg H rfl rfl h43) rfl rfl rfl (by omega) (by omega) rfl ?_;clear H;intro a H;refine pU _ iB H (wg H rfl rfl h43) rfl rfl rfl (by first|assumption|omega) rfl ?_;clear H;intro a H;refine kH H (YM h43 rfl (YC h43 rfl (Pf h43 rfl (Rm rfl (Sp 52 rfl ?_ ?_))))) <;> clear H
  ·intro rE a H
   try have p52:=dT rE
   refine kH H (aZ rE rfl (aS rE rfl (aS rE rfl (Pt rE rfl (Kz bS (Ct rfl rfl (SR fun _ dO=>Rm rfl (Ra rfl (Ra rfl (ak dO rfl ?_))))))))));clear H bS dO;intro a H;refine dG ?_
   have hfin:oH s i=(if n≤k then (p,k,true) else (0,k,false)):=by
    rw [hdec];have e:5 - k=(4 - k)+1:=by omega
    rw [e,xw]
    by_cases hk2:n≤k
    ·rw [au hk2,au hk2]
    rw [ah hk2,ah hk2,au (by first|omega|(rw [nJ (by omega)];omega))]
   refine (gV H results202 (.cons (bB H rfl) (.cons (bB H rfl) (.cons (bB H rfl) .nil))) ?_).1;exact H.rt ⟨by rw [hfin];first|rw [au (by omega)]|rw [ah (by omega)],rfl⟩
  intro rE a H
  try have p52:=dF rE
  refine kH H (YM rE rfl (YM rE rfl (YM rE rfl ?_)));clear H;intro a H;refine Pp _ H (wg H rfl rfl rE) rfl rfl rfl (by omega) (by omega) rfl ?_;clear H;intro a H;refine pU _ iB H (wg H rfl rfl rE) rfl rfl rfl (by first|assumption|omega) rfl ?_;clear H;intro a H;refine kH H (YM rE rfl (YC rE rfl (Pf rE rfl (Kz bS (Cd rfl ?_ ?_))))) <;> clear H bS
  ·intro eY a H
   try have p60:=dT eY
   refine kP H (SR fun _ dK=>Rm rfl (Ra rfl (Ra rfl (ak dK rfl ?_))));clear H dK;intro a H;refine dG ?_
   have hfin:oH s i=(if n≤k then (p,k,true) else (0,k,false)):=by
    rw [hdec];have e:5 - k=(4 - k)+1:=by omega
    rw [e,xw]
    by_cases hk2:n≤k
    ·rw [au hk2,au hk2]
    rw [ah hk2,ah hk2,au (by first|omega|(rw [nJ (by omega)];omega))]
   refine (gV H results202 (.cons (bB H rfl) (.cons (bB H rfl) (.cons (bB H rfl) .nil))) ?_).1;exact H.rt ⟨by rw [hfin];first|rw [au (by omega)]|rw [ah (by omega)],rfl⟩
  intro eY a H
  try have p60:=dF eY
  refine kP H (Kc cK (SR fun _ dS=>Rm rfl ?_));clear H cK;intro a H;refine amT _ H wn rfl rfl rfl (by decide) rfl ?_;clear H;intro a H;refine kH H (Rm rfl (Rm rfl (Rm rfl (Rd rfl ?_))));clear H;intro a H;refine pU _ iB H wn rfl rfl rfl (by first|assumption|omega) rfl ?_;clear H;intro a H;refine JF (iY s (i+k)) nZ ME H wn rfl (by rw [nJ (by omega)];exact Wd _) rfl ?_;clear H;intro a H;(iterate 2 refine Pq rfl H wn rfl rfl rfl ?_;clear H;intro a H);refine kH H (ak dS rfl (SC (Ra rfl (aM bW rfl (SC (Rm rfl (Rd rfl (Ra rfl ?_))))))));clear H dS bW;intro a H;refine aJ ?_;refine dH ((k+1,128,191,xk .or .i64 (IntKind.i64.wrap (p*2 ^ 6)) (xk .and .i64 (iY s (i+k)) 63))) (by exact (H).sub ⟨rfl,rfl,rfl,rfl,rfl,rfl,rfl,aB⟩) ?_ ?_
  ·(try dsimp only);refine ⟨by omega,?_⟩
   have e:5 - k=(5 - (k+1))+1:=by omega
   rw [hdec,e,xw,ah (by omega),nJ (by omega),ah (by omega)]
  first|omega|(dsimp only;omega)
 intro eG a H
 try have p34:=dF eG
 refine dR ?_;refine bF _ _ ?_;clear bF;refine kP H (SR fun _ eP=>Rm rfl (Rm rfl (Ra rfl (Ra rfl (ak eP rfl ?_)))));clear H eP;intro a H;refine dG ?_
 have hfin:oH s i=(if n≤k then (p,k,true) else (0,k,false)):=by
  rw [hdec];have e:5 - k=(4 - k)+1:=by omega
  rw [e,xw]
  by_cases hk2:n≤k
  ·rw [au hk2,au hk2]
  rw [ah hk2,ah hk2,au (by first|omega|(rw [nJ (by omega)];omega))]
 refine (gV H results202 (.cons (bB H rfl) (.cons (bB H rfl) (.cons (bB H rfl) .nil))) ?_).1;exact H.rt ⟨by rw [hfin];first|rw [au (by omega)]|rw [ah (by omega)],rfl⟩
theorem Yl (s:ByteArray) (at_ n:Nat):∀ (f k:Nat) (low high p:Int),n≤k+f→k≤n→k≤(xw s at_ n f k low high p).2.1∧(xw s at_ n f k low high p).2.1≤n∧((xw s at_ n f k low high p).2.2=true→at_+k≤s.size→at_+(xw s at_ n f k low high p).2.1≤s.size)
 | 0,k,low,high,p,h1,h2=>by simp only [xw];omega
 | f+1,k,low,high,p,h1,h2=>by
  unfold xw
  split
  ·simp only [];omega
  split
  ·simp only [];omega
  have ih:=Yl s at_ n f (k+1) 128 191 (xk .or .i64 (IntKind.i64.wrap (p*2 ^ 6)) (xk .and .i64 (iY s (at_+k)) 63)) (by omega) (by omega);refine ⟨by have:=ih.1;omega,ih.2.1,fun h3 h4=>ih.2.2 h3 (by omega)⟩
theorem Ym (s:ByteArray) (i:Nat) (hi:i < s.size):(oH s i).2.1≤4∧((oH s i).2.2=true→1≤(oH s i).2.1∧i+(oH s i).2.1≤s.size):=by
 have ht:=V3 (iY s i)
 unfold oH
 simp only []
 split
 ·simp
 split
 ·simp;omega
 have:=Yl s i (jA (iY s i)).2.2.toNat 4 1 (jA (iY s i)).1 (jA (iY s i)).2.1 (xk .and .i64 (iY s i) ((127:Int).fdiv (2 ^ (jA (iY s i)).2.2.toNat))) (by omega) (by omega);refine ⟨by omega,fun h=>⟨by omega,this.2.2 h (by omega)⟩⟩
def uQ (s:ByteArray) (i:Nat):Int :=
 if h:i < s.size then (if h2:(oH s i).2.2=true then uQ s (i+(oH s i).2.1) else i) else -1
 termination_by s.size - i
 decreasing_by have:=(Ym s i h).2 h2;omega
theorem ahq (G:GH) (w0:World) (hG:Hold G w0) (s:ByteArray) (hs:s.size < 4611686018427387904) :
  Calls prog 157 #[.string s] w0 (bY w0 G fun v G'=>v=.int .i64 (uQ s 0)∧G=G'):=by
 refine eN [(0,_)] func157 rfl ntmps157 rfl rfl hG ?_;intro a H;refine kP H (SR fun _ K1=>ak K1 rfl (SQ fun _ K2=>SR fun _ K3=>ak K3 rfl (SB ?_)));clear H K1 K3;intro a H;skip;refine eT (ι:=Nat) (Tc:=[(0,_)]) (Lc:=[]) (fun gh=>[(3,.int .i64 (gh:Int))]) (fun gh=>[]) (fun gh=>G) (fun gh=>gh≤s.size∧uQ s 0=uQ s gh) (fun gh=>s.size - gh) (0) (by exact (H).sub ⟨rfl,rfl,aB⟩) ?_ ?_
 ·exact ⟨by omega,rfl⟩
 clear H;intro i a w hI H;obtain ⟨hk,hf⟩:=hI;dsimp only [lca,aO] at H;refine kP H (SQ fun _ K4=>SR fun _ K5=>Rm rfl (Rm rfl (Rv iB rfl (Rc rfl (Kz K5 (Cd rfl ?_ ?_)))))) <;> clear H K5
 ·intro h10 a H
  try have uf:=dT h10
  refine kP H (Kc K4 (SB (SR fun _ K6=>Rm rfl (Rm rfl ?_))));clear H K4;intro a H;refine s_call agc H wn rfl (afd _ _ H.ro s i (by omega) hs) rfl ?_;clear H;rintro v14 _ a w ⟨rfl,rfl⟩ - H;have hd:=Ym s i (by omega);refine kH H (Rm rfl ?_);clear H;intro a H;(iterate 3 refine nA H wn rfl rfl rfl ?_;clear H;intro a H);refine kH H (Ra rfl (Ra rfl (ak K6 rfl (SQ fun _ K7=>SR fun _ K8=>Rm rfl (Rn rfl (Kz K8 (Cd rfl ?_ ?_))))))) <;> clear H K6 K8
  ·intro h19 a H
   try have wL:=dT h19
   exact kP H (SR fun _ K9=>Rm rfl (ak K9 rfl (LR results157 rfl fun H=>H.rt ⟨by rw [hf,uQ,dif_pos (by omega),dif_neg (by simpa using h19)],rfl⟩)))
  intro h19 a H
  try have wL:=dF h19
  refine kP H (Kc K7 (SC (Rm rfl (Rm rfl (Rd rfl (Ra rfl ?_))))));clear H K7;intro a H;refine aJ ?_;refine dH ((i+(oH s i).2.1)) (by exact (H).sub ⟨rfl,rfl,aB⟩) ?_ ?_
  ·have h1:(oH s i).2.2=true:=by simpa using h19
   have h2:=hd.2 h1;refine ⟨by omega,?_⟩;rw [hf,uQ,dif_pos (by omega),dif_pos h1]
  have h1:(oH s i).2.2=true:=by simpa using h19
  have h2:=hd.2 h1
  omega
 intro h10 a H
 try have uf:=dF h10
 refine dR ?_;refine K2 _ _ ?_;clear K2;exact kP H (SR fun _ aV=>ak aV rfl (LR results157 rfl fun H=>H.rt ⟨by rw [hf,uQ,dif_neg (by omega)],rfl⟩))
def qB (s:ByteArray):Bool:=decide (uQ s 0 < 0)
theorem Fh (G:GH) (w0:World) (hG:Hold G w0) (s:ByteArray) (hs:s.size < 4611686018427387904) :
  Calls prog 94 #[.string s] w0 (bY w0 G fun v G'=>v=.bool (qB s)∧G=G'):=by
 refine eN [(0,_)] func94 rfl ntmps94 rfl rfl hG ?_;intro a H;refine kP H (SR fun _ K1=>ak K1 rfl (SR fun _ K2=>Rm rfl ?_));clear H K1;intro a H;refine s_call afJ H wn rfl (ahq _ _ H.ro s hs) rfl ?_;clear H;rintro v4 _ a w ⟨rfl,rfl⟩ - H;exact kH H (Rc rfl (ak K2 rfl (LR results94 rfl fun H=>H.rt ⟨rfl,rfl⟩)))
def uL (s:ByteArray) (i:Nat):Nat :=
 if i < s.size then (if xk .and .u8 (iY s i) 192=128 then 0 else 1)+uL s (i+1) else 0
 termination_by s.size - i
theorem Yf (s:ByteArray):∀ (n i:Nat),s.size - i=n→uL s i≤n
 | 0,i,h=>by rw [uL,ah (by omega)];exact dw _
 | n+1,i,h=>by
  have ih:=Yf s n (i+1) (by omega);rw [uL,au (by omega)]
  split <;> omega
def xu (s:ByteArray):Nat:=if qB s then uL s 0 else 0
def JW (s:ByteArray):Int:=if qB s then 0 else 12
theorem Es (s:ByteArray):xu s≤s.size:=by unfold xu;have:=Yf s s.size 0 (by omega);split <;> omega
theorem Nk (G:GH) (w0:World) (hG:Hold G w0) (s:ByteArray) (hs:s.size < 4611686018427387904) :
  Calls prog 53 #[.string s] w0 (bY w0 G fun v G'=>v=.tuple #[vi (xu s),vi (JW s)]∧G=G'):=by
 refine eN [(0,_)] func53 rfl ntmps53 rfl rfl hG ?_;intro a H;refine kP H (SR fun _ K1=>Ra rfl (ak K1 rfl (SQ fun _ K2=>SR fun _ K3=>Rm rfl ?_)));clear H K1;intro a H;refine s_call Eu H wn rfl (Fh _ _ H.ro s hs) rfl ?_;clear H;rintro v6 _ a w ⟨rfl,rfl⟩ - H;refine kH H (Rn rfl (Kz K3 (Cd rfl ?_ ?_))) <;> clear H K3
 ·intro h7 a H
  refine kP H (SR fun _ K4=>Ra rfl (ak K4 rfl ?_));clear H K4;intro a H;refine dG ?_;refine (gV H results53 (.cons (bB H rfl) (.cons (bB H rfl) .nil)) ?_).1;exact H.rt ⟨by simp [xu,JW,show qB s=false by simpa using h7],rfl⟩
 intro h7 a H
 try have p7:=dF h7
 refine kP H (Kc K2 (SQ fun _ K5=>SR fun _ K6=>Rm rfl (Rv iB rfl (Rm rfl (Kz K6 (SB ?_))))));clear H K2 K6;intro a H;skip;refine eT (ι:=Nat × Nat) (Tc:=[(0,_),(9,_)]) (Lc:=[]) (fun gh=>[(2,vi gh.2),(10,vi gh.1)]) (fun gh=>[]) (fun gh=>G) (fun gh=>gh.1≤s.size∧gh.2≤gh.1∧gh.2+uL s gh.1=xu s) (fun gh=>s.size - gh.1) ((0,0)) (by exact (H).sub ⟨rfl,rfl,rfl,rfl,aB⟩) ?_ ?_
 ·exact ⟨by omega,by omega,by simp [xu,show qB s=true by simpa using h7]⟩
 clear H;rintro ⟨i,n⟩ a w hI H;dsimp only at hI H;obtain ⟨hk,hn,hf⟩:=hI;dsimp only [lca,aO] at H;refine kP H (SR fun _ K7=>Rc rfl (Kz K7 (SQ fun _ K8=>Cd rfl ?_ ?_))) <;> clear H K7
 ·intro h11 a H
  try have xP:=dT h11
  refine kP H (Kc K8 (SQ fun _ K9=>SB (SR fun _ aV=>Rm rfl (ak aV rfl (SR fun _ bF=>Rm rfl (Rm rfl ?_))))));clear H K8 aV;intro a H;refine pU _ iB H wn rfl rfl rfl (by first|assumption|omega) rfl ?_;clear H;intro a H;refine Pq rfl H wn rfl rfl rfl ?_;clear H;intro a H;refine kH H (Rc rfl (Kz bF (Cd rfl ?_ ?_))) <;> clear H bF
  ·intro gK a H
   try have mo:=dT gK
   refine kP H (SC (Rm rfl (Rd rfl (aM K9 rfl (SC (Rd rfl (Rm rfl ?_)))))));clear H K9;intro a H;refine aJ ?_;refine dH ((i+1,n+1)) (by exact (H).sub ⟨rfl,rfl,rfl,rfl,aB⟩) ?_ ?_
   ·(try dsimp only);rw [← nJ (by omega)] at mo;rw [uL,au (by omega),ah mo] at hf;exact ⟨by omega,by omega,by omega⟩
   first|omega|(dsimp only;omega)
  intro gK a H
  try have mo:=dF gK
  refine kP H (Kc K9 (SC (Rd rfl (Rm rfl ?_))));clear H K9;intro a H;refine aJ ?_;refine dH ((i+1,n)) (by exact (H).sub ⟨rfl,rfl,rfl,rfl,aB⟩) ?_ ?_
  ·(try dsimp only);rw [← nJ (by omega),gu] at mo;rw [uL,au (by omega),au mo] at hf;exact ⟨by omega,by omega,by omega⟩
  first|omega|(dsimp only;omega)
 intro h11 a H
 try have xP:=dF h11
 refine dR ?_;refine K5 _ _ ?_;clear K5;refine kP H (SR fun _ bG=>Rm rfl (Ra rfl (ak bG rfl ?_)));clear H bG;intro a H;refine dG ?_;refine (gV H results53 (.cons (bB H rfl) (.cons (bB H rfl) .nil)) ?_).1;exact H.rt ⟨by rw [uL,ah (by omega),nR] at hf;rw [hf];simp [JW,show qB s=true by simpa using h7],rfl⟩
end
section
open Go.RowKit
theorem hmx:prog.follows .mixedOrders=true:=by kernel_rfl
theorem gJ:dJ prog 68 0 0:=⟨by kernel_rfl⟩
theorem aD:Ty prog 3 1 8 [.int .i64 0] false:=⟨by kernel_rfl,by kernel_rfl⟩
theorem uO:dJ prog 68 3 3:=⟨by kernel_rfl⟩
theorem gW:Ty prog 9 1 16 [.string ⟨#[]⟩] false:=⟨by kernel_rfl,by kernel_rfl⟩
theorem NC:∀ args w,(callFunc 53 args).run prog w=.ok (.enter 53 args) w:=enters func53 rfl (by kernel_rfl)
theorem kr:prog.underlying 22=some (.slice 68):=by kernel_rfl
theorem fC:Ty prog 68 11 176 [.int .i64 0,.int .i64 0,.int .i64 0,.string ⟨#[]⟩,.slice none 0 0,.int .i64 0,.int .i64 0,.slice none 0 0,.slice none 0 0,.slice none 0 0,.slice none 0 0] true:=⟨by kernel_rfl,by kernel_rfl⟩
theorem afo:∀ args w,(callFunc 105 args).run prog w=.ok (.enter 105 args) w:=enters func105 rfl (by kernel_rfl)
theorem sQ:prog.underlying 23=some (.slice 171):=by kernel_rfl
theorem sP:Ty prog 171 2 16 [.int .i64 0,.int .i64 0] true:=⟨by kernel_rfl,by kernel_rfl⟩
theorem mQ:prog.underlying 24=some (.slice 115):=by kernel_rfl
theorem wO:Ty prog 115 2 16 [.int .i64 0,.int .i64 0] true:=⟨by kernel_rfl,by kernel_rfl⟩
theorem xX:prog.underlying 25=some (.slice 117):=by kernel_rfl
theorem Ag:Ty prog 117 4 32 [.int .i64 0,.int .i64 0,.int .i64 0,.bool false] true:=⟨by kernel_rfl,by kernel_rfl⟩
theorem vC:Ty prog 29 5 88 [.slice none 0 0,.int .i64 0,.int .i64 0,.slice none 0 0,.slice none 0 0] true:=⟨by kernel_rfl,by kernel_rfl⟩
theorem BX:dJ prog 29 0 0:=⟨by kernel_rfl⟩
theorem zx:Ty prog 23 1 24 [.slice none 0 0] false:=⟨by kernel_rfl,by kernel_rfl⟩
theorem zP:dJ prog 29 1 1:=⟨by kernel_rfl⟩
theorem mY:dJ prog 27 2 2:=⟨by kernel_rfl⟩
theorem nC:Ty prog 24 1 24 [.slice none 0 0] false:=⟨by kernel_rfl,by kernel_rfl⟩
theorem zO:dJ prog 27 3 3:=⟨by kernel_rfl⟩
theorem Ah:Ty prog 25 1 24 [.slice none 0 0] false:=⟨by kernel_rfl,by kernel_rfl⟩
theorem ku:prog.underlying 66=some (.slice 144):=by kernel_rfl
theorem kQ:Ty prog 144 6 112 [.slice none 0 0,.int .i64 0,.int .i64 0,.slice none 0 0,.slice none 0 0,.slice none 0 0] true:=⟨by kernel_rfl,by kernel_rfl⟩
theorem mE:prog.underlying 142=some (.slice 147):=by kernel_rfl
theorem kg:Ty prog 147 7 120 [.int .i64 0,.slice none 0 0,.int .i64 0,.int .i64 0,.slice none 0 0,.slice none 0 0,.slice none 0 0] true:=⟨by kernel_rfl,by kernel_rfl⟩
theorem Dc:dJ prog 147 0 0:=⟨by kernel_rfl⟩
theorem Rw:dJ prog 147 1 1:=⟨by kernel_rfl⟩
theorem Df:dJ prog 147 2 6:=⟨by kernel_rfl⟩
theorem jJ:Ty prog 22 1 24 [.slice none 0 0] false:=⟨by kernel_rfl,by kernel_rfl⟩
theorem abU:sU prog 147 [(0,1),(1,5),(6,1)] [.int .i64 0,.slice none 0 0,.int .i64 0,.int .i64 0,.slice none 0 0,.slice none 0 0,.slice none 0 0]:=⟨by kernel_rfl,by kernel_rfl⟩
theorem KF:dJ prog 144 0 0:=⟨by kernel_rfl⟩
theorem ru:dJ prog 144 1 5:=⟨by kernel_rfl⟩
theorem rY:Ty prog 142 1 24 [.slice none 0 0] false:=⟨by kernel_rfl,by kernel_rfl⟩
theorem anJ:sU prog 144 [(0,5),(5,1)] [.slice none 0 0,.int .i64 0,.int .i64 0,.slice none 0 0,.slice none 0 0,.slice none 0 0]:=⟨by kernel_rfl,by kernel_rfl⟩
theorem KN:dJ prog 68 4 4:=⟨by kernel_rfl⟩
theorem Ca:dJ prog 68 5 9:=⟨by kernel_rfl⟩
theorem uP:dJ prog 68 6 10:=⟨by kernel_rfl⟩
theorem vD:Ty prog 66 1 24 [.slice none 0 0] false:=⟨by kernel_rfl,by kernel_rfl⟩
def gD (x:ay):Nat:=if x.kind=1 then xu x.text else 1
def Al (x:ay):Int:=if x.kind=1 then JW x.text else 0
theorem aor (G:GH) (w0:World) (hG:Hold G w0) (x:ay) (i2 i3:Int) (p i5 i6 d l f r:aj) (hs:x.text.size < 4611686018427387904) :
  Calls prog 105 #[.agg #[vi x.kind,vi i2,vi i3,.string x.text,p,i5,i6,d,l,f,r]] w0 (bY w0 G fun v G'=>v=.tuple #[vi (gD x),vi (Al x)]∧G=G'):=by
 refine eN [(0,_)] func105 rfl ntmps105 rfl rfl hG ?_;intro a H;refine dh (fun _ K1=>?_);refine fB (cs:=[_,_,_,_,_,_,_,_,_,_,_]) H wn rfl rfl rfl ?_;clear H;intro b1 a w hb1 H;refine kH H (Ra rfl (ak K1 rfl (SQ fun _ K2=>SR fun _ K3=>aT gJ aD 0 rfl rfl (Rc rfl (Kz K3 (Cd rfl ?_ ?_)))))) <;> clear H K1 K3
 ·intro h6 a H
  try have p6:=dT h6
  refine kP H (SR fun _ K4=>Ra rfl (ak K4 rfl ?_));clear H K4;intro a H;refine dG ?_;refine (gV H results105 (.cons (bB H rfl) (.cons (bB H rfl) .nil)) ?_).1;exact H.rt ⟨by simp only [gD,Al,ah p6];rfl,rfl⟩
 intro h6 a H
 try have p6:=dF h6
 refine kP H (Kc K2 (SR fun _ K5=>aT uO gW 0 rfl rfl ?_));clear H K2;intro a H;refine s_call NC H wn rfl (Nk _ _ H.ro _ hs) rfl ?_;clear H;rintro v9 _ a w ⟨rfl,rfl⟩ - H;(iterate 2 refine nA H wn rfl rfl rfl ?_;clear H;intro a H);refine kH H (Ra rfl (ak K5 rfl ?_));clear H K5;intro a H;refine dG ?_;refine (gV H results105 (.cons (bB H rfl) (.cons (bB H rfl) .nil)) ?_).1;exact H.rt ⟨by rw [gu] at p6;simp only [gD,Al,au p6],rfl⟩
def xA (l:List ay):Bool:=l.all fun x=>decide (Al x=0)
def uh:List ay→Nat
 | []=>0
 | x :: l=>gD x+uh l
def oQ (l:List ay):Int:=if xA l then uh l else 0
def U2 (l:List ay):Int:=if xA l then 0 else 12
def qP:List ay→Nat
 | []=>0
 | x :: l=>x.text.size+1+qP l
theorem PD:∀ l:List ay,uh l≤qP l
 | []=>dw _
 | x :: l=>by
  have:=PD l;have h2:=Es x.text
  simp only [uh,qP,gD];split <;> omega
theorem acr {x:ay}:∀ {l:List ay},x∈l→x.text.size < qP l
 | [],h=>by cases h
 | y :: l,h=>by
  simp only [qP]
  rcases ow.1 h with rfl|h
  ·omega
  have:=acr h;omega
theorem anV (l m:List ay):uh (l++m)=uh l+uh m:=by
 induction l with
 | nil=>simp [uh]
 | cons x l ih=>simp [uh,ih];omega
theorem anW {l:List ay} {k:Nat} (h:k < l.length):uh (l.take (k+1))=uh (l.take k)+gD l[k]:=by
 rw [mV h,anV];simp [uh]
theorem aoh (l m:List ay):qP (l++m)=qP l+qP m:=by
 induction l with
 | nil=>simp [qP]
 | cons x l ih=>simp [qP,ih];omega
theorem aoi (l:List ay) (k:Nat):qP (l.take k)≤qP l:=by
 have:=aoh (l.take k) (l.drop k);rw [List.take_append_drop] at this;omega
theorem Dl {G:GH} {l:List ay} {A:Option Addr} {k:Nat} (hk:k < l.length) (hg:∀ k r,(l.map ay.dat)[k]?=some r→∃ b o cs,A=some ⟨b,o,none⟩∧cs.length=11∧(∀ j u,cs[j]?=some u→aG G b (o+k*11+j)=some u)∧bJ G r cs) :
  ∃ b o pA pn pc dA dn dc yA yn yc fA fn fc rA rn rc,A=some ⟨b,o,none⟩∧(∀ j u,[vi l[k].kind,vi l[k].code,vi l[k].id,.string l[k].text,.slice pA pn pc,vi l[k].head.marks.ins,vi l[k].head.marks.move,.slice dA dn dc,.slice yA yn yc,.slice fA fn fc,.slice rA rn rc][j]?=some u→aG G b (o+k*11+j)=some u) ∧
   qC G l[k].head (.slice pA pn pc) (.slice dA dn dc) (.slice yA yn yc)∧aC G (.sl 11 (l[k].flow.map ay.dat)) (.slice fA fn fc)∧aC G (.sl 6 (l[k].rows.map bH.dat)) (.slice rA rn rc):=by
 obtain ⟨b,o,cs,h1,h2,h3,h4⟩:=hg k l[k].dat (by simp [hk]);obtain ⟨pA,pn,pc,dA,dn,dc,yA,yn,yc,fA,fn,fc,rA,rn,rc,rfl,h5,h6,h7⟩:=h4.item;exact ⟨b,o,pA,pn,pc,dA,dn,dc,yA,yn,yc,fA,fn,fc,rA,rn,rc,h1,h3,h5,h6,h7⟩
theorem afg {l:List ay} {k:Nat} (h:k < l.length):xA (l.take (k+1))=(xA (l.take k) && decide (Al l[k]=0)):=by
 unfold xA
 rw [mV h,List.all_append];simp
theorem aff {l:List ay} {k:Nat} (h:k < l.length) (hn:¬ Al l[k]=0):xA l=false:=by
 unfold xA
 rw [List.all_eq_false];exact ⟨l[k],jv h,by simpa using hn⟩
theorem aaO:∀ l:List ay,l.length≤qP l
 | []=>dw _
 | x :: l=>by have:=aaO l;simp only [kW,qP];omega
theorem V5:∀ l:List ay,qP l≤bq l
 | []=>dw _
 | x :: l=>by
  have:=V5 l;have h2:=oW x
  simp only [qP,bq,dV,dZ] at *;omega
theorem Jt (G:GH) (w0:World) (hG:Hold G w0) (l:List ay) (v:aj) (hv:aC G (.sl 11 (l.map ay.dat)) v) (hz:bq l≤4294967296) :
  Calls prog 51 #[v] w0 (bY w0 G fun v G'=>v=.tuple #[vi (oQ l),vi (U2 l)]∧G=G'):=by
 obtain ⟨A,c,rfl,hc1,hc2,hg⟩:=hv.slice;rw [bQ] at *;have hll:=aaO l;have htz:=V5 l;refine eN [(0,_)] func51 rfl ntmps51 rfl rfl hG ?_;intro a H;refine kP H (SR fun _ K1=>Ra rfl (ak K1 rfl (SR fun _ K2=>ak K2 rfl (SQ fun _ K3=>SR fun _ K4=>Rm rfl (Rl kr rfl (Rm rfl (Kz K4 (SB ?_))))))));clear H K1 K2 K4;intro a H;skip;refine eT (ι:=Nat) (Tc:=[(9,_),(10,_)]) (Lc:=[]) (fun gh=>[(4,vi (uh (l.take gh))),(11,vi gh)]) (fun gh=>[]) (fun gh=>G) (fun gh=>gh≤l.length∧xA (l.take gh)=true) (fun gh=>l.length - gh) (0) (by exact (H).sub ⟨rfl,rfl,rfl,rfl,aB⟩) ?_ ?_
 ·exact ⟨by omega,by simp [xA]⟩
 clear H;intro k a w hI H;obtain ⟨hk,hd⟩:=hI;dsimp only [lca,aO] at H;refine kP H (SR fun _ K5=>Rc rfl (Kz K5 (SQ fun _ K6=>Cd rfl ?_ ?_))) <;> clear H K5
 ·intro h12 a H
  try have pK:=dT h12
  have hk2:k < l.length:=by omega
  obtain ⟨b,o,pA,pn,pc,dA,dn,dc,yA,yn,yc,fA,fn,fc,rA,rn,rc,rfl,hrow,-⟩:=Dl hk2 hg;have hsm:=anW hk2;have hle:=PD (l.take (k+1));have hle2:=aoi l (k+1);refine kP H (Kc K6 (SQ fun _ K7=>SB (SR fun _ K8=>Ri kr fC rfl rfl ?_)));clear H K6;intro a H;refine bP fC (cs:=[_,_,_,_,_,_,_,_,_,_,_]) H wn rfl rfl (fun j v hj=>H.hp.aG (hrow j v hj)) rfl ?_;clear H;intro a H;refine eH fC H wn rfl ?_;clear H;intro b6 a w hb6 H;refine bT fC 0 (vs:=[_,_,_,_,_,_,_,_,_,_,_]) _ H wn rfl rfl rfl rfl rfl rfl rfl rfl ?_;clear H;intro w H;dsimp only [List.set,setRow] at H;refine K8 _ _ ?_;clear K8;refine dh (fun _ K9=>?_);refine bP fC (cs:=[_,_,_,_,_,_,_,_,_,_,_]) H wn rfl rfl (H.hp.gB 0 rfl rfl) rfl ?_;clear H;intro a H;refine s_call afo H wn rfl (aor _ _ H.ro _ _ _ _ _ _ _ _ _ _ (by have:=acr (jv hk2);omega)) rfl ?_;clear H;rintro v17 _ a w ⟨rfl,rfl⟩ - H;refine kH H (Rm rfl ?_);clear H;intro a H;(iterate 2 refine nA H wn rfl rfl rfl ?_;clear H;intro a H);refine kH H (Ra rfl (ak K9 rfl (SQ fun _ aV=>SR fun _ bF=>Rm rfl (Rc rfl (Kz bF (Cd rfl ?_ ?_)))))) <;> clear H K9 bF
  ·intro h21 a H
   try have nX:=dT h21
   refine kP H (SR fun _ bG=>Ra rfl (ak bG rfl ?_));clear H bG;intro a H;refine dG ?_;refine (gV H results51 (.cons (bB H rfl) (.cons (bB H rfl) .nil)) ?_).1;exact H.rt ⟨by simp [oQ,U2,aff hk2 nX],rfl⟩
  intro h21 a H
  try have nX:=dF h21
  refine kP H (Kc aV (SC (Rm rfl (Rm rfl (Rd rfl ?_)))));clear H aV;intro a H;rw [← Int.natCast_add,← hsm] at H;refine kH H (aM K7 rfl (SC (Rd rfl (Rm rfl ?_))));clear H K7;intro a H;refine aJ ?_;refine dH ((k+1)) (by exact (H.dB (Pl:=[_]) (cB:=[]) [] (by decide) rfl).sub ⟨rfl,rfl,rfl,rfl,aB⟩) ?_ ?_
  ·exact ⟨by omega,by rw [afg hk2,hd];simpa using nX⟩
  first|omega|(dsimp only;omega)
 intro h12 a H
 try have pK:=dF h12
 refine dR ?_;refine K3 _ _ ?_;clear K3;refine kP H (SR fun _ bM=>Rm rfl (Ra rfl (ak bM rfl ?_)));clear H bM;intro a H;refine dG ?_;refine (gV H results51 (.cons (bB H rfl) (.cons (bB H rfl) .nil)) ?_).1;exact H.rt ⟨by rw [show l.take k=l from lZ (by omega)] at hd ⊢;simp [oQ,U2,hd],rfl⟩
end
section
open Go.RowKit
section
variable {P:Program} {N:Nat} {D:List Deferred} {w0 w w':World} {F:Nat→Prop} {G0 G G':GH} {L L' Li Lo:OL} {T:List (Nat × aj)} {a a':Act} {Q:Exit→Act→World→Prop}
theorem St.cast (h:St N D w0 F G0 G L T a w) (e:L=L'):St N D w0 F G0 G L' T a w:=e ▸ h
theorem St.assoc {A B C:OL} (h:St N D w0 F G0 G ((A++B)++C) T a w):St N D w0 F G0 G (A++(B++C)) T a w:=h.cast (jQ _ _ _)
theorem St.un {A B C:OL} (h:St N D w0 F G0 G (A++(B++C)) T a w):St N D w0 F G0 G ((A++B)++C) T a w:=h.cast (jQ _ _ _).symm
theorem St.Vd {A B:OL} (h:St N D w0 F G0 G (A++B) T a w):St N D w0 F G0 G (A++(B++[])) T a w:=h.cast (by rw [nH])
theorem BP {ι κ:Type} {Lc:OL} {AU:Operand} {ps:List Nat} {assign body:Code} {gf:FuncId} {caps:List aj} {xs:List AP} {Gi:GH}
  (Lv:Nat→ι→OL) (Lt:Nat→ι→OL) (inv:Nat→ι→GH→Prop) (cx:κ→Code) (Lx FP:κ→OL) (Bo:κ→GH→Prop) (i0:ι)
  (H:St N D w0 F G0 G (Lc++Lv 0 i0++Lt 0 i0) T a w) (hg:ev T AU=some (.func (.func gf) #[] caps.toArray)) (en:∀ args w,(callFunc gf args).run P w=.ok (.enter gf args) w) (hit:Iter P Gi (.func (.func gf) #[] caps.toArray) xs) (hGi:∀ b o,Gi b=some o→G b=some o)
  (hps:ps.all (Nat.blt · N)=true) (hlen:∀ k args g,yu xs k args g→args.length=ps.length) (hinv:∀ k i (G G':GH),(∀ b o,G b=some o→G' b=some o)→inv k i G→inv k i G') (TS:∀ x (G G':GH),(∀ b o,G b=some o→G' b=some o)→Bo x G→Bo x G') (h0:inv 0 i0 G)
  (round:∀ (l:Nat) (uX sw:Obj) (bk:OL) (k:Nat) (args:List aj) (i:ι) (G1:GH) (w1:World) (F1:Nat→Prop) (B1:Code→Exit→Act→World→Prop) (a1:Act),yu xs k args G1→(∀ b o,G b=some o→G1 b=some o)→inv k i G1 →
   (∀ T' G2 L2 a2 w2 c,St N [] w1 F1 G1 G2 ((l,uX) :: L2) T' a2 w2→(∀ w3,St N [] w1 F1 G1 G2 ((l,sw) :: L2) T' a2 w3→WP (some l) P c (B1 c) a2 w3)→Exit.then (fun a2 w2=>∃ w3,(Instr.beginRound l).run P w2=.ok () w3∧c.wpIn (FW (some l)) 0 P (B1 c) a2 w3) (fun _ _ _=>False) .normal a2 w2) →
   (∀ i' T' G2 a2 w2 c,St N [] w1 F1 G1 G2 ((l,sw) :: (Lc++Lv (k+1) i'++(bk++Lt (k+1) i'))) T' a2 w2→inv (k+1) i' G2→B1 c .normal a2 w2) →
   (∀ x T' G2 a2 w2 c,St N [] w1 F1 G1 G2 ((l,sw) :: (Lc++Lx x++(bk++FP x))) T' a2 w2→Bo x G2→(cx x=.ret→B1 c .ret a2 w2)∧∀ n,cx x=.exit n→B1 c (.exit n) a2 w2) →
   St N [] w1 F1 G1 G1 ((l,uX) :: (Lc++Lv k i++(bk++Lt k i))) (qX ps args T) a1 w1 →
   WP (some l) P assign (Exit.then (fun a2 w2=>∃ w3,(Instr.beginRound l).run P w2=.ok () w3∧body.wpIn (FW (some l)) 0 P (B1 body) a2 w3) (fun _ _ _=>False)) a1 w1)
  (hdone:∀ Dk i G1 a1 w1,(∀ b o,G b=some o→G1 b=some o)→inv xs.length i G1→St N ({ target:=.collected Dk,args:=#[] } :: D) w0 F G0 G1 ((Dk,.deferred (some [])) :: (Lc++Lv xs.length i++Lt xs.length i)) T a1 w1→Q .normal a1 w1)
  (hstop:∀ Dk x G1 a1 w1,(∀ b o,G b=some o→G1 b=some o)→Bo x G1→St N ({ target:=.collected Dk,args:=#[] } :: D) w0 F G0 G1 ((Dk,.deferred (some [])) :: (Lc++Lx x++FP x)) T a1 w1→WP none P (cx x) Q a1 w1) :
  WP none P (.rangeFunc AU ps.toArray assign body) Q a w:=by
 refine aei (J:=fun k g L=>∃ i,L=Lc++Lv k i++Lt k i∧inv k i g) (Jx:=fun c g L=>∃ x,c=cx x∧L=Lc++Lx x++FP x∧Bo x g) H hg en hit hGi hps hlen (fun k G G' L hm ⟨i,e,h⟩=>⟨i,e,hinv k i G G' hm h⟩) (fun c G G' L hm ⟨x,e1,e2,h⟩=>⟨x,e1,e2,TS x G G' hm h⟩) ⟨i0,rfl,h0⟩ ?_ ?_ ?_
 ·rintro l q bk k args G1 L1 w1 a1 hk hm ⟨i,rfl,hi⟩ H1
  have pm:∀ A B:OL,(bk++(A++B)).Perm (A++(bk++B)):=fun A B=>by
   rw [← jQ,← jQ]
   exact List.Perm.append_right B og
  refine round l (q.at .ready none) (q.at .busy none) bk k args i G1 w1 _ (fun _=>roundPost P l _) a1 hk hm hi ?_ ?_ ?_ (H1.perm (List.Perm.cons _ (pm _ _)))
  ·intro T' G2 L2 a2 w2 c H2 h
   exact XV H2 h
  ·intro i' T' G2 a2 w2 c H2 h2
   exact JC none (H2.perm (List.Perm.cons _ (pm _ _).symm)) ⟨_,rfl,i',rfl,h2⟩
  ·intro x T' G2 a2 w2 c H2 h2
   have H3:=H2.perm (List.Perm.cons _ (pm _ _).symm)
   refine ⟨fun e=>?_,fun n e=>?_⟩
   ·exact JC (some .ret) H3 ⟨_,_,rfl,x,e.symm,rfl,h2⟩
   ·exact JC (some (.exit n)) H3 ⟨_,_,rfl,x,e.symm,rfl,h2⟩
 ·rintro Dk G1 L1 a1 w1 hm ⟨i,rfl,hi⟩ H1
  exact hdone Dk i G1 a1 w1 hm hi H1
 ·rintro Dk c G1 L1 a1 w1 hm ⟨x,rfl,rfl,hx⟩ H1
  exact hstop Dk x G1 a1 w1 hm hx H1
def Jv (ds:List Nat):List Deferred:=ds.map fun b=>{ target:=.collected b,args:=#[] }
def lW (ds:List Nat):OL:=ds.map fun b=>(b,.deferred (some []))
theorem Ng {r:Option Nat} {ι:Type} {c:Code} {Tc:List (Nat × aj)} {Lc:List (Nat × Obj)} (Dv:ι→List Deferred) (Tv:ι→List (Nat × aj)) (Lv:ι→List (Nat × Obj)) (Gv:ι→GH) (Pr:ι→Prop) (m:ι→Nat) (i0:ι)
  (H:St N (Dv i0) w0 F G0 (Gv i0) (Lc++Lv i0) (Tv i0++Tc) a w) (hP:Pr i0)
  (round:∀ i a w,Pr i→St N (Dv i) w0 F G0 (Gv i) (Lc++Lv i) (Tv i++Tc) a w →
   WP r P c (Exit.then (fun a' w'=>∃ i',(St N (Dv i') w0 F G0 (Gv i') (Lc++Lv i') (Tv i'++Tc) a' w'∧Pr i')∧m i' < m i) Q) a w):WP r P (.loop c) Q a w :=
 XZ (fun i a w=>St N (Dv i) w0 F G0 (Gv i) (Lc++Lv i) (Tv i++Tc) a w∧Pr i) m i0 ⟨H,hP⟩ fun i a w hI=>round i a w hI.2 hI.1
theorem Hu {ι:Type} {Dv:ι→List Deferred} {Tc:List (Nat × aj)} {Lc:List (Nat × Obj)} {Tv:ι→List (Nat × aj)} {Lv:ι→List (Nat × Obj)} {Gv:ι→GH} {Pr:ι→Prop} {m:ι→Nat} {i:ι} (i':ι)
  (H:St N (Dv i') w0 F G0 (Gv i') (Lc++Lv i') (Tv i'++Tc) a w) (hP:Pr i') (hm:m i' < m i) :
  ∃ i',(St N (Dv i') w0 F G0 (Gv i') (Lc++Lv i') (Tv i'++Tc) a w∧Pr i')∧m i' < m i:=⟨i',⟨H,hP⟩,hm⟩
theorem zY {fn:Func} {R:Ending→World→Prop} {Lh Lt:OL}:∀ (ds:List Nat) {a:Act} {w:World},St N (Jv ds) w0 F G0 G (Lh++(lW ds++Lt)) T a w →
  (∀ a' w',St N [] w0 F G0 G (Lh++Lt) T a' w'→bodyPostM (FW none) 0 P fn R .ret a' w')→bodyPostM (FW none) 0 P fn R .ret a w∧bodyPostM (FW none) 0 P fn R .normal a w
 | [],a,w,H,k=>⟨k a w H,k a w H⟩
 | b :: ds,a,w,H,k=>by
  refine xL (b:=b) (D:=Jv ds) H Lh.length (by rw [BL (dw _),Nat.sub_self];rfl) fun a' w' H'=>?_
  refine (zY ds (Lh:=Lh) (Lt:=Lt) (H'.cast ?_) k).1
  rw [List.eraseIdx_append_of_length_le (dw _),Nat.sub_self];rfl
end
end
section
open Go.RowKit
def n1 (x:ay):Nat:=if Al x=0 then gD x else 0
theorem OQ (x:ay):oQ [x]=n1 x:=by
 simp only [oQ,xA,n1,uh,List.all_cons,List.all_nil,Bool.and_true,uH]
 split <;> simp_all
theorem aC.len {G:GH} {sz:Nat} {rows:List (List Dat)} {A:Option Addr} {n c:Nat} (h:aC G (.sl sz rows) (.slice A n c)):n=rows.length:=h.cells.1
theorem aC.at_ {G:GH} {sz:Nat} {rows:List (List Dat)} {A:Option Addr} {n c:Nat} (h:aC G (.sl sz rows) (.slice A n c)):∀ k r,rows[k]?=some r→∃ b o cs,A=some ⟨b,o,none⟩∧cs.length=sz∧(∀ j u,cs[j]?=some u→aG G b (o+k*sz+j)=some u)∧bJ G r cs:=by
 obtain ⟨A2,c2,e,_,_,hg⟩:=h.slice
 cases e;exact hg
theorem E5 {G:GH} {l:List bH} {A:Option Addr} {k:Nat} (hk:k < l.length) (hg:∀ k r,(l.map bH.dat)[k]?=some r→∃ b o cs,A=some ⟨b,o,none⟩∧cs.length=6∧(∀ j u,cs[j]?=some u→aG G b (o+k*6+j)=some u)∧bJ G r cs) :
  ∃ b o pA pn pc dA dn dc yA yn yc cA cn cc,A=some ⟨b,o,none⟩∧(∀ j u,[.slice pA pn pc,vi l[k].head.marks.ins,vi l[k].head.marks.move,.slice dA dn dc,.slice yA yn yc,.slice cA cn cc][j]?=some u→aG G b (o+k*6+j)=some u) ∧
   qC G l[k].head (.slice pA pn pc) (.slice dA dn dc) (.slice yA yn yc)∧aC G (.sl 7 (l[k].cells.map bD.dat)) (.slice cA cn cc):=by
 obtain ⟨b,o,cs,h1,h2,h3,h4⟩:=hg k l[k].dat (by simp [hk]);obtain ⟨pA,pn,pc,dA,dn,dc,yA,yn,yc,cA,cn,cc,rfl,h5,h6⟩:=h4.row;exact ⟨b,o,pA,pn,pc,dA,dn,dc,yA,yn,yc,cA,cn,cc,h1,h3,h5,h6⟩
theorem C8 {G:GH} {l:List bD} {A:Option Addr} {k:Nat} (hk:k < l.length) (hg:∀ k r,(l.map bD.dat)[k]?=some r→∃ b o cs,A=some ⟨b,o,none⟩∧cs.length=7∧(∀ j u,cs[j]?=some u→aG G b (o+k*7+j)=some u)∧bJ G r cs) :
  ∃ b o pA pn pc dA dn dc yA yn yc fA fn fc,A=some ⟨b,o,none⟩∧(∀ j u,[vi l[k].id,.slice pA pn pc,vi l[k].head.marks.ins,vi l[k].head.marks.move,.slice dA dn dc,.slice yA yn yc,.slice fA fn fc][j]?=some u→aG G b (o+k*7+j)=some u) ∧
   qC G l[k].head (.slice pA pn pc) (.slice dA dn dc) (.slice yA yn yc)∧aC G (.sl 11 (l[k].flow.map ay.dat)) (.slice fA fn fc):=by
 obtain ⟨b,o,cs,h1,h2,h3,h4⟩:=hg k l[k].dat (by simp [hk]);obtain ⟨pA,pn,pc,dA,dn,dc,yA,yn,yc,fA,fn,fc,rfl,h5,h6⟩:=h4.cell;exact ⟨b,o,pA,pn,pc,dA,dn,dc,yA,yn,yc,fA,fn,fc,h1,h3,h5,h6⟩
end
section
open Go.RowKit
structure jT where
 (f p d y r s1 s2 s3 s4:Option Addr × Nat × Nat)
 (ins move:Int)
abbrev bU (x:Option Addr × Nat × Nat):aj:=.slice x.1 x.2.1 x.2.2
abbrev jT.cells (D:jT):List aj:=[bU D.f,bU D.p,vi D.ins,vi D.move,bU D.d,bU D.y,bU D.r,bU D.s1,bU D.s2,bU D.s3,bU D.s4]
abbrev jT.val (D:jT):aj:=.agg D.cells.toArray
end
section
abbrev aQ (b o : Nat) : Value := .pointer (some ⟨b, o, none⟩)
end
end Go.Proofs.YthmanofbmnfemaaGreat
