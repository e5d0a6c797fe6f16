/-
  What the claim stands on, part 1: Lg Op Oq Cb Rep Dr Sq Cp Row Run Rg Pos Pq Doc Dq.
-/
import Derived.Test.YtomebajfpcjoeaaGreatDoorProg
import Derived.CallsIn
import Derived.TacticsIn
import Derived.RangeFuncIn
import Derived.RangeFuncLeaves
import Derived.RangeFuncRecord
import Derived.Below
import Derived.KernelRfl
import Derived.Maps.AppendAt
import Derived.IntWalk
import Derived.OrdersIn
import Derived.Test.YtomebajfpcjoeaaGreatDoorRows
namespace Go.Proofs.YtomebajfpcjoeaaGreatDoor
set_option linter.all false
open Go.Proofs.Tryz
theorem O.{u} {α:Sort u} {a:α}:a=a:=rfl
theorem V {p:Prop} (h:p:=by omega):p:=h
theorem Z {p:Prop} (h:p:=by kernel_rfl):p:=h
theorem Y {p:Prop} (h:p:=by decide):p:=h
section
theorem aI:True:=trivial
theorem aL.{u}:∀ {c:Prop} {h:Decidable c},¬c->∀ {α:Sort u} {t e:α},(if c then t else e)=e:=@if_neg
theorem aN.{u}:∀ {c:Prop} {h:Decidable c},c->∀ {α:Sort u} {t e:α},(if c then t else e)=t:=@if_pos
theorem bJ.{u_1,u_2}:∀ {α:Type u_1} {β:Type u_2} {xs:List α} (f:α->β),List.length (List.map f xs)=List.length xs:=@List.length_map
theorem bS:∀ (n:Nat),n<=n:=@Nat.le_refl
theorem dB:∀ {α β:Type} (P:Go.Program) (w:Go.World) (x:Go.Sem α) (f:α->Go.Sem β),   Go.Sem.run P (x >>= f) w=Go.Result.andThen (Go.Sem.run P x w) fun a w'=>Go.Sem.run P (f a) w':=@Go.Sem.run_bind
theorem dU:∀ {p:Prop} [inst:Decidable p],(decide p=true)=p:=@decide_eq_true_eq
theorem dV.{u_1}:∀ {α:Type u_1} {l:List α} {n:Nat} (h:n < List.length l),l[n]∈l:=@List.getElem_mem
theorem eH:∀ (n:Nat),0+n=n:=@Nat.zero_add
theorem fC:∀ (n:Nat),0<=n:=@Nat.zero_le
theorem fP.{u_1}:∀ {α:Type u_1} (l:List α),List.Sublist l l:=@List.Sublist.refl
theorem fQ.{u}:∀ {α:Type u} {xs bs:List α},List.length (xs++bs)=List.length xs+List.length bs:=@List.length_append
theorem gG.{u_1}:∀ {α:Type u_1} {i:Nat} {l:List α},List.length l<=i->List.take i l=l:=@List.take_of_length_le
theorem gN.{u_1}:∀ {α:Type u_1} {i:Nat} {a:α} {l:List α},l[i]?=some a↔∃ h,l[i]=a:=@List.getElem?_eq_some_iff
theorem gV.{u,v}:∀ {α:Type u} {β:Type v} {f:α->β} {a:α} {l:List α},List.map f (a :: l)=f a :: List.map f l:=@List.map_cons
theorem gW.{u_1}:∀ {α:Type u_1} {p:α->Bool} {l:List α},List.all l p=true↔∀ (x:α),x∈l->p x=true:=@List.all_eq_true
theorem gY.{u,v}:∀ {α:Type u} {β:Type v} (fst:α) (snd:β) (T9:α) (Xc:β),   ((fst,snd)=(T9,Xc))=(fst=T9∧snd=Xc):=@Prod.mk.injEq
theorem gZ.{u,v}:∀ {α:Sort u} {β:Sort v} {a₁ a₂:α} (f:α->β),a₁=a₂->f a₁=f a₂:=@congrArg
theorem iG:∀ (a b:Bool),((a && b)=true)=(a=true∧b=true):=@Bool.and_eq_true
theorem iR.{u_1}:∀ {α:Type u_1} {l:List α} {i:Nat} (h:i < List.length l),l[i]?=some l[i]:=@List.getElem?_eq_getElem
theorem jq.{u_1}:∀ {α:Type u_1} {i:Nat} {l:List α} (h:i < List.length l),List.take (i+1) l=List.take i l++[l[i]]:=@List.take_succ_eq_append_getElem
theorem jw.{u_1,u_2}:∀ {α:Type u_1} {β:Type u_2} {f:α->β} {l₁ l₂:List α},List.map f (l₁++l₂)=List.map f l₁++List.map f l₂:=@List.map_append
theorem jH:∀ {α β:Type} (a:α) (w:Go.World) (f:α->Go.World->Go.Result β),Go.Result.andThen (Go.Result.ok a w) f=f a w:=@Go.Result.andThen_ok
theorem kg.{u_1}:∀ {α:Type u_1} {l:List α} {i:Nat} {a:α},l[i]?=some a->a∈l:=@List.mem_of_getElem?
theorem ko.{u}:∀ {α:Type u} {a:α} {xs:List α},List.length (a :: xs)=List.length xs+1:=@List.length_cons
theorem kZ.{u}:∀ {α:Type u} (val XV:α),(some val=some XV)=(val=XV):=@Option.some.injEq
theorem lU.{u}:∀ {α:Type u} (xs:List α),xs++[]=xs:=@List.append_nil
theorem mh:∀ {α:Type} (P:Go.Program) (w:Go.World) (a:α),Go.Sem.run P (pure a) w=Go.Result.ok a w:=@Go.Sem.run_pure
theorem mZ.{u_1,u_2}:∀ {α:Type u_1} {b:α} {Ym:Type u_2} {x:Option Ym} {f:Ym->α},   Option.map f x=some b↔∃ a,x=some a∧f a=b:=@Option.map_eq_some_iff
theorem nM.{u_1,u_2}:∀ {α:Type u_1} {β:Type u_2} {f:α->β} {l:List α} {i:Nat},(List.map f l)[i]?=Option.map f l[i]?:=@List.getElem?_map
theorem nN.{u_1}:∀ {α:Type u_1} {a:α} {l:List α},a∈a :: l:=@List.mem_cons_self
theorem nT.{u_1}:∀ {α:Type u_1} {b:α} {l:List α} {a:α},a∈b :: l↔a=b∨a∈l:=@List.mem_cons
theorem nU.{u}:∀ {α:Type u} {a:α} {xs bs:List α},a :: xs++bs=a :: (xs++bs):=@List.cons_append
theorem oU.{u}:∀ {α:Type u} (xs bs cs:List α),xs++bs++cs=xs++(bs++cs):=@List.append_assoc
theorem pQ:∀ {p:Prop} {x:Decidable p},decide p=false↔¬p:=@decide_eq_false_iff_not
theorem qD:∀ (n:Nat),n+0=n:=@Nat.add_zero
theorem qE.{u_1}:∀ {α:Type u_1} {l:List α},List.take (List.length l) l=l:=@List.take_length
theorem rF:∀ {m n:Nat},m∈List.range n↔m < n:=@List.mem_range
theorem rG:∀ {p:Prop} [inst:Decidable p],decide p=true->p:=@of_decide_eq_true
theorem rH.{u_1}:∀ {α:Type u_1} {l₁ l₂:List α} {i:Nat},i < List.length l₁->(l₁++l₂)[i]?=l₁[i]?:=@List.getElem?_append_left
theorem rJ.{u_1,u_2}:∀ {α:Type u_1} {β:Type u_2} (a:α) (f:α->β),Option.map f (some a)=some (f a):=@Option.map_some
theorem sG.{u_1}:∀ {α:Type u_1} {l₁ l₂:List α} {i:Nat},List.length l₁<=i->(l₁++l₂)[i]?=l₂[i - List.length l₁]?:=@List.getElem?_append_right
theorem tT.{u}:∀ {α:Type u} {R:α->α->Prop} {a:α} {l:List α},   List.Pairwise R (a :: l)↔(∀ (a':α),a'∈l->R a a')∧List.Pairwise R l:=@List.pairwise_cons
theorem tV.{u_1}:∀ {α:Type u_1} {a:α} {s t:List α},a∈s++t↔a∈s∨a∈t:=@List.mem_append
theorem tX.{u_1}:∀ {α:Type u_1} {l:List α} {i j:Nat},(List.take i l)[j]?=if j < i then l[j]? else none:=@List.getElem?_take
theorem tY.{u,v}:∀ {α:Type u} {β:Type v} {f:α->β},List.map f []=[]:=@List.map_nil
theorem tZ.{u_1}:∀ {α:Type u_1} (y:α) {a:α} {l:List α},a∈l->a∈y :: l:=@List.mem_cons_of_mem
theorem uN.{u}:∀ {α:Type u} (xs:List α),[]++xs=xs:=@List.nil_append
theorem uO.{u_1}:∀ {α:Type u_1} [inst:BEq α] [LawfulBEq α] {a:α} {xs:List α},List.contains xs a=true↔a∈xs:=@List.contains_iff_mem
theorem uP.{u_1}:∀ {α:Type u_1} {a b:α},a∈[b]↔a=b:=@List.mem_singleton
theorem vQ:∀ {n m:Nat},Nat.beq n m=true->n=m:=@Nat.eq_of_beq_eq_true
theorem wZ:∀ {p:Prop} [inst:Decidable p],p->decide p=true:=@decide_eq_true
theorem yD:(false=true)=False:=@Bool.false_eq_true
theorem zx.{u_1}:∀ {α:Type u_1} {a:α} {l:List α},(a :: l)[0]?=some a:=@List.getElem?_cons_zero
theorem zy:∀ {p:Prop} [inst:Decidable p],¬p->decide p=false:=@decide_eq_false
theorem BP.{u_1}:∀ {α:Type u_1} {xs:Array α},List.length xs.toList=Array.size xs:=@Array.length_toList
theorem DC:∀ {p:Prop} [Decidable p],¬¬p↔p:=@Decidable.not_not
theorem Mg:∀ (n m:Nat),n+m - n=m:=@Nat.add_sub_cancel_left
abbrev ak := Value
theorem jK {a b:Bool} (h:a=b):Value.bool a=Value.bool b:=congrArg _ h
end
abbrev bL (f : FuncId) : Prop := ∀ (args : Array Value) (w : World), (callFunc f args).run Tryz.prog w = .ok (.enter f args) w
open Go.RowKit
section
def FW (r:Option Nat):Fence:={ Fence.wide with round:=r }
theorem Ij (r:Option Nat):(FW r).depth.isSome=true->1<=(0:Nat):=by intro h;cases h
abbrev WP (r:Option Nat) (P:Program) (c:Code) (Q:Exit->Act->World->Prop) (a:Act) (w:World):Prop:=c.wpIn (FW r) 0 P Q a w
abbrev WL (r:Option Nat) (P:Program) (ops:Array Oper) (Q:Exit->Act->World->Prop) (l:List Oper) (a:Act) (w:World):Prop:=wpListIn (FW r) 0 P ops Q l a w
theorem MG {r:Option Nat} {n:Nat} {P:Program} {f:FuncId} {args:Array ak} {w:World} {R:Ending->World->Prop} (h:Calls P f args w R):CallsIn (FW r) n P f args w R:=callsIn_wide.2 h
theorem ZK {r:Option Nat} {n:Nat} {P:Program} {f:FuncId} {args:Array ak} {w:World} {R:Ending->World->Prop} (h:CallsIn (FW r) n P f args w R):Calls P f args w R:=callsIn_wide.1 h
def lk:List (Nat × ak)->Nat->Option ak
 | [],_=>none
 | (s,v) :: r,t=>bif Nat.beq s t then some v else lk r t
theorem jX (t:Nat) (v:ak) (T:List (Nat × ak)):lk ((t,v) :: T) t=some v:=by simp [lk]
theorem fJ {s t:Nat} (h:s≠t) (v:ak) (T:List (Nat × ak)):lk ((s,v) :: T) t=lk T t:=by
 have:Nat.beq s t=false:=by
  cases h':Nat.beq s t with
  | false=>rfl
  | true=>exact absurd (vQ h') h
 simp [lk,this]
def ev (T:List (Nat × ak)):Operand->Option ak
 | .tmp t=>lk T t
 | .const v=>some v
 | .global g=>some (.pointer (some ⟨g,0,none⟩))
 | .func f=>some (.func (.func f) #[] #[])
def evs (T:List (Nat × ak)):List Operand->Option (List ak)
 | []=>some []
 | x :: r=>match ev T x,evs T r with|some v,some vs=>some (v :: vs)|_,_=>none
abbrev GH:=Nat->Option Obj
structure Hp (w0:World) (F:Nat->Prop) (G0 G:GH) (L:List (Nat × Obj)) (w:World):Prop where
 os:w.os=w0.os
 tape:w.tape=w0.tape
 output:w.output=w0.output
 size:w0.heap.size<=w.heap.size
 sJ:∀ k,F k->k < w0.heap.size
 fr:∀ k,F k->w.heap[k]?=w0.heap[k]?
 ro:∀ k o,G k=some o->w.heap[k]?=some o
 gm:∀ k o,G0 k=some o->G k=some o
 gx:∀ k o,G k=some o->G0 k=some o∨¬ F k
 own:∀ p∈L,w.heap[p.1]?=some p.2
 qV:∀ p∈L,G p.1=none
 qU:∀ p∈L,¬ F p.1
 nd:L.Pairwise fun p q=>p.1≠q.1
structure St (N:Nat) (D:List Deferred) (w0:World) (F:Nat->Prop) (G0 G:GH) (L:List (Nat × Obj)) (T:List (Nat × ak)) (a:Act) (w:World):Prop where
 jU:a.tmps.size=N
 get:∀ t v,lk T t=some v->a.tmps[t]?=some v
 oz:a.defers=D
 hp:Hp w0 F G0 G L w
theorem lt_of_heap {w:World} {k:Nat} {o:Obj} (h:w.heap[k]?=some o):k < w.heap.size:=(Array.getElem?_eq_some_iff.1 h).1
structure sF (b:Nat) (o:Obj) (w w':World):Prop where
 os:w'.os=w.os
 tape:w'.tape=w.tape
 output:w'.output=w.output
 size:w'.heap.size=w.heap.size
 this:w'.heap[b]?=some o
 others:∀ k,k≠b->w'.heap[k]?=w.heap[k]?
section
variable {N:Nat} {D:List Deferred} {w0 w w':World} {F:Nat->Prop} {G0 G G':GH} {L L':List (Nat × Obj)} {T:List (Nat × ak)} {a:Act} {b:Nat} {o o':Obj}
theorem Hp.lt (h:Hp w0 F G0 G L w) {p:Nat × Obj} (hp:p∈L):p.1 < w.heap.size:=lt_of_heap (h.own p hp)
theorem Hp.alloc (h:Hp w0 F G0 G L w) (o:Obj):Hp w0 F G0 G ((w.heap.size,o) :: L) (w.alloc o):=by
 have hold:∀ k,k < w.heap.size->(w.alloc o).heap[k]?=w.heap[k]?:=fun k hk=>Below.heap_alloc w o k hk
 refine ⟨h.os,h.tape,h.output,by simp;exact Nat.le_succ_of_le h.size,h.sJ,fun k hk=>(hold k (Nat.lt_of_lt_of_le (h.sJ k hk) h.size)).trans (h.fr k hk),fun k o' hk=>(hold k (lt_of_heap (h.ro k o' hk))).trans (h.ro k o' hk),h.gm,h.gx,?_,?_,?_,?_⟩
 ·intro p hp
  rcases nT.1 hp with rfl|hp
  ·show (w.heap.push o)[w.heap.size]?=some o;simp
  ·exact (hold _ (h.lt hp)).trans (h.own p hp)
 ·intro p hp
  rcases nT.1 hp with rfl|hp
  ·cases hg:G w.heap.size with
   | none=>rfl
   | some o'=>exact absurd (lt_of_heap (h.ro _ _ hg)) (Nat.lt_irrefl _)
  ·exact h.qV p hp
 ·intro p hp
  rcases nT.1 hp with rfl|hp
  ·intro hf;exact absurd (Nat.lt_of_lt_of_le (h.sJ _ hf) h.size) (Nat.lt_irrefl _)
  ·exact h.qU p hp
 ·refine tT.2 ⟨fun q hq=>?_,h.nd⟩
  have:=h.lt hq
  simp only;omega
theorem Hp.below (h:Hp w0 F G0 G L w) (hb:Below w.heap.size w w'):Hp w0 F G0 G L w':=by
 refine ⟨hb.os.trans h.os,hb.tape.trans h.tape,hb.output.trans h.output,Nat.le_trans h.size hb.size,h.sJ,fun k hk=>(hb.block k (Nat.lt_of_lt_of_le (h.sJ k hk) h.size)).trans (h.fr k hk),fun k o hk=>(hb.block k (lt_of_heap (h.ro k o hk))).trans (h.ro k o hk),h.gm,h.gx,fun p hp=>(hb.block _ (h.lt hp)).trans (h.own p hp),h.qV,h.qU,h.nd⟩
def Ext (n1:Nat) (G G':GH) (w':World):Prop:=(∀ k o,G k=some o->G' k=some o)∧(∀ k o,G' k=some o->G k=some o∨n1<=k)∧(∀ k o,G' k=some o->w'.heap[k]?=some o)
theorem Hp.RF (h:Hp w0 F G0 G L w) (hb:Below w.heap.size w w') (hx:Ext w.heap.size G G' w'):Hp w0 F G0 G' L w':=by
 have h':=h.below hb
 refine ⟨h'.os,h'.tape,h'.output,h'.size,h'.sJ,h'.fr,hx.2.2,fun k o hk=>hx.1 k o (h.gm k o hk),fun k o hk=>?_,h'.own,fun p hp=>?_,h'.qU,h'.nd⟩
 ·rcases hx.2.1 k o hk with hk|hk
  ·exact h.gx k o hk
  ·exact .inr fun hf=>absurd (Nat.lt_of_lt_of_le (h.sJ k hf) h.size) V
 ·cases hg:G' p.1 with
  | none=>rfl
  | some o =>
   rcases hx.2.1 _ _ hg with hk|hk
   ·rw [h.qV p hp] at hk;cases hk
   ·exact absurd (h.lt hp) V
theorem O9:∀ {L:List (Nat × Obj)} {i b:Nat} {o o':Obj},L.Pairwise (fun p q=>p.1≠q.1)->L[i]?=some (b,o)->(L.set i (b,o')).Pairwise fun p q=>p.1≠q.1
 | [],_,_,_,_,h,_=>h
 | p :: L,0,b,o,o',h,hi=>by
  simp only [zx,kZ] at hi
  subst hi
  exact tT.2 ⟨(tT.1 h).1,(tT.1 h).2⟩
 | p :: L,i+1,b,o,o',h,hi=>by
  simp only [List.getElem?_cons_succ] at hi
  refine tT.2 ⟨fun q hq=>?_,O9 (tT.1 h).2 hi⟩
  rcases List.mem_or_eq_of_mem_set hq with hq|rfl
  ·exact (tT.1 h).1 q hq
  ·exact (tT.1 h).1 (b,o) (kg hi)
theorem OU:∀ {L:List (Nat × Obj)} {i:Nat} {p q:Nat × Obj},L.Pairwise (fun p q=>p.1≠q.1)->L[i]?=some p->q∈L->q.1=p.1->q=p
 | [],_,_,_,_,h,_,_=>by simp at h
 | x :: L,0,p,q,h,hi,hq,e=>by
  simp only [zx,kZ] at hi
  subst hi
  rcases nT.1 hq with rfl|hq
  ·rfl
  ·exact absurd e.symm ((tT.1 h).1 q hq)
 | x :: L,i+1,p,q,h,hi,hq,e=>by
  simp only [List.getElem?_cons_succ] at hi
  rcases nT.1 hq with rfl|hq
  ·exact absurd e ((tT.1 h).1 p (kg hi))
  ·exact OU (tT.1 h).2 hi hq e
theorem Hp.upd (h:Hp w0 F G0 G L w) {i:Nat} (hi:L[i]?=some (b,o)) (hu:sF b o' w w'):Hp w0 F G0 G (L.set i (b,o')) w':=by
 have hm:(b,o)∈L:=kg hi
 refine ⟨hu.os.trans h.os,hu.tape.trans h.tape,hu.output.trans h.output,hu.size ▸ h.size,h.sJ,fun k hk=>?_,fun k o hk=>?_,h.gm,h.gx,fun p hp=>?_,fun p hp=>?_,fun p hp=>?_,O9 h.nd hi⟩
 ·exact (hu.others k (fun e=>h.qU _ hm (e ▸ hk))).trans (h.fr k hk)
 ·refine (hu.others k (fun e=>?_)).trans (h.ro k o hk)
  have:=h.qV _ hm
  rw [<- e,hk] at this;cases this
 ·by_cases e:p.1=b
  ·rcases List.mem_or_eq_of_mem_set hp with hp'|rfl
   ·obtain ⟨j,hj⟩:=List.getElem?_of_mem hp
    have hib:i < L.length:=(gN.1 hi).1
    have hset:(L.set i (b,o'))[i]?=some (b,o'):=by simp [hib]
    have:=OU (O9 (o':=o') h.nd hi) hset hp e
    rw [this];exact hu.this
   ·exact hu.this
  ·rcases List.mem_or_eq_of_mem_set hp with hp|rfl
   ·exact (hu.others _ e).trans (h.own p hp)
   ·exact absurd O e
 ·rcases List.mem_or_eq_of_mem_set hp with hp|rfl
  ·exact h.qV p hp
  ·exact (h.qV (b,o) hm:G b=none)
 ·rcases List.mem_or_eq_of_mem_set hp with hp|rfl
  ·exact h.qU p hp
  ·exact (h.qU (b,o) hm:¬ F b)
theorem Hp.drew (h:Hp w0 F G0 G L w):Hp w0 F G0 G L w.drew:=⟨h.os,h.tape,h.output,h.size,h.sJ,h.fr,h.ro,h.gm,h.gx,h.own,h.qV,h.qU,h.nd⟩
theorem Hp.drop (h:Hp w0 F G0 G L w) (hs:L'.Sublist L):Hp w0 F G0 G L' w:=⟨h.os,h.tape,h.output,h.size,h.sJ,h.fr,h.ro,h.gm,h.gx,fun p hp=>h.own p (hs.subset hp),fun p hp=>h.qV p (hs.subset hp),fun p hp=>h.qU p (hs.subset hp),h.nd.sublist hs⟩
theorem Hp.dz {Pl bZ Lo:List (Nat × Obj)} (h:Hp w0 F G0 G (Pl++Lo) w) (idx:List Nat) (hi:idx.Nodup) (hL:idx.map (fun i=>Pl[i]?)=bZ.map some):Hp w0 F G0 G (bZ++Lo) w:=by
 have hget:∀ (j:Nat) (p:Nat × Obj),bZ[j]?=some p->∃ i:Nat,idx[j]?=some i∧Pl[i]?=some p:=by
  intro j p hp
  have h1:(idx.map (fun i=>Pl[i]?))[j]?=some (some p):=by rw [hL];simp [hp]
  rw [nM] at h1
  obtain ⟨i,hi1,hi2⟩:=mZ.1 h1
  exact ⟨i,hi1,hi2⟩
 have hmem:∀ p∈bZ++Lo,p∈Pl++Lo:=by
  intro p hp
  rcases tV.1 hp with hp|hp
  ·obtain ⟨j,hj⟩:=List.getElem?_of_mem hp
   obtain ⟨i,_,hi2⟩:=hget j p hj
   exact List.mem_append_left _ (kg hi2)
  ·exact List.mem_append_right _ hp
 have hnd:=List.pairwise_append.1 h.nd
 refine ⟨h.os,h.tape,h.output,h.size,h.sJ,h.fr,h.ro,h.gm,h.gx,fun p hp=>h.own p (hmem p hp),fun p hp=>h.qV p (hmem p hp),fun p hp=>h.qU p (hmem p hp),List.pairwise_append.2 ⟨?_,hnd.2.1,fun p hp q hq=>?_⟩⟩
 ·refine List.pairwise_iff_getElem.2 fun x y hx hy hxy=>?_
  obtain ⟨i,hi1,hi2⟩:=hget x _ (iR hx)
  obtain ⟨j,hj1,hj2⟩:=hget y _ (iR hy)
  have hij:i≠j:=by
   intro e
   subst e
   obtain ⟨hx1,hx2⟩:=gN.1 hi1
   obtain ⟨hy1,hy2⟩:=gN.1 hj1
   exact (List.pairwise_iff_getElem.1 hi x y hx1 hy1 hxy) (by rw [hx2,hy2])
  obtain ⟨hi3,hi4⟩:=gN.1 hi2
  obtain ⟨hj3,Uv⟩:=gN.1 hj2
  rcases Nat.lt_or_ge i j with hlt|hge
  ·rw [<- hi4,<- Uv];exact List.pairwise_iff_getElem.1 hnd.1 i j hi3 hj3 hlt
  ·rw [<- hi4,<- Uv];exact Ne.symm (List.pairwise_iff_getElem.1 hnd.1 j i hj3 hi3 V)
 ·obtain ⟨j,hj⟩:=List.getElem?_of_mem hp
  obtain ⟨i,_,hi2⟩:=hget j p hj
  exact hnd.2.2 p (kg hi2) q hq
def GH.add (G:GH) (b:Nat) (o:Obj):GH:=fun k=>if k=b then some o else G k
theorem GH.Iw (G:GH) {b:Nat} {o:Obj} (hn:G b=none) (k:Nat) (o':Obj) (h:G k=some o'):(G.add b o) k=some o':=by
 unfold GH.add;rw [aL (fun e=>by subst e;rw [hn] at h;cases h)];exact h
theorem GH.Mc (G:GH) (b:Nat) (o:Obj):(G.add b o) b=some o:=by simp [GH.add]
theorem Hp.giveUp (h:Hp w0 F G0 G L w) (i:Nat) (hi:L[i]?=some (b,o)):Hp w0 F G0 (G.add b o) (L.eraseIdx i) w:=by
 have hm:(b,o)∈L:=kg hi
 have hsub:(L.eraseIdx i).Sublist L:=List.eraseIdx_sublist L i
 have hne:∀ p∈L.eraseIdx i,p.1≠b:=by
  intro p hp e
  have h1:=OU h.nd hi (hsub.subset hp) e
  subst h1
  obtain ⟨j,hj,hjp⟩:=List.mem_eraseIdx_iff_getElem?.1 hp
  have hnd:=h.nd
  have hij:j≠i:=hj
  have hlt1:j < L.length:=(gN.1 hjp).1
  have hlt2:i < L.length:=(gN.1 hi).1
  have e1:=(gN.1 hjp).2
  have e2:=(gN.1 hi).2
  rcases Nat.lt_or_ge j i with hlt|hge
  ·exact (List.pairwise_iff_getElem.1 hnd j i hlt1 hlt2 hlt) (by rw [e1,e2])
  ·exact (List.pairwise_iff_getElem.1 hnd i j hlt2 hlt1 V) (by rw [e1,e2])
 refine ⟨h.os,h.tape,h.output,h.size,h.sJ,h.fr,fun k o' hk=>?_,fun k o' hk=>GH.Iw G (h.qV _ hm) k o' (h.gm k o' hk),fun k o' hk=>?_,fun p hp=>h.own p (hsub.subset hp),fun p hp=>?_,fun p hp=>h.qU p (hsub.subset hp),h.nd.sublist hsub⟩
 ·unfold GH.add at hk
  split at hk
  ·rename_i e;subst e;cases hk;exact h.own _ hm
  ·exact h.ro k o' hk
 ·unfold GH.add at hk
  split at hk
  ·rename_i e;subst e;exact .inr (h.qU _ hm)
  ·exact h.gx k o' hk
 ·unfold GH.add
  rw [aL (hne p hp)]
  exact h.qV p (hsub.subset hp)
theorem St.ev (h:St N D w0 F G0 G L T a w) {x:Operand} {v:ak} (hx:Proofs.YtomebajfpcjoeaaGreatDoor.ev T x=some v):a.eval x=v:=by
 cases x with
 | tmp t =>
  have:=h.get t v hx
  simp only [Act.eval,Array.getD_eq_getD_getElem?,this,Option.getD_some]
 | const u=>simp only [Proofs.YtomebajfpcjoeaaGreatDoor.ev,kZ] at hx;subst hx;rfl
 | global g=>simpa [Proofs.YtomebajfpcjoeaaGreatDoor.ev,Act.eval] using hx
 | func f=>simpa [Proofs.YtomebajfpcjoeaaGreatDoor.ev,Act.eval] using hx
theorem St.evs (h:St N D w0 F G0 G L T a w):∀ {xs:List Operand} {vs:List ak},Proofs.YtomebajfpcjoeaaGreatDoor.evs T xs=some vs->xs.map a.eval=vs
 | [],vs,hx=>by simp [Proofs.YtomebajfpcjoeaaGreatDoor.evs] at hx;subst hx;rfl
 | x :: xs,vs,hx=>by
  unfold Proofs.YtomebajfpcjoeaaGreatDoor.evs at hx
  split at hx
  ·rename_i v vs' h1 h2
   simp only [kZ] at hx
   subst hx
   rw [gV,h.ev h1,h.evs h2]
  ·cases hx
theorem St.put (h:St N D w0 F G0 G L T a w) {d:Nat} (hd:Nat.blt d N=true) (v:ak) (H':Hp w0 F G0 G' L' w'):St N D w0 F G0 G' L' ((d,v) :: T) (a.put (some d) v) w':=by
 have hlt:d < a.tmps.size:=by rw [h.jU];exact Eq.mp Nat.blt_eq hd
 refine ⟨by simp [Act.put,h.jU],fun t u ht=>?_,h.oz,H'⟩
 simp only [Act.put,Array.getElem?_setIfInBounds]
 by_cases e:d=t
 ·subst e
  rw [jX] at ht
  simp [hlt];simpa using ht
 ·rw [fJ e] at ht
  simp [e];exact h.get t u ht
theorem St.move (h:St N D w0 F G0 G L T a w) (H':Hp w0 F G0 G' L' w'):St N D w0 F G0 G' L' T a w':=⟨h.jU,h.get,h.oz,H'⟩
def P5 (T:List (Nat × ak)):List (Nat × ak)->Prop
 | []=>True
 | (t,v) :: r=>lk T t=some v∧P5 T r
theorem Xm {T:List (Nat × ak)}:∀ {T':List (Nat × ak)},P5 T T'->∀ {t v},lk T' t=some v->lk T t=some v
 | [],_,_,_,h=>by simp [lk] at h
 | (s,u) :: r,hs,t,v,h=>by
  by_cases e:s=t
  ·subst e;rw [jX] at h;exact h ▸ hs.1
  ·rw [fJ e] at h;exact Xm hs.2 h
theorem St.sub (h:St N D w0 F G0 G L T a w) {T':List (Nat × ak)} (hs:P5 T T'):St N D w0 F G0 G L T' a w:=⟨h.jU,fun t v ht=>h.get t v (Xm hs ht),h.oz,h.hp⟩
theorem St.dz {Pl bZ Lo:List (Nat × Obj)} (h:St N D w0 F G0 G (Pl++Lo) T a w) (idx:List Nat) (hi:idx.Nodup) (hL:idx.map (fun i=>Pl[i]?)=bZ.map some):St N D w0 F G0 G (bZ++Lo) T a w:=⟨h.jU,h.get,h.oz,h.hp.dz idx hi hL⟩
end
end
section
section base
variable {r:Option Nat} {P:Program} {ops:Array Oper} {Q:Exit->Act->World->Prop} {rest:List Oper} {a:Act} {w w':World} {o:Oper}
def Ke:Op->Bool
 | .defer _=>false
 | _=>true
theorem PK {o:Oper} {ro:Option Nat} {ρ:Operand->ak} (h:Ke o.op=true):o.semAt ro ρ=execOp ρ o :=
 Oper.semAt_eq ro ρ o fun c e=>by rw [e] at h;cases h
theorem aj (h:Q .normal a w):WL r P ops Q [] a w:=wpListIn_nil h
theorem QA (hw:Region.wanted o (yielded ops a.tmps)=true) (h:o.wpIn (FW r) 0 P a w (WL r P ops Q rest) Q):WL r P ops Q (o :: rest) a w:=by
 show wpListIn (FW r) 0 P ops Q (o :: rest) a w
 unfold wpListIn
 rw [aN hw]
 exact h
theorem Yc (hw:Region.wanted o (yielded ops a.tmps)=false) (h:WL r P ops Q rest (a.put o.dst undef) w):WL r P ops Q (o :: rest) a w:=by
 show wpListIn (FW r) 0 P ops Q (o :: rest) a w
 unfold wpListIn
 rw [aL (by simp [hw])]
 exact ⟨fun _ _=>trivial,h⟩
theorem dZ {v:ak} (hw:Region.wanted o (yielded ops a.tmps)=true) (hd:Ke o.op=true) (h:(execOp a.eval o).run P w=.ok (.value v) w')
  (k:WL r P ops Q rest (a.put o.dst v) w'):WL r P ops Q (o :: rest) a w:=by
 refine QA hw ⟨fun _ _=>trivial,?_⟩
 rw [PK hd,h]
 exact k
theorem Ye (hw:Region.wanted o (yielded ops a.tmps)=true) (hd:Ke o.op=true) (h:(execOp a.eval o).run P w=.ok .skip w')
  (k:WL r P ops Q rest (a.put o.dst undef) w'):WL r P ops Q (o :: rest) a w:=by
 refine QA hw ⟨fun _ _=>trivial,?_⟩
 rw [PK hd,h]
 exact k
def After (P:Program) (nx:Result Next) (R:Ending->World->Prop):Prop :=
 match nx with
 | .ok (.enter f args) w'=>Calls P f args w' R
 | .ok (.round l f tmps assign body) w'=>RoundIn (FW none) 0 P l f tmps assign body w' R
 | _=>False
structure uK (P:Program) (fv:ak) (args:List ak) (w:World) (R:Ending->World->Prop):Prop where
 go:After P ((do let d <- Deferred.ofValue fv args.toArray;invoke d.target d.args:Sem Next).run P w) R
theorem Qz {nx:Result Next} {R:Ending->World->Prop} (hw:Region.wanted o (yielded ops a.tmps)=true) (hd:Ke o.op=true) (h:(execOp a.eval o).run P w=nx) (hc:After P nx R)
  (k:∀ e w',R e w'->∃ v,e=.returned v∧WL r P ops Q rest (a.put o.dst v) w'):WL r P ops Q (o :: rest) a w:=by
 refine QA hw ⟨fun _ _=>trivial,?_⟩
 rw [PK hd,h]
 cases nx with
 | halt x y=>exact hc.elim
 | ok x w1 =>
  cases x with
  | enter f args =>
   refine ⟨Ij r,(MG hc).mono fun e w2 hR=>?_⟩
   obtain ⟨v,rfl,hk⟩:=k e w2 hR
   exact hk
  | round l f tmps assign body =>
   have hc':RoundIn (FW none) 0 P l f tmps assign body w1 R:=hc
   refine ⟨Ij r,?_⟩
   have h2:RoundIn (FW r) (0 - 1) P l f tmps assign body w1 R:=⟨aI,fun c cs hr=>hc'.2 c cs (room_wide _)⟩
   exact h2.mono fun e w2 hR=>by obtain ⟨v,rfl,hk⟩:=k e w2 hR;exact hk
  | _=>exact hc.elim
end base
section steps
variable {N:Nat} {D:List Deferred} {w0:World} {F:Nat->Prop} {G0 G:GH} {L:List (Nat × Obj)} {T:List (Nat × ak)}
variable {r:Option Nat} {P:Program} {ops:Array Oper} {Q:Exit->Act->World->Prop} {rest:List Oper} {a:Act} {w:World}
variable {d:Nat} {ty:TypeId} {pos:String} {aM:Array Edge} {g:Option (Nat × Bool)}
theorem wn {op:Op} {dst:Option Tmp} {y:Nat->Option Bool}:Region.wanted ⟨dst,op,ty,pos,aM,none⟩ y=true:=rfl
theorem Yi (H:St N D w0 F G0 G L T a w) {j t:Nat} {b:Bool} (hj:(ops[j]?).bind (·.dst)=some t) (ht:lk T t=some (.bool b)):yielded ops a.tmps j=some b:=by
 unfold yielded
 rw [hj]
 simp [H.get t _ ht]
theorem wg (H:St N D w0 F G0 G L T a w) {op:Op} {dst:Option Tmp} {j t:Nat} {want b:Bool} (hj:(ops[j]?).bind (·.dst)=some t) (ht:lk T t=some (.bool b)) (hb:b=want) :
  Region.wanted ⟨dst,op,ty,pos,aM,some (j,want)⟩ (yielded ops a.tmps)=true:=by
 simp [Region.wanted,Yi H hj ht,hb]
theorem WT (H:St N D w0 F G0 G L T a w) {op:Op} {j t:Nat} {want b:Bool} (hj:(ops[j]?).bind (·.dst)=some t) (ht:lk T t=some (.bool b)) (hb:b=!want) (hd:Nat.blt d N=true)
  (k:∀ a',St N D w0 F G0 G L ((d,undef) :: T) a' w->WL r P ops Q rest a' w):WL r P ops Q (⟨some d,op,ty,pos,aM,some (j,want)⟩ :: rest) a w:=by
 refine Yc ?_ (k _ (H.put hd undef H.hp))
 simp only [Region.wanted,Yi H hj ht,hb]
 cases want <;> rfl
theorem agV (H:St N D w0 F G0 G L T a w) {op:Op} {j t:Nat} {want:Bool} (hj:(ops[j]?).bind (·.dst)=some t) (ht:lk T t=some undef) (hd:Nat.blt d N=true)
  (k:∀ a',St N D w0 F G0 G L ((d,undef) :: T) a' w->WL r P ops Q rest a' w):WL r P ops Q (⟨some d,op,ty,pos,aM,some (j,want)⟩ :: rest) a w:=by
 refine Yc ?_ (k _ (H.put hd undef H.hp))
 have h:yielded ops a.tmps j=none:=by
  unfold yielded
  rw [hj]
  simp [H.get t _ ht,undef]
 simp only [Region.wanted,h]
 cases want <;> rfl
theorem WW (_H:St N D w0 F G0 G L T a w) (t:Nat) {b:Bool} {X:Prop} (_ht:lk T t=some (.bool b)) (h1:b=true->X) (h0:b=false->X):X:=by cases b <;> simp_all
theorem uG {x:Operand} {v:ak} (H:St N D w0 F G0 G L T a w) (hw:Region.wanted ⟨some d,.move x,ty,pos,aM,g⟩ (yielded ops a.tmps)=true) (hx:ev T x=some v) (hd:Nat.blt d N=true)
  (k:∀ a',St N D w0 F G0 G L ((d,v) :: T) a' w->WL r P ops Q rest a' w):WL r P ops Q (⟨some d,.move x,ty,pos,aM,g⟩ :: rest) a w :=
 dZ (v:=v) (w':=w) hw O (by simp [execOp,H.ev hx]) (k _ (H.put hd v H.hp))
theorem agD {x:Operand} {v:ak} (H:St N D w0 F G0 G L T a w) (hw:Region.wanted ⟨some d,.assign x,ty,pos,aM,g⟩ (yielded ops a.tmps)=true) (hx:ev T x=some v) (hd:Nat.blt d N=true)
  (k:∀ a',St N D w0 F G0 G L ((d,v) :: T) a' w->WL r P ops Q rest a' w):WL r P ops Q (⟨some d,.assign x,ty,pos,aM,g⟩ :: rest) a w :=
 dZ (v:=v) (w':=w) hw O (by simp [execOp,H.ev hx]) (k _ (H.put hd v H.hp))
theorem PD {c x y:Operand} {b:Bool} {v:ak} (H:St N D w0 F G0 G L T a w) (hw:Region.wanted ⟨some d,.pick c x y,ty,pos,aM,g⟩ (yielded ops a.tmps)=true) (hc:ev T c=some (.bool b)) (hb:b=true) (hx:ev T x=some v) (hd:Nat.blt d N=true)
  (k:∀ a',St N D w0 F G0 G L ((d,v) :: T) a' w->WL r P ops Q rest a' w):WL r P ops Q (⟨some d,.pick c x y,ty,pos,aM,g⟩ :: rest) a w :=
 dZ (v:=v) (w':=w) hw O (by simp [execOp,H.ev hx,H.ev hc,asBool,hb]) (k _ (H.put hd v H.hp))
theorem Pz {c x y:Operand} {b:Bool} {v:ak} (H:St N D w0 F G0 G L T a w) (hw:Region.wanted ⟨some d,.pick c x y,ty,pos,aM,g⟩ (yielded ops a.tmps)=true) (hc:ev T c=some (.bool b)) (hb:b=false) (hx:ev T y=some v) (hd:Nat.blt d N=true)
  (k:∀ a',St N D w0 F G0 G L ((d,v) :: T) a' w->WL r P ops Q rest a' w):WL r P ops Q (⟨some d,.pick c x y,ty,pos,aM,g⟩ :: rest) a w :=
 dZ (v:=v) (w':=w) hw O (by simp [execOp,H.ev hx,H.ev hc,asBool,hb]) (k _ (H.put hd v H.hp))
class Und (P:Program) (t:TypeId) (d:outParam TypeDesc):Prop where
 h:P.underlying t=some d
class Ty (P:Program) (t:TypeId) (sz bytes:outParam Nat) (zero:outParam (List ak)) (agg:outParam Bool):Prop where
 info:(P.info? t).map (fun i=>(i.size,i.bytes,i.zero.map fun z=>z.cells.toList))=some (sz,bytes,some zero)
 ag:(P.underlying t).map (fun|.struct _=>true|.array _ _=>true|_=>false)=some agg
theorem Ty.parts {t:TypeId} {sz bytes:Nat} {zero:List ak} {agg:Bool} (h:Ty P t sz bytes zero agg):∃ i z,P.info? t=some i∧i.size=sz∧i.bytes=bytes∧i.zero=some z∧z.cells=zero.toArray:=by
 obtain ⟨i,hi,hx⟩:=mZ.1 h.info
 simp only [gY] at hx
 obtain ⟨z,hz,hzz⟩:=mZ.1 hx.2.2
 exact ⟨i,z,hi,hx.1,hx.2.1,hz,by rw [<- hzz]⟩
theorem Bt {t:TypeId} {i:TypeInfo} (h:P.info? t=some i) (w:World):(typeInfo t).run P w=.ok i w:=by simp [typeInfo,program,Sem.run,dB,h]
theorem Ty.wC {t:TypeId} {sz bytes:Nat} {zero:List ak} {agg:Bool} (h:Ty P t sz bytes zero agg) (w:World):(sizeOf t).run P w=.ok sz w:=by
 obtain ⟨i,z,hi,h1,-,-,-⟩:=h.parts
 simp [sizeOf,dB,Bt hi,h1]
theorem Ty.WC {t:TypeId} {sz bytes:Nat} {zero:List ak} {agg:Bool} (h:Ty P t sz bytes zero agg) (w:World):∃ z,(zeroValue t).run P w=.ok z w∧z.cells=zero.toArray:=by
 obtain ⟨i,z,hi,-,-,h1,h2⟩:=h.parts
 exact ⟨z,by simp [zeroValue,dB,Bt hi,h1],h2⟩
theorem lF {t:TypeId} {u:TypeDesc} (h:P.underlying t=some u) (w:World):(underlying t).run P w=.ok u w:=by simp [underlying,program,Sem.run,dB,h]
theorem Ty.Kv {t:TypeId} {sz bytes:Nat} {zero:List ak} {agg:Bool} (h:Ty P t sz bytes zero agg) (w:World):(isAgg t).run P w=.ok agg w:=by
 obtain ⟨u,hu,hx⟩:=mZ.1 h.ag
 unfold isAgg
 simp only [dB,lF hu,jH]
 cases u <;> simp_all
theorem gX {elem:TypeId} {sz bytes:Nat} {zero:List ak} {agg:Bool} (ht:Ty P elem sz bytes zero agg) (H:St N D w0 F G0 G L T a w) (hw:Region.wanted ⟨some d,.alloc elem,ty,pos,aM,g⟩ (yielded ops a.tmps)=true) (hd:Nat.blt d N=true)
  (k:∀ b a' w',w0.heap.size<=b->St N D w0 F G0 G ((b,.cells zero.toArray elem (0,0)) :: L) ((d,.pointer (some ⟨b,0,none⟩)) :: T) a' w'->WL r P ops Q rest a' w'):WL r P ops Q (⟨some d,.alloc elem,ty,pos,aM,g⟩ :: rest) a w:=by
 obtain ⟨z,hz,hzc⟩:=ht.WC w
 refine dZ (v:=.pointer (some ⟨w.heap.size,0,none⟩)) (w':=w.alloc (.cells zero.toArray elem (0,0))) hw O ?_ (k _ _ _ H.hp.size (H.put hd _ (H.hp.alloc _)))
 simp [execOp,Instr.alloc,dB,hz,newVar,newRow,newObj,Sem.run,hzc]
theorem jQ {elem:TypeId} {x:Operand} {v:ak} {cs:List ak} (H:St N D w0 F G0 G L T a w) (hw:Region.wanted ⟨some d,.box elem x,ty,pos,aM,g⟩ (yielded ops a.tmps)=true) (hx:ev T x=some v) (hc:v.cells=cs.toArray) (hd:Nat.blt d N=true)
  (k:∀ b a' w',w0.heap.size<=b->St N D w0 F G0 G ((b,.cells cs.toArray elem (0,0)) :: L) ((d,.pointer (some ⟨b,0,none⟩)) :: T) a' w'->WL r P ops Q rest a' w'):WL r P ops Q (⟨some d,.box elem x,ty,pos,aM,g⟩ :: rest) a w:=by
 refine dZ (v:=.pointer (some ⟨w.heap.size,0,none⟩)) (w':=w.alloc (.cells cs.toArray elem (0,0))) hw O ?_ (k _ _ _ H.hp.size (H.put hd _ (H.hp.alloc _)))
 simp [execOp,Instr.box,dB,newVar,newRow,newObj,Sem.run,H.ev hx,hc]
def aS (G:GH) (b o:Nat):Option ak:=match G b with|some (.cells c _ _)=>c[o]?|_=>none
theorem Hp.aS (h:Hp w0 F G0 G L w) {b o:Nat} {v:ak} (hg:Proofs.YtomebajfpcjoeaaGreatDoor.aS G b o=some v):w.cell? ⟨b,o,none⟩=some v:=by
 unfold Proofs.YtomebajfpcjoeaaGreatDoor.aS at hg
 split at hg
 ·rename_i c e f he
  simp only [World.cell?,h.ro b _ he]
  exact hg
 ·cases hg
theorem Hp.gK (h:Hp w0 F G0 G L w) (i:Nat) {b o:Nat} {c:Array ak} {e:TypeId} {fz:Nat × Nat} {v:ak} (hi:L[i]?=some (b,.cells c e fz)) (hv:c[o]?=some v):w.cell? ⟨b,o,none⟩=some v:=by
 have:=h.own _ (kg hi)
 simp only [World.cell?] at *
 rw [this]
 exact hv
theorem add_lit (b o n:Nat):(⟨b,o,none⟩:Addr).add n=⟨b,o+n,none⟩:=by
 unfold Addr.add
 split
 ·rename_i h;subst h;rfl
 ·rfl
theorem Pn {b o:Nat} {v:ak} (h:w.cell? ⟨b,o,none⟩=some v):(load ⟨b,o,none⟩).run P w=.ok v w:=by simp [load,Sem.run,h]
theorem run_loadCells (b:Nat) (w:World):∀ (cs:List ak) (o i:Nat) (acc:Array ak),(∀ j v,cs[j]?=some v->w.cell? ⟨b,o+i+j,none⟩=some v) ->
  (loadCellsFrom ⟨b,o,none⟩ i cs.length acc).run P w=.ok (acc++cs.toArray) w
 | [],o,i,acc,_=>by simp [loadCellsFrom,Sem.run]
 | c :: cs,o,i,acc,h=>by
  have h0:=h 0 c O
  have ih:=run_loadCells b w cs o (i+1) (acc.push c) (fun j v hj=>by have:=h (j+1) v (by simpa using hj);rw [<- this];congr 2;omega)
  simp only [loadCellsFrom,ko,dB,add_lit,Pn (P:=P) (by simpa using h0),jH,ih]
  congr 1
  apply Array.ext'
  simp
theorem iU {t:TypeId} {sz bytes:Nat} {zero:List ak} (ht:Ty P t sz bytes zero false) {x:Operand} {b o:Nat} {v:ak} (H:St N D w0 F G0 G L T a w) (hw:Region.wanted ⟨some d,.load t x,ty,pos,aM,g⟩ (yielded ops a.tmps)=true)
  (hx:ev T x=some (.pointer (some ⟨b,o,none⟩))) (hc:w.cell? ⟨b,o,none⟩=some v) (hd:Nat.blt d N=true)
  (k:∀ a',St N D w0 F G0 G L ((d,v) :: T) a' w->WL r P ops Q rest a' w):WL r P ops Q (⟨some d,.load t x,ty,pos,aM,g⟩ :: rest) a w:=by
 refine dZ (v:=v) (w':=w) hw O ?_ (k _ (H.put hd v H.hp))
 simp only [execOp,Instr.loadAt,Instr.sureAddr,loadVar,dB,H.ev hx,ht.Kv,jH,mh,yD,if_false,Pn hc]
theorem bV {t:TypeId} {sz bytes:Nat} {zero:List ak} (ht:Ty P t sz bytes zero true) {x:Operand} {b o:Nat} {cs:List ak} (H:St N D w0 F G0 G L T a w) (hw:Region.wanted ⟨some d,.load t x,ty,pos,aM,g⟩ (yielded ops a.tmps)=true)
  (hx:ev T x=some (.pointer (some ⟨b,o,none⟩))) (hl:cs.length=sz) (hc:∀ j v,cs[j]?=some v->w.cell? ⟨b,o+j,none⟩=some v) (hd:Nat.blt d N=true)
  (k:∀ a',St N D w0 F G0 G L ((d,.agg cs.toArray) :: T) a' w->WL r P ops Q rest a' w):WL r P ops Q (⟨some d,.load t x,ty,pos,aM,g⟩ :: rest) a w:=by
 refine dZ (v:=.agg cs.toArray) (w':=w) hw O ?_ (k _ (H.put hd _ H.hp))
 have h1:=run_loadCells (P:=P) b w cs o 0 #[] (fun j v hj=>by simpa using hc j v hj)
 simp only [Array.empty_append,hl] at h1
 simp [execOp,Instr.loadAt,Instr.sureAddr,loadVar,dB,H.ev hx,ht.Kv,ht.wC,loadCells,h1]
theorem Hp.bR (h:Hp w0 F G0 G L w) (i:Nat) {b o:Nat} {c:List ak} {e:TypeId} {fz:Nat × Nat} {cs:List ak} (hi:L[i]?=some (b,.cells c.toArray e fz)) (hv:(c.drop o).take cs.length=cs):∀ j v,cs[j]?=some v->w.cell? ⟨b,o+j,none⟩=some v:=by
 intro j v hj
 refine h.gK i hi ?_
 rw [<- hv,tX] at hj
 split at hj
 ·rw [List.getElem?_drop] at hj
  simpa using hj
 ·cases hj
theorem aiB {b o:Nat} {c:Array ak} {e:TypeId} {fz:Nat × Nat} (h:w.heap[b]?=some (.cells c e fz)) (v:ak):sF b (.cells (c.setIfInBounds o v) e fz) w (w.setCell ⟨b,o,none⟩ v):=by
 refine ⟨O,O,O,by simp,?_,fun k hk=>Below.heap_setCell w _ v k hk⟩
 simp [World.setCell,Array.getElem?_modify,h]
theorem sF.trans {b:Nat} {o1 o2:Obj} {w1 w2 w3:World} (h:sF b o1 w1 w2) (k:sF b o2 w2 w3):sF b o2 w1 w3 :=
 ⟨k.os.trans h.os,k.tape.trans h.tape,k.output.trans h.output,k.size.trans h.size,k.this,fun j hj=>(k.others j hj).trans (h.others j hj)⟩
theorem sF.refl {b:Nat} {o:Obj} {w:World} (h:w.heap[b]?=some o):sF b o w w:=⟨O,O,O,O,h,fun _ _=>rfl⟩
def oneCell':ak->Bool
 | .agg _|.tuple _=>false
 | _=>true
def setRow (c:List ak):Nat->List ak->List ak
 | _,[]=>c
 | o,v :: vs=>setRow (c.set o v) (o+1) vs
theorem agx {b o:Nat} {c:Array ak} {e:TypeId} {v:ak} (hb:w.heap[b]?=some (.cells c e (0,0))) (ho:o < c.size) (hv:oneCell' v=true) :
  (store ⟨b,o,none⟩ v).run P w=.ok () (w.setCell ⟨b,o,none⟩ v):=by
 have h1:w.cell? ⟨b,o,none⟩=some c[o]:=by simp [World.cell?,hb,ho]
 have h2:w.frozen? ⟨b,o,none⟩=false:=by simp [World.frozen?,hb]
 unfold store
 cases v <;> first|(simp [oneCell'] at hv;done)|(simp only [Sem.run,h1,h2];rfl)
theorem Po (b:Nat) (e:TypeId) (o0:Nat):∀ (vs:List ak) (i:Nat) (c:List ak) (w:World),w.heap[b]?=some (.cells c.toArray e (0,0))->o0+i+vs.length<=c.length->(∀ v∈vs,oneCell' v=true) ->
  ∃ w',(storeCells ⟨b,o0,none⟩ vs i).run P w=.ok () w'∧sF b (.cells (setRow c (o0+i) vs).toArray e (0,0)) w w'
 | [],i,c,w,hb,_,_=>⟨w,by simp [storeCells,Sem.run],sF.refl hb⟩
 | v :: vs,i,c,w,hb,hl,hv=>by
  simp only [ko] at hl
  have hr:=agx (P:=P) (o:=o0+i) (v:=v) hb (by simp;omega) (hv v (by simp))
  have hu:=aiB (o:=o0+i) hb v
  have hb':=hu.this
  simp only [List.setIfInBounds_toArray] at hb' hu
  obtain ⟨w2,h2,u2⟩:=Po b e o0 vs (i+1) (c.set (o0+i) v) _ hb' (by simp;omega) (fun u hu=>hv u (by simp [hu]))
  refine ⟨w2,?_,?_⟩
  ·simp only [storeCells,dB,add_lit,hr,jH,h2]
  ·exact hu.trans u2
theorem ql {t:TypeId} {sz bytes:Nat} {zero:List ak} {agg:Bool} (ht:Ty P t sz bytes zero agg) {x y:Operand} (i:Nat) {b o:Nat} {c:List ak} {e:TypeId} {v:ak} {vs:List ak} (c':List ak) (H:St N D w0 F G0 G L T a w) (hw:Region.wanted ⟨none,.store t x y,ty,pos,aM,g⟩ (yielded ops a.tmps)=true)
  (hx:ev T x=some (.pointer (some ⟨b,o,none⟩))) (hi:L[i]?=some (b,.cells c.toArray e (0,0))) (hy:ev T y=some v) (hvs:v.cells=vs.toArray) (hl:Nat.beq vs.length sz=true) (h1:vs.all oneCell'=true) (hle:Nat.ble (o+vs.length) c.length=true) (hset:setRow c o vs=c')
  (k:∀ w',St N D w0 F G0 G (L.set i (b,.cells c'.toArray e (0,0))) T a w'->WL r P ops Q rest a w'):WL r P ops Q (⟨none,.store t x y,ty,pos,aM,g⟩ :: rest) a w:=by
 have hb:=H.hp.own _ (kg hi)
 obtain ⟨w2,h2,u2⟩:=Po (P:=P) b e o vs 0 c w hb (by simpa using Nat.le_of_ble_eq_true hle) (fun u hu=>gW.1 h1 u hu)
 simp only [qD,hset] at u2
 refine Ye (w':=w2) hw O ?_ (k w2 (H.move (H.hp.upd hi u2)))
 have hl':vs.length=sz:=vQ hl
 simp [execOp,Instr.storeAt,Instr.sureAddr,storeVar,dB,H.ev hx,H.ev hy,ht.wC,hvs,hl',h2]
class gL (P:Program) (s n:Nat) (off:outParam Nat):Prop where
 h:(match P.underlying s with|some (.struct fs)=>(fs[n]?).bind fun f=>(P.info? f.type).map fun i=>(f.offset,i.size == 0)|_=>none)=some (off,false)
theorem gL.parts {s n off:Nat} (h:gL P s n off):∃ fs fl i,P.underlying s=some (.struct fs)∧fs[n]?=some fl∧P.info? fl.type=some i∧fl.offset=off∧i.size≠0:=by
 obtain ⟨h⟩:=h
 split at h
 ·rename_i fs hs
  obtain ⟨fl,hf,h2⟩:=Option.bind_eq_some_iff.1 h
  obtain ⟨i,hi,h3⟩:=mZ.1 h2
  simp only [gY,beq_eq_false_iff_ne] at h3
  exact ⟨fs,fl,i,hs,hf,hi,h3.1,h3.2⟩
 ·cases h
theorem Hy {s:TypeId} {x:Operand} {n b o off:Nat} (hs:gL P s n off) (H:St N D w0 F G0 G L T a w) (hw:Region.wanted ⟨some d,.fieldAddr s x n,ty,pos,aM,g⟩ (yielded ops a.tmps)=true)
  (hx:ev T x=some (.pointer (some ⟨b,o,none⟩))) (hd:Nat.blt d N=true)
  (k:∀ a',St N D w0 F G0 G L ((d,.pointer (some ⟨b,o+off,none⟩)) :: T) a' w->WL r P ops Q rest a' w):WL r P ops Q (⟨some d,.fieldAddr s x n,ty,pos,aM,g⟩ :: rest) a w:=by
 obtain ⟨fs,fl,i,h1,h2,h3,h4,h5⟩:=hs.parts
 refine dZ (v:=.pointer (some ⟨b,o+off,none⟩)) (w':=w) hw O ?_ (k _ (H.put hd _ H.hp))
 simp only [execOp,Instr.fieldAt,Instr.sureAddr,dB,H.ev hx,lF h1,h2,jH,mh,fieldPlace,sizeOf,Bt h3,aL h5,add_lit,h4]
theorem bD {s e:TypeId} {sz bytes:Nat} {zero:List ak} {agg:Bool} (hs:P.underlying s=some (.slice e)) (ht:Ty P e sz bytes zero agg) {x y:Operand} {b o n c:Nat} {kd:IntKind} {z:Int} (i:Nat) (H:St N D w0 F G0 G L T a w) (hw:Region.wanted ⟨some d,.indexAddr s x y,ty,pos,aM,g⟩ (yielded ops a.tmps)=true)
  (hx:ev T x=some (.slice (some ⟨b,o,none⟩) n c)) (hy:ev T y=some (.int kd z)) (hz:z=(i:Int)) (hn:i < n) (hd:Nat.blt d N=true)
  (k:∀ a',St N D w0 F G0 G L ((d,.pointer (some ⟨b,o+i*sz,none⟩)) :: T) a' w->WL r P ops Q rest a' w):WL r P ops Q (⟨some d,.indexAddr s x y,ty,pos,aM,g⟩ :: rest) a w:=by
 subst hz
 refine dZ (v:=.pointer (some ⟨b,o+i*sz,none⟩)) (w':=w) hw O ?_ (k _ (H.put hd _ H.hp))
 have hr:(0:Int)<=i∧(i:Int) < (n:Int):=by omega
 simp only [execOp,Instr.indexAt,asIntOf,dB,H.ev hx,H.ev hy,lF hs,jH,mh,aN hr,ht.wC,add_lit,Int.toNat_natCast]
theorem eZ {x:Operand} {n:Nat} {vs:List ak} {v:ak} (H:St N D w0 F G0 G L T a w) (hw:Region.wanted ⟨some d,.extract x n,ty,pos,aM,g⟩ (yielded ops a.tmps)=true) (hx:ev T x=some (.tuple vs.toArray)) (hv:vs[n]?=some v) (hd:Nat.blt d N=true)
  (k:∀ a',St N D w0 F G0 G L ((d,v) :: T) a' w->WL r P ops Q rest a' w):WL r P ops Q (⟨some d,.extract x n,ty,pos,aM,g⟩ :: rest) a w :=
 dZ (v:=v) (w':=w) hw O (by simp [execOp,Instr.extract,H.ev hx,hv]) (k _ (H.put hd _ H.hp))
theorem wD {x:Operand} {p:Addr} (H:St N D w0 F G0 G L T a w) (hw:Region.wanted ⟨some d,.nilCheck x,ty,pos,aM,g⟩ (yielded ops a.tmps)=true) (hx:ev T x=some (.pointer (some p))) (hd:Nat.blt d N=true)
  (k:∀ a',St N D w0 F G0 G L ((d,.pointer (some p)) :: T) a' w->WL r P ops Q rest a' w):WL r P ops Q (⟨some d,.nilCheck x,ty,pos,aM,g⟩ :: rest) a w :=
 dZ (v:=.pointer (some p)) (w':=w) hw O (by simp [execOp,H.ev hx]) (k _ (H.put hd _ H.hp))
theorem Bw {fn:Fn} {xs:List Operand} {vs:List ak} (H:St N D w0 F G0 G L T a w) (hw:Region.wanted ⟨some d,.makeFunc fn #[] xs.toArray,ty,pos,aM,g⟩ (yielded ops a.tmps)=true) (hx:evs T xs=some vs) (hd:Nat.blt d N=true)
  (k:∀ a',St N D w0 F G0 G L ((d,.func fn #[] vs.toArray) :: T) a' w->WL r P ops Q rest a' w):WL r P ops Q (⟨some d,.makeFunc fn #[] xs.toArray,ty,pos,aM,g⟩ :: rest) a w :=
 dZ (v:=.func fn #[] vs.toArray) (w':=w) hw O (by simp [execOp,Instr.makeFunc,H.evs hx]) (k _ (H.put hd _ H.hp))
def uY (pl:List (Nat × Nat)):List ak->List (Nat × List ak)->Option (List ak)
 | c,[]=>some c
 | c,(i,vs) :: rest=>match pl[i]? with
  | none=>none
  | some (off,size)=>bif Nat.beq vs.length size && Nat.ble (off+vs.length) c.length then uY pl (setRow c off vs) rest else none
theorem KG:∀ (vs:List ak) (o:Nat) (c:List ak),(setRow c o vs).length=c.length
 | [],_,_=>rfl
 | v :: vs,o,c=>by simp [setRow,KG vs]
theorem TV (off:Nat):∀ (vs:List ak) (j:Nat) (c:List ak),
  ((vs.zipIdx j).toArray).foldl (fun cs (x:ak × Nat)=>cs.setIfInBounds (off+x.2) x.1) c.toArray=(setRow c (off+j) vs).toArray
 | [],j,c=>by simp [setRow]
 | v :: vs,j,c=>by
  have ih:=TV off vs (j+1) (c.set (off+j) v)
  simp only [List.zipIdx_cons,List.foldl_toArray'] at *
  simp only [List.foldl_cons,List.setIfInBounds_toArray]
  exact ih
theorem fill_eq (place:Nat->Option (Nat × Nat)) (pl:List (Nat × Nat)) (hp:∀ i q,pl[i]?=some q->place i=some q):∀ (parts:List (Nat × ak)) (Kj:List (Nat × List ak)) (c c':List ak),
  parts.map (fun x=>(x.1,x.2.cells.toList))=Kj->uY pl c Kj=some c'->Instr.fill place c.toArray parts=some c'.toArray
 | [],Kj,c,c',hm,h=>by subst hm;simp [uY] at h;subst h;rfl
 | (i,v) :: parts,Kj,c,c',hm,h=>by
  subst hm
  simp only [gV,uY] at h
  split at h
  ·cases h
  ·rename_i off size hq
   cases hcond:(Nat.beq v.cells.toList.length size && Nat.ble (off+v.cells.toList.length) c.length) with
   | false=>rw [hcond] at h;cases h
   | true =>
    rw [hcond] at h
    simp only [iG] at hcond
    have e1:=vQ hcond.1
    have e2:=Nat.le_of_ble_eq_true hcond.2
    have ih:=fill_eq place pl hp parts _ (setRow c off v.cells.toList) c' O h
    have hf:=TV off v.cells.toList 0 c
    simp only [qD] at hf
    simp only [BP] at e1 e2
    unfold Instr.fill
    rw [hp i _ hq]
    have hz:(v.cells.zipIdx:Array (ak × Nat))=((v.cells.toList.zipIdx 0).toArray):=by
     apply Array.ext';simp
    simp only [e1,ne_eq,not_true_eq_false,yD,decide_false,Bool.false_or,List.size_toArray]
    rw [aL (by simp;omega),hz,hf]
    exact ih
structure sD (P:Program) (t:TypeId) (pl:List (Nat × Nat)) (zero:List ak):Prop where
 h:(match P.underlying t with|some (.struct fs)=>some (fs.toList.map fun f=>(f.offset,(P.info? f.type).map (·.size)))|_=>none)=some (pl.map fun q=>(q.1,some q.2))
 z:(P.info? t).map (fun i=>i.zero.map fun z=>z.cells.toList)=some (some zero)
end steps
end
section
section steps
variable {N:Nat} {D:List Deferred} {w0:World} {F:Nat->Prop} {G0 G:GH} {L:List (Nat × Obj)} {T:List (Nat × ak)}
variable {r:Option Nat} {P:Program} {ops:Array Oper} {Q:Exit->Act->World->Prop} {rest:List Oper} {a:Act} {w:World}
variable {d:Nat} {ty:TypeId} {pos:String} {aM:Array Edge} {g:Option (Nat × Bool)}
theorem sD.parts {t:TypeId} {pl:List (Nat × Nat)} {zero:List ak} (h:sD P t pl zero):∃ fs i z,P.underlying t=some (.struct fs)∧P.info? t=some i∧i.zero=some z∧z.cells=zero.toArray ∧
  fs.toList.map (fun f=>(f.offset,(P.info? f.type).map (·.size)))=pl.map fun q=>(q.1,some q.2):=by
 obtain ⟨h,hz⟩:=h
 obtain ⟨i,hi,hx⟩:=mZ.1 hz
 obtain ⟨z,hz1,hz2⟩:=mZ.1 hx
 split at h
 ·rename_i fs hs
  exact ⟨fs,i,z,hs,hi,hz1,by rw [<- hz2],by simpa using h⟩
 ·cases h
theorem WB (w:World):∀ (fs:List Field) (pl:List (Nat × Nat)),fs.map (fun f=>(f.offset,(P.info? f.type).map (·.size)))=pl.map (fun q=>(q.1,some q.2)) ->
  (fs.mapM (fun f=>(do pure (f.offset,<- sizeOf f.type):Sem (Nat × Nat)))).run P w=.ok pl w
 | [],[],_=>by simp [Sem.run]
 | [],q :: pl,h=>by simp at h
 | f :: fs,[],h=>by simp at h
 | f :: fs,q :: pl,h=>by
  simp only [gV,List.cons.injEq,gY] at h
  obtain ⟨⟨h1,h2⟩,h3⟩:=h
  obtain ⟨i,hi,hs⟩:=mZ.1 h2
  have ih:=WB w fs pl h3
  have hsz:(sizeOf f.type).run P w=.ok q.2 w:=by simp only [sizeOf,dB,Bt hi,jH,mh,hs]
  simp only [List.mapM_cons,dB,hsz,jH,mh,ih,h1]
theorem run_build {t:TypeId} {pl:List (Nat × Nat)} {zero:List ak} (h:sD P t pl zero) {parts:Array (Nat × ak)} {cs:List ak}
  (hf:uY pl zero (parts.toList.map fun x=>(x.1,x.2.cells.toList))=some cs) (w:World):(Instr.build t parts).run P w=.ok (.agg cs.toArray) w:=by
 obtain ⟨fs,i,z,h1,h2,h3,h4,h5⟩:=h.parts
 have hm:=WB (P:=P) w fs.toList pl h5
 have hm':(fs.mapM (fun f=>(do pure (f.offset,<- sizeOf f.type):Sem (Nat × Nat)))).run P w=.ok pl.toArray w:=by
  rw [Array.mapM_eq_mapM_toList]
  simp only [map_eq_pure_bind,dB,hm,jH,mh]
 have Gp:=fill_eq (fun i=>pl.toArray[i]?) pl (fun i q hq=>by simpa using hq) parts.toList _ zero cs O hf
 simp only [Instr.build,zeroValue,dB,Bt h2,h3,jH,mh,h4,lF h1,hm',Gp]
def pts (T:List (Nat × ak)):List (Nat × Operand)->Option (List (Nat × ak))
 | []=>some []
 | (i,x) :: q=>match ev T x,pts T q with|some v,some vs=>some ((i,v) :: vs)|_,_=>none
theorem St.pts (H:St N D w0 F G0 G L T a w):∀ {xs:List (Nat × Operand)} {vs:List (Nat × ak)},Proofs.YtomebajfpcjoeaaGreatDoor.pts T xs=some vs->xs.map (fun x=>(x.1,a.eval x.2))=vs
 | [],vs,hx=>by simp [Proofs.YtomebajfpcjoeaaGreatDoor.pts] at hx;subst hx;rfl
 | (i,x) :: xs,vs,hx=>by
  unfold Proofs.YtomebajfpcjoeaaGreatDoor.pts at hx
  split at hx
  ·rename_i v vs' h1 h2
   simp only [kZ] at hx
   subst hx
   rw [gV,H.ev h1,H.pts h2]
  ·cases hx
theorem ku {t:TypeId} {pl:List (Nat × Nat)} {zero:List ak} (ht:sD P t pl zero) {xs:List (Nat × Operand)} {vs:List (Nat × ak)} {vs':List (Nat × List ak)} (cs:List ak) (H:St N D w0 F G0 G L T a w) (hw:Region.wanted ⟨some d,.build t xs.toArray,ty,pos,aM,g⟩ (yielded ops a.tmps)=true)
  (hx:pts T xs=some vs) (hv:vs.map (fun x=>(x.1,x.2.cells.toList))=vs') (hf:uY pl zero vs'=some cs) (hd:Nat.blt d N=true)
  (k:∀ a',St N D w0 F G0 G L ((d,.agg cs.toArray) :: T) a' w->WL r P ops Q rest a' w):WL r P ops Q (⟨some d,.build t xs.toArray,ty,pos,aM,g⟩ :: rest) a w:=by
 refine dZ (v:=.agg cs.toArray) (w':=w) hw O ?_ (k _ (H.put hd _ H.hp))
 have h1:=run_build ht (parts:=(vs.toArray)) (cs:=cs) (by simpa [hv] using hf) w
 simp only [execOp,List.map_toArray,H.pts hx,dB,h1,jH,mh]
theorem eU {t e:TypeId} {sz bytes:Nat} {zero:List ak} {agg:Bool} (hs:P.underlying t=some (.slice e)) (ht:Ty P e sz bytes zero agg) {n:Nat} {xs:List (Nat × Operand)} {vs:List (Nat × ak)} {vs':List (Nat × List ak)} (z:List ak) (cs:List ak) (H:St N D w0 F G0 G L T a w) (hw:Region.wanted ⟨some d,.buildSlice t n xs.toArray,ty,pos,aM,g⟩ (yielded ops a.tmps)=true)
  (hx:pts T xs=some vs) (hv:vs.map (fun x=>(x.1,x.2.cells.toList))=vs') (hn:Nat.ble (n*sz) 1000=true) (hn0:Nat.beq (n*sz) 0=false) (hz:(List.range (n*sz)).map (fun i=>zero[i % zero.length]!)=z) (hpl:∀ i q,((List.range n).map fun i=>(i*sz,sz))[i]?=some q->(some (i*sz,sz):Option (Nat × Nat))=some q)
  (hf:uY ((List.range n).map fun i=>(i*sz,sz)) z vs'=some cs) (hd:Nat.blt d N=true)
  (k:∀ b a' w',w0.heap.size<=b->St N D w0 F G0 G ((b,.cells cs.toArray e (0,0)) :: L) ((d,.slice (some ⟨b,0,none⟩) n n) :: T) a' w'->WL r P ops Q rest a' w'):WL r P ops Q (⟨some d,.buildSlice t n xs.toArray,ty,pos,aM,g⟩ :: rest) a w:=by
 refine dZ (v:=.slice (some ⟨w.heap.size,0,none⟩) n n) (w':=w.alloc (.cells cs.toArray e (0,0))) hw O ?_ (k _ _ _ H.hp.size (H.put hd _ (H.hp.alloc _)))
 obtain ⟨z0,hz0,hzc⟩:=ht.WC w
 have h16:¬ n*sz > 2 ^ 24:=by have:=Nat.le_of_ble_eq_true hn;simp;omega
 have h0:¬ n*sz=0:=by intro e;rw [e] at hn0;cases hn0
 have Gp:=fill_eq (fun i=>some (i*sz,sz)) _ hpl vs vs' z cs hv hf
 have hz':(Array.range (n*sz)).map (fun x=>zero.toArray[x % zero.toArray.size]!)=z.toArray:=by
  rw [<- hz];apply Array.ext';simp
 simp only [execOp,List.map_toArray,H.pts hx,Instr.buildSlice,dB,lF hs,jH,ht.wC,aL h16,aL h0,hz0,hzc,mh,hz',Gp,newRow,newObj,Sem.run]
 rfl
theorem Aa {z:Int} (h1:-9223372036854775808<=z) (h2:z < 9223372036854775808):IntKind.i64.wrap z=z:=by
 unfold IntKind.wrap
 have e:(2:Int) ^ 64=18446744073709551616:=by decide
 have e':(2:Int) ^ (64 - 1)=9223372036854775808:=by decide
 simp only [IntKind.bits,IntKind.signed,Bool.true_and,e,e',dU]
 split <;> omega
theorem nQ {x y:Operand} {t yt:TypeId} {p q:Int} (z:Int) (H:St N D w0 F G0 G L T a w) (hw:Region.wanted ⟨some d,.binOp .add t x y yt,ty,pos,aM,g⟩ (yielded ops a.tmps)=true) (hx:ev T x=some (.int .i64 p)) (hy:ev T y=some (.int .i64 q)) (hz:p+q=z) (h1:-9223372036854775808<=z) (h2:z < 9223372036854775808) (hd:Nat.blt d N=true)
  (k:∀ a',St N D w0 F G0 G L ((d,.int .i64 z) :: T) a' w->WL r P ops Q rest a' w):WL r P ops Q (⟨some d,.binOp .add t x y yt,ty,pos,aM,g⟩ :: rest) a w :=
 dZ (v:=.int .i64 z) (w':=w) hw O (by simp [execOp,eqGuard,binOp,Op.intArith,H.ev hx,H.ev hy,dB,hz,Aa h1 h2]) (k _ (H.put hd _ H.hp))
theorem wE {x y:Operand} {t yt:TypeId} {p q:Int} (z:Int) (H:St N D w0 F G0 G L T a w) (hw:Region.wanted ⟨some d,.binOp .sub t x y yt,ty,pos,aM,g⟩ (yielded ops a.tmps)=true) (hx:ev T x=some (.int .i64 p)) (hy:ev T y=some (.int .i64 q)) (hz:p - q=z) (h1:-9223372036854775808<=z) (h2:z < 9223372036854775808) (hd:Nat.blt d N=true)
  (k:∀ a',St N D w0 F G0 G L ((d,.int .i64 z) :: T) a' w->WL r P ops Q rest a' w):WL r P ops Q (⟨some d,.binOp .sub t x y yt,ty,pos,aM,g⟩ :: rest) a w :=
 dZ (v:=.int .i64 z) (w':=w) hw O (by simp [execOp,eqGuard,binOp,Op.intArith,H.ev hx,H.ev hy,dB,hz,Aa h1 h2]) (k _ (H.put hd _ H.hp))
theorem CX {x y:Operand} {t yt:TypeId} {p q:Int} (z:Int) (H:St N D w0 F G0 G L T a w) (hw:Region.wanted ⟨some d,.binOp .mul t x y yt,ty,pos,aM,g⟩ (yielded ops a.tmps)=true) (hx:ev T x=some (.int .i64 p)) (hy:ev T y=some (.int .i64 q)) (hz:p*q=z) (h1:-9223372036854775808<=z) (h2:z < 9223372036854775808) (hd:Nat.blt d N=true)
  (k:∀ a',St N D w0 F G0 G L ((d,.int .i64 z) :: T) a' w->WL r P ops Q rest a' w):WL r P ops Q (⟨some d,.binOp .mul t x y yt,ty,pos,aM,g⟩ :: rest) a w :=
 dZ (v:=.int .i64 z) (w':=w) hw O (by simp [execOp,eqGuard,binOp,Op.intArith,H.ev hx,H.ev hy,dB,hz,Aa h1 h2]) (k _ (H.put hd _ H.hp))
def FP:BinOp->Int->Int->Option Bool
 | .eql,x,y=>some (decide (x=y))
 | .neq,x,y=>some (decide (¬ x=y))
 | .lss,x,y=>some (decide (x < y))
 | .leq,x,y=>some (decide (x<=y))
 | .gtr,x,y=>some (decide (y < x))
 | .geq,x,y=>some (decide (y<=x))
 | _,_,_=>none
theorem ags {op:BinOp} {kd:IntKind} {x y:Int} {b:Bool} (h:FP op x y=some b) (t:TypeId) (X qq:Operand) (w:World):(do eqGuard op t X qq (.int kd x) (.int kd y);binOp op t (.int kd x) (.int kd y):Sem ak).run P w=.ok (.bool b) w:=by
 cases op <;> simp only [FP,kZ,reduceCtorEq] at h <;> subst h <;> simp [eqGuard,binOp,Op.intCmp,dB]
 ·rfl
 ·rfl
theorem yX {op:BinOp} {x y:Operand} {t yt:TypeId} {kd:IntKind} {p q:Int} {b:Bool} (H:St N D w0 F G0 G L T a w) (hw:Region.wanted ⟨some d,.binOp op t x y yt,ty,pos,aM,g⟩ (yielded ops a.tmps)=true) (hx:ev T x=some (.int kd p)) (hy:ev T y=some (.int kd q)) (hb:FP op p q=some b) (hd:Nat.blt d N=true)
  (k:∀ a',St N D w0 F G0 G L ((d,.bool b) :: T) a' w->WL r P ops Q rest a' w):WL r P ops Q (⟨some d,.binOp op t x y yt,ty,pos,aM,g⟩ :: rest) a w:=by
 refine dZ (v:=.bool b) (w':=w) hw O ?_ (k _ (H.put hd _ H.hp))
 have h1:=ags (P:=P) (kd:=kd) hb t x y w
 simp only [execOp,H.ev hx,H.ev hy]
 rw [dB,h1]
 rfl
theorem Py {x:Operand} {t:TypeId} {b:Bool} (H:St N D w0 F G0 G L T a w) (hw:Region.wanted ⟨some d,.unOp .not t x,ty,pos,aM,g⟩ (yielded ops a.tmps)=true) (hx:ev T x=some (.bool b)) (hd:Nat.blt d N=true)
  (k:∀ a',St N D w0 F G0 G L ((d,.bool (!b)) :: T) a' w->WL r P ops Q rest a' w):WL r P ops Q (⟨some d,.unOp .not t x,ty,pos,aM,g⟩ :: rest) a w :=
 dZ (v:=.bool (!b)) (w':=w) hw O (by simp [execOp,Op.unary,H.ev hx,dB]) (k _ (H.put hd _ H.hp))
def qF (op:BinOp) (k:IntKind) (x y:Int):Int :=
 let a:=BitVec.ofInt k.bits x
 let b:=BitVec.ofInt k.bits y
 k.wrap (match op with|.and=>(a &&& b).toNat|.or=>(a ||| b).toNat|.xor=>(a ^^^ b).toNat|_=>(a &&& ~~~b).toNat)
theorem KD {op:BinOp} {x y:Operand} {t yt:TypeId} {kd:IntKind} {p q:Int} (hop:(match op with|.and|.or|.xor|.andNot=>true|_=>false)=true) (H:St N D w0 F G0 G L T a w) (hw:Region.wanted ⟨some d,.binOp op t x y yt,ty,pos,aM,g⟩ (yielded ops a.tmps)=true) (hx:ev T x=some (.int kd p)) (hy:ev T y=some (.int kd q)) (hd:Nat.blt d N=true)
  (k:∀ a',St N D w0 F G0 G L ((d,.int kd (qF op kd p q)) :: T) a' w->WL r P ops Q rest a' w):WL r P ops Q (⟨some d,.binOp op t x y yt,ty,pos,aM,g⟩ :: rest) a w:=by
 refine dZ (v:=.int kd (qF op kd p q)) (w':=w) hw O ?_ (k _ (H.put hd _ H.hp))
 cases op <;> simp only [yD] at hop <;> simp [execOp,eqGuard,binOp,Op.intBits,H.ev hx,H.ev hy,qF]
theorem agU {x y:Operand} {t yt:TypeId} {kd ky:IntKind} {p q:Int} (n:Nat) (H:St N D w0 F G0 G L T a w) (hw:Region.wanted ⟨some d,.binOp .shl t x y yt,ty,pos,aM,g⟩ (yielded ops a.tmps)=true) (hx:ev T x=some (.int kd p)) (hy:ev T y=some (.int ky q)) (hq:q=(n:Int)) (hn:n<=kd.bits) (hd:Nat.blt d N=true)
  (k:∀ a',St N D w0 F G0 G L ((d,.int kd (kd.wrap (p*2 ^ n))) :: T) a' w->WL r P ops Q rest a' w):WL r P ops Q (⟨some d,.binOp .shl t x y yt,ty,pos,aM,g⟩ :: rest) a w:=by
 subst hq
 refine dZ (v:=.int kd (kd.wrap (p*2 ^ n))) (w':=w) hw O ?_ (k _ (H.put hd _ H.hp))
 have h0:¬ ((n:Int) < 0):=by omega
 have h1:min n kd.bits=n:=by omega
 simp [execOp,eqGuard,binOp,Op.shift,H.ev hx,H.ev hy,h0,h1]
theorem PE {x y:Operand} {t yt:TypeId} {kd ky:IntKind} {p q:Int} (n:Nat) (H:St N D w0 F G0 G L T a w) (hw:Region.wanted ⟨some d,.binOp .shr t x y yt,ty,pos,aM,g⟩ (yielded ops a.tmps)=true) (hx:ev T x=some (.int kd p)) (hy:ev T y=some (.int ky q)) (hq:q=(n:Int)) (hn:n<=kd.bits) (hd:Nat.blt d N=true)
  (k:∀ a',St N D w0 F G0 G L ((d,.int kd (p.fdiv (2 ^ n))) :: T) a' w->WL r P ops Q rest a' w):WL r P ops Q (⟨some d,.binOp .shr t x y yt,ty,pos,aM,g⟩ :: rest) a w:=by
 subst hq
 refine dZ (v:=.int kd (p.fdiv (2 ^ n))) (w':=w) hw O ?_ (k _ (H.put hd _ H.hp))
 have h0:¬ ((n:Int) < 0):=by omega
 have h1:min n kd.bits=n:=by omega
 simp [execOp,eqGuard,binOp,Op.shift,H.ev hx,H.ev hy,h0,h1]
theorem Bv {x:Operand} {t u:TypeId} {kd ks:IntKind} {p:Int} {su:TypeDesc} (z:Int) (hu:P.underlying u=some (.int kd)) (ht:P.underlying t=some su) (H:St N D w0 F G0 G L T a w) (hw:Region.wanted ⟨some d,.convert t u x,ty,pos,aM,g⟩ (yielded ops a.tmps)=true) (hx:ev T x=some (.int ks p)) (hz:kd.wrap p=z) (hd:Nat.blt d N=true)
  (k:∀ a',St N D w0 F G0 G L ((d,.int kd z) :: T) a' w->WL r P ops Q rest a' w):WL r P ops Q (⟨some d,.convert t u x,ty,pos,aM,g⟩ :: rest) a w:=by
 refine dZ (v:=.int kd z) (w':=w) hw O ?_ (k _ (H.put hd _ H.hp))
 simp [execOp,convert,lF hu,lF ht,H.ev hx,dB,Conv.intToInt,hz]
theorem CW {x y:Operand} {t:TypeId} {s:ByteArray} {kd:IntKind} {z:Int} (i:Nat) (ht:P.underlying t=some .string) (H:St N D w0 F G0 G L T a w) (hw:Region.wanted ⟨some d,.index t x y,ty,pos,aM,g⟩ (yielded ops a.tmps)=true) (hx:ev T x=some (.string s)) (hy:ev T y=some (.int kd z)) (hz:z=(i:Int)) (hi:i < s.size) (hd:Nat.blt d N=true)
  (k:∀ a',St N D w0 F G0 G L ((d,.int .u8 (s[i].toNat:Int)) :: T) a' w->WL r P ops Q rest a' w):WL r P ops Q (⟨some d,.index t x y,ty,pos,aM,g⟩ :: rest) a w:=by
 subst hz
 refine dZ (v:=.int .u8 (s[i].toNat:Int)) (w':=w) hw O ?_ (k _ (H.put hd _ H.hp))
 simp [execOp,Instr.index,asIntOf,lF ht,H.ev hx,H.ev hy,dB,hi]
theorem EF {x:Operand} {t e:TypeId} {A:Option Addr} {n c:Nat} (hs:P.underlying t=some (.slice e)) (H:St N D w0 F G0 G L T a w) (hw:Region.wanted ⟨some d,.call { callee:=.builtin .len,args:=#[x],argTypes:=#[t] },ty,pos,aM,g⟩ (yielded ops a.tmps)=true) (hx:ev T x=some (.slice A n c)) (hd:Nat.blt d N=true)
  (k:∀ a',St N D w0 F G0 G L ((d,.int .i64 n) :: T) a' w->WL r P ops Q rest a' w):WL r P ops Q (⟨some d,.call { callee:=.builtin .len,args:=#[x],argTypes:=#[t] },ty,pos,aM,g⟩ :: rest) a w :=
 dZ (v:=.int .i64 n) (w':=w) hw O (by simp [execOp,resolve,invoke,builtin,Builtin.len_,H.ev hx,dB,lF hs,goInt]) (k _ (H.put hd _ H.hp))
theorem agJ {x:Operand} {t:TypeId} {s:ByteArray} (hs:P.underlying t=some .string) (H:St N D w0 F G0 G L T a w) (hw:Region.wanted ⟨some d,.call { callee:=.builtin .len,args:=#[x],argTypes:=#[t] },ty,pos,aM,g⟩ (yielded ops a.tmps)=true) (hx:ev T x=some (.string s)) (hd:Nat.blt d N=true)
  (k:∀ a',St N D w0 F G0 G L ((d,.int .i64 s.size) :: T) a' w->WL r P ops Q rest a' w):WL r P ops Q (⟨some d,.call { callee:=.builtin .len,args:=#[x],argTypes:=#[t] },ty,pos,aM,g⟩ :: rest) a w :=
 dZ (v:=.int .i64 s.size) (w':=w) hw O (by simp [execOp,resolve,invoke,builtin,Builtin.len_,H.ev hx,dB,lF hs,goInt]) (k _ (H.put hd _ H.hp))
theorem KF {x y:Operand} {t t':TypeId} {kd:IntKind} {p q:Int} (H:St N D w0 F G0 G L T a w) (hw:Region.wanted ⟨some d,.call { callee:=.builtin .max,args:=#[x,y],argTypes:=#[t,t'] },ty,pos,aM,g⟩ (yielded ops a.tmps)=true) (hx:ev T x=some (.int kd p)) (hy:ev T y=some (.int kd q)) (hd:Nat.blt d N=true)
  (k:∀ a',St N D w0 F G0 G L ((d,.int kd (max p q)) :: T) a' w->WL r P ops Q rest a' w):WL r P ops Q (⟨some d,.call { callee:=.builtin .max,args:=#[x,y],argTypes:=#[t,t'] },ty,pos,aM,g⟩ :: rest) a w:=by
 refine dZ (v:=.int kd (max p q)) (w':=w) hw O ?_ (k _ (H.put hd _ H.hp))
 have e:(if q > p then q else p)=max p q:=by omega
 simp [execOp,resolve,invoke,builtin,Builtin.max_,Builtin.max2,H.ev hx,H.ev hy,dB,e]
theorem Hz {x y:Operand} {t t':TypeId} {kd:IntKind} {p q:Int} (H:St N D w0 F G0 G L T a w) (hw:Region.wanted ⟨some d,.call { callee:=.builtin .min,args:=#[x,y],argTypes:=#[t,t'] },ty,pos,aM,g⟩ (yielded ops a.tmps)=true) (hx:ev T x=some (.int kd p)) (hy:ev T y=some (.int kd q)) (hd:Nat.blt d N=true)
  (k:∀ a',St N D w0 F G0 G L ((d,.int kd (min p q)) :: T) a' w->WL r P ops Q rest a' w):WL r P ops Q (⟨some d,.call { callee:=.builtin .min,args:=#[x,y],argTypes:=#[t,t'] },ty,pos,aM,g⟩ :: rest) a w:=by
 refine dZ (v:=.int kd (min p q)) (w':=w) hw O ?_ (k _ (H.put hd _ H.hp))
 have e:(if q < p then q else p)=min p q:=by omega
 simp [execOp,resolve,invoke,builtin,Builtin.min_,Builtin.min2,H.ev hx,H.ev hy,dB,e]
def bQ (w:World) (G:GH) (R:ak->GH->Prop):Ending->World->Prop:=fun e w'=>∃ v G',e=.returned v∧Below w.heap.size w w'∧Ext w.heap.size G G' w'∧R v G'
def Hold (G:GH) (w:World):Prop:=∀ k o,G k=some o->w.heap[k]?=some o
theorem s_call {f:FuncId} {xs:List Operand} {vs:List ak} {ts:Array TypeId} {R:ak->GH->Prop} (en:∀ args w,(callFunc f args).run P w=.ok (.enter f args) w) (H:St N D w0 F G0 G L T a w) (hw:Region.wanted ⟨some d,.call { callee:=.value (.func f),args:=xs.toArray,argTypes:=ts },ty,pos,aM,g⟩ (yielded ops a.tmps)=true)
  (hx:evs T xs=some vs) (hc:Calls P f vs.toArray w (bQ w G R)) (hd:Nat.blt d N=true)
  (k:∀ v G' a' w',R v G'->(∀ k o,G k=some o->G' k=some o)->St N D w0 F G0 G' L ((d,v) :: T) a' w'->WL r P ops Q rest a' w'):WL r P ops Q (⟨some d,.call { callee:=.value (.func f),args:=xs.toArray,argTypes:=ts },ty,pos,aM,g⟩ :: rest) a w:=by
 refine Qz (nx:=.ok (.enter f vs.toArray) w) (R:=bQ w G R) hw O ?_ hc ?_
 ·have h1:=H.evs hx
  simp [execOp,resolve,Act.eval,Deferred.ofValue,invoke,dB,h1,en]
 ·rintro e w' ⟨v,G',rfl,hb,hX,hR⟩
  exact ⟨v,O,k v G' _ w' hR hX.1 (H.put hd v (H.hp.RF hb hX))⟩
theorem gy {x y:Code} (h:∀ K:Act->World->Prop,(∀ a w,WP r P y Q a w->K a w)->WP r P x (Exit.then K Q) a w):WP r P (.seq x y) Q a w:=wpIn_seq_k h
theorem rP {id:Nat} {l:List Oper} (h:WL r P l.toArray Q l a w):WP r P (.region id l.toArray false) Q a w:=wpIn_region_lit h
theorem gU {id:Nat} {l:List Oper} {y:Code} (h:∀ K:Act->World->Prop,(∀ a w,WP r P y Q a w->WL r P l.toArray (Exit.then K Q) [] a w)->WL r P l.toArray (Exit.then K Q) l a w):WP r P (.seq (.region id l.toArray false) y) Q a w:=gy fun K hK=>rP (h K fun a w h=>aj (hK a w h))
theorem lV (h:Q .normal a w):WP r P .skip Q a w:=wpIn_skip h
theorem aU (h:Q .ret a w):WP r P .ret Q a w:=wpIn_ret h
theorem dJ {id:Nat} (h:Q (.exit id) a w):WP r P (.exit id) Q a w:=wpIn_exit h
theorem xk {id:Nat} {c:Code} (h:WP r P c (Exit.inBlock id Q) a w):WP r P (.block id c) Q a w:=wpIn_block h
theorem ou {c:Operand} {x y:Code} {b:Bool} (H:St N D w0 F G0 G L T a w) (hc:ev T c=some (.bool b)) (h1:b=true->WP r P x Q a w) (h0:b=false->WP r P y Q a w):WP r P (.cond c x y) Q a w :=
 wpIn_cond_split (H.ev hc) h1 h0
theorem FJ {c:Operand} {x y:Code} {b:Bool} (H:St N D w0 F G0 G L T a w) (hc:ev T c=some (.bool b)) (hb:b=true) (h1:WP r P x Q a w):WP r P (.cond c x y) Q a w :=
 wpIn_cond_true (by rw [H.ev hc,hb]) h1
theorem vV {c:Operand} {x y:Code} {b:Bool} (H:St N D w0 F G0 G L T a w) (hc:ev T c=some (.bool b)) (hb:b=false) (h1:WP r P y Q a w):WP r P (.cond c x y) Q a w :=
 wpIn_cond_false (by rw [H.ev hc,hb]) h1
theorem ZF {ι:Type} {c:Code} (qv:ι->Act->World->Prop) (m:ι->Nat) (i0:ι) (h0:qv i0 a w)
  (round:∀ i a w,qv i a w->WP r P c (Exit.then (fun a' w'=>∃ i',qv i' a' w'∧m i' < m i) Q) a w):WP r P (.loop c) Q a w:=by
 intro b k cs hro hb hr
 have key:∀ j i a w,m i=j->qv i a w ->
   ∃ e a' w',Q e a' w'∧ArrivesIn (Machine.fenced P (FW r)) P (lone (b.atR a (.code c :: .inLoop c :: k)) cs w) b k cs e a' w':=by
  intro j
  induction j using Nat.strongRecOn with
  | _ j ih =>
   intro i a w hn hI
   obtain ⟨e,a₁,w₁,hq,harr⟩:=round i a w hI b (.inLoop c :: k) cs hro hb hr
   cases e with
   | normal =>
    obtain ⟨i',hI₁,hlt⟩:=hq
    obtain ⟨e₂,a₂,w₂,hq₂,harr₂⟩:=ih (m i') (hn ▸ hlt) i' a₁ w₁ O hI₁
    exact ⟨e₂,a₂,w₂,hq₂,.of_steps (StepsIn.trans harr (.one (fenced_calm hb hr O) stepR_inLoop)) harr₂⟩
   | exit id=>exact ⟨_,a₁,w₁,hq,.pass (x:=.inLoop c) O (fun _ _=>.inl (by simp)) harr⟩
   | goto l=>exact ⟨_,a₁,w₁,hq,.pass (x:=.inLoop c) O (fun _ _=>.inl (by simp)) harr⟩
   | ret=>exact ⟨_,a₁,w₁,hq,.pass (x:=.inLoop c) O (fun _ _=>.inl (by simp)) harr⟩
   | panic ch=>exact ⟨_,a₁,w₁,hq,.pass (x:=.inLoop c) O (fun _ _=>.inl (by simp)) harr⟩
   | outgrown=>exact ⟨_,a₁,w₁,hq,.pass (x:=.inLoop c) O (fun _ _=>.inl (by simp)) harr⟩
 obtain ⟨e,a',w',hq,harr⟩:=key _ i0 a w O h0
 exact ⟨e,a',w',hq,.of_steps (.one (fenced_calm hb hr O) stepR_loop) harr⟩
theorem dY {ι:Type} {c:Code} {Tc:List (Nat × ak)} {Lc:List (Nat × Obj)} (Tv:ι->List (Nat × ak)) (Lv:ι->List (Nat × Obj)) (Gv:ι->GH) (Pr:ι->Prop) (m:ι->Nat) (i0:ι)
  (H:St N D w0 F G0 (Gv i0) (Lc++Lv i0) (Tv i0++Tc) a w) (hP:Pr i0)
  (round:∀ i a w,Pr i->St N D w0 F G0 (Gv i) (Lc++Lv i) (Tv i++Tc) a w ->
   WP r P c (Exit.then (fun a' w'=>∃ i',(St N D w0 F G0 (Gv i') (Lc++Lv i') (Tv i'++Tc) a' w'∧Pr i')∧m i' < m i) Q) a w):WP r P (.loop c) Q a w :=
 ZF (fun i a w=>St N D w0 F G0 (Gv i) (Lc++Lv i) (Tv i++Tc) a w∧Pr i) m i0 ⟨H,hP⟩ fun i a w hI=>round i a w hI.2 hI.1
theorem Sb {ι:Type} {x y:Code} {Tc:List (Nat × ak)} {Lc Lr:List (Nat × Obj)} {Gh:GH} (Tv:ι->List (Nat × ak)) (Lv:ι->List (Nat × Obj)) (Gv:ι->GH) (Pr:ι->Prop)
  (_:St N D w0 F G0 Gh (Lc++Lr) Tc a w) (h1:WP r P x (Exit.then (fun a w=>∃ i,St N D w0 F G0 (Gv i) (Lc++Lv i) (Tv i++Tc) a w∧Pr i) Q) a w)
  (h2:∀ i a w,Pr i->St N D w0 F G0 (Gv i) (Lc++Lv i) (Tv i++Tc) a w->WP r P y Q a w):WP r P (.seq x y) Q a w :=
 wpIn_seq (wpIn_mono h1 fun e a w h=>by
  cases e with
  | normal=>obtain ⟨i,H,hP⟩:=h;exact h2 i a w hP H
  | _=>exact h)
theorem OO {ι:Type} {Tc:List (Nat × ak)} {Lc:List (Nat × Obj)} {Tv:ι->List (Nat × ak)} {Lv:ι->List (Nat × Obj)} {Gv:ι->GH} {Pr:ι->Prop} {m:ι->Nat} {i:ι} (i':ι)
  (H:St N D w0 F G0 (Gv i') (Lc++Lv i') (Tv i'++Tc) a w) (hP:Pr i') (hm:m i' < m i) :
  ∃ i',(St N D w0 F G0 (Gv i') (Lc++Lv i') (Tv i'++Tc) a w∧Pr i')∧m i' < m i:=⟨i',⟨H,hP⟩,hm⟩
def BR:Nat->List ak->List (Nat × ak)
 | _,[]=>[]
 | i,v :: vs=>(i,v) :: BR (i+1) vs
theorem enters {f:FuncId} {fn:Func} {c:Code} (hf:P.funcs[f]?=some fn) (hb:fn.body=some c) (hname:(fn.name == "runtime.NumGoroutine")=false) (args:Array ak) (w:World):(callFunc f args).run P w=.ok (.enter f args) w:=by
 have h1:fn.name ≠ "runtime.NumGoroutine":=by simpa using hname
 simp [callFunc,hf,h1,hb,mark]
theorem enter {f:FuncId} {fn:Func} {c:Code} {vs:List ak} {R:Ending->World->Prop} (hf:P.funcs[f]?=some fn) (hb:fn.body=some c) (hN:fn.ntmps=N) (hle:Nat.ble vs.length N=true)
  (hT:BR 0 vs=T) (hG:Hold G w) (hF:∀ k,F k->k < w.heap.size) (hL:∀ p∈L,w.heap[p.1]?=some p.2) (hLG:∀ p∈L,G p.1=none) (hLF:∀ p∈L,¬ F p.1) (hnd:L.Pairwise fun p q=>p.1≠q.1)
  (h:∀ a,St N [] w F G G L T a w->WP none P c (bodyPostM (FW none) 0 P fn R) a w):Calls P f vs.toArray w R:=by
 refine ZK (r:=none) (n:=0) (callsIn_of_wp_marks hf hb trivial (h _ ⟨?_,?_,O,⟨O,O,O,bS _,hF,fun _ _=>rfl,hG,fun _ _ h=>h,fun _ _ h=>.inl h,hL,hLG,hLF,hnd⟩⟩) O)
 ·have:=Nat.le_of_ble_eq_true hle
  simp [hN];omega
 ·intro t v ht
  have hlen:t < vs.length∧vs[t]?=some v:=by
   subst hT
   have key:∀ (vs:List ak) (s:Nat),lk (BR s vs) t=some v->s<=t∧vs[t - s]?=some v:=by
    intro vs
    induction vs with
    | nil=>intro s h;simp [BR,lk] at h
    | cons u vs ih =>
     intro s h
     simp only [BR] at h
     by_cases e:s=t
     ·subst e;rw [jX] at h;simpa using h
     ·rw [fJ e] at h
      obtain ⟨h1,h2⟩:=ih (s+1) h
      refine ⟨V,?_⟩
      have:t - s=(t - (s+1))+1:=by omega
      rw [this];simpa using h2
   have:=key vs 0 ht
   simp only [fC,Nat.sub_zero,true_and] at this
   exact ⟨(gN.1 this).1,this⟩
  rw [Array.getElem?_append_left (by simpa using hlen.1)]
  simpa using hlen.2
def EA (tmps:Array ak):ResultVar->Sem ak
 | .tmp t=>pure (tmps.getD t undef)
 | .cell a t=>do loadVar t (<- asAddr (tmps.getD a undef))
def RV (P:Program) (w:World) (tmps:Array ak) (rv:ResultVar) (v:ak):Prop:=(EA tmps rv).run P w=.ok v w
theorem aG (H:St N D w0 F G0 G L T a w) {t:Nat} {v:ak} (h:lk T t=some v):RV P w a.tmps (.tmp t) v:=by
 have:=H.ev (x:=.tmp t) h
 simp only [Act.eval] at this
 simp [RV,EA,this]
theorem Kw {t:TypeId} {sz bytes:Nat} {zero:List ak} (ht:Ty P t sz bytes zero true) (H:St N D w0 F G0 G L T a w) {s b o:Nat} {cs:List ak} (h:lk T s=some (.pointer (some ⟨b,o,none⟩))) (hl:cs.length=sz) (hc:∀ j v,cs[j]?=some v->w.cell? ⟨b,o+j,none⟩=some v) :
  RV P w a.tmps (.cell s t) (.agg cs.toArray):=by
 have:=H.ev (x:=.tmp s) h
 simp only [Act.eval] at this
 have h1:=run_loadCells (P:=P) b w cs o 0 #[] (fun j v hj=>by simpa using hc j v hj)
 simp only [Array.empty_append,hl] at h1
 simp [RV,EA,this,asAddr,loadVar,dB,ht.Kv,ht.wC,loadCells,h1]
theorem qR {t:TypeId} {sz bytes:Nat} {zero:List ak} (ht:Ty P t sz bytes zero false) (H:St N D w0 F G0 G L T a w) {s b o:Nat} {v:ak} (h:lk T s=some (.pointer (some ⟨b,o,none⟩))) (hc:w.cell? ⟨b,o,none⟩=some v) :
  RV P w a.tmps (.cell s t) v:=by
 have:=H.ev (x:=.tmp s) h
 simp only [Act.eval] at this
 simp only [RV,EA,this,asAddr,loadVar,dB,ht.Kv,jH,mh,yD,if_false,Pn hc]
inductive AO (P:Program) (w:World) (tmps:Array ak):List ResultVar->List ak->Prop
 | nil:AO P w tmps [] []
 | cons {rv rs v vs}:RV P w tmps rv v->AO P w tmps rs vs->AO P w tmps (rv :: rs) (v :: vs)
def O4:List ak->ak
 | [v]=>v
 | vs=>.tuple vs.toArray
theorem agv {fn:Func} {rs:List ResultVar} {vs:List ak} {tmps:Array ak} (hr:fn.results=rs.toArray) (h:AO P w tmps rs vs):(results fn tmps).run P w=.ok (O4 vs) w:=by
 have hm:∀ {rs:List ResultVar} {vs:List ak},AO P w tmps rs vs->(rs.mapM (EA tmps)).run P w=.ok vs w:=by
  intro rs vs h
  induction h with
  | nil=>simp
  | cons h1 _ ih =>
   unfold RV at h1
   simp only [List.mapM_cons,dB,h1,jH,ih,mh]
 have hm':=hm h
 have hres:results fn tmps=(do let vs <- fn.results.mapM (EA tmps);pure (if h:vs.size=1 then vs[0] else .tuple vs)):=rfl
 rw [hres,hr,Array.mapM_eq_mapM_toList]
 simp only [map_eq_pure_bind,dB,hm',jH,mh]
 match vs with
 | []=>rfl
 | [v]=>rfl
 | v :: u :: vs=>simp [O4]
theorem leave {fn:Func} {rs:List ResultVar} {vs:List ak} {R:Ending->World->Prop} (v:ak) (H:St N [] w0 F G0 G L T a w) (hr:fn.results=rs.toArray) (h:AO P w a.tmps rs vs) (hv:O4 vs=v) (hR:R (.returned v) w) :
  bodyPostM (FW none) 0 P fn R .ret a w∧bodyPostM (FW none) 0 P fn R .normal a w:=by
 subst hv
 have h1:LeavesInM (FW none) 0 P fn a.tmps R a.defers .returning w:=by
  rw [H.oz]
  exact ⟨_,agv hr h,hR⟩
 exact ⟨h1,h1⟩
theorem leave0 {fn:Func} {R:Ending->World->Prop} (H:St N [] w0 F G0 G L T a w) (hr:fn.results=#[]) (hR:R (.returned (.tuple #[])) w) :
  bodyPostM (FW none) 0 P fn R .ret a w∧bodyPostM (FW none) 0 P fn R .normal a w:=leave (rs:=[]) _ H hr .nil O hR
theorem leave1 {fn:Func} {rs:List ResultVar} {v:ak} {R:Ending->World->Prop} (H:St N [] w0 F G0 G L T a w) (hr:fn.results=rs.toArray) (h:AO P w a.tmps rs [v]) (hR:R (.returned v) w) :
  bodyPostM (FW none) 0 P fn R .ret a w∧bodyPostM (FW none) 0 P fn R .normal a w:=leave _ H hr h O hR
theorem bK {fn:Func} {rs:List ResultVar} {v u:ak} {vs:List ak} {R:Ending->World->Prop} (H:St N [] w0 F G0 G L T a w) (hr:fn.results=rs.toArray) (h:AO P w a.tmps rs (v :: u :: vs)) (hR:R (.returned (.tuple (v :: u :: vs).toArray)) w) :
  bodyPostM (FW none) 0 P fn R .ret a w∧bodyPostM (FW none) 0 P fn R .normal a w:=leave _ H hr h O hR
theorem Hp.ret {R:ak->GH->Prop} {v:ak} (h:Hp w0 (fun k=>k < w0.heap.size) G0 G L w) (hR:R v G):bQ w0 G0 R (.returned v) w :=
 ⟨v,G,rfl,⟨h.os,h.tape,h.output,h.size,h.fr⟩,⟨h.gm,fun k o hk=>(h.gx k o hk).imp id (fun hn=>Nat.le_of_not_lt hn),h.ro⟩,hR⟩
end steps
end
section
abbrev OL:=List (Nat × Obj)
structure jN (G:GH) (L:OL) (w:World):Prop where
 ro:Hold G w
 own:∀ p∈L,w.heap[p.1]?=some p.2
 sep:∀ p∈L,G p.1=none
 nd:L.Pairwise fun p q=>p.1≠q.1
structure Change (w w':World) (G G':GH) (L L':OL):Prop where
 os:w'.os=w.os
 tape:w'.tape=w.tape
 output:w'.output=w.output
 size:w.heap.size<=w'.heap.size
 fr:∀ k,k < w.heap.size->(∀ p∈L,p.1≠k)->w'.heap[k]?=w.heap[k]?
 gm:∀ k o,G k=some o->G' k=some o
 gx:∀ k o,G' k=some o->G k=some o∨w.heap.size<=k∨∃ p∈L,p.1=k
 owns:jN G' L' w'
 lx:∀ p∈L',w.heap.size<=p.1∨∃ q∈L,q.1=p.1
def Fr (w:World) (L0:OL):Nat->Prop:=fun k=>k < w.heap.size∧∀ p∈L0,p.1≠k
section
variable {N:Nat} {D:List Deferred} {w0 w w':World} {F:Nat->Prop} {G0 G G':GH} {L L' Li L0:OL} {T:List (Nat × ak)} {a:Act}
theorem Hp.owns (h:Hp w0 F G0 G (Li++L) w):jN G L w :=
 ⟨h.ro,fun p hp=>h.own p (List.mem_append_right _ hp),fun p hp=>h.qV p (List.mem_append_right _ hp),(List.pairwise_append.1 h.nd).2.1⟩
theorem Hp.change (h:Hp w0 F G0 G (Li++L) w) (hc:Change w w' G G' L L'):Hp w0 F G0 G' (Li++L') w':=by
 have hnd:=List.pairwise_append.1 h.nd
 have NC:∀ k,F k->k < w.heap.size:=fun k hk=>Nat.lt_of_lt_of_le (h.sJ k hk) h.size
 have Eb:∀ p∈Li,p.1 < w.heap.size∧∀ q∈L,q.1≠p.1:=fun p hp=>⟨lt_of_heap (h.own p (List.mem_append_left _ hp)),fun q hq e=>hnd.2.2 p hp q hq e.symm⟩
 refine ⟨hc.os.trans h.os,hc.tape.trans h.tape,hc.output.trans h.output,Nat.le_trans h.size hc.size,h.sJ,fun k hk=>?_,hc.owns.ro,fun k o hk=>hc.gm k o (h.gm k o hk),fun k o hk=>?_,fun p hp=>?_,fun p hp=>?_,fun p hp=>?_,?_⟩
 ·exact (hc.fr k (NC k hk) fun p hp e=>h.qU p (List.mem_append_right _ hp) (e ▸ hk)).trans (h.fr k hk)
 ·rcases hc.gx k o hk with hk|hk|⟨p,hp,rfl⟩
  ·exact h.gx k o hk
  ·exact .inr fun hf=>absurd (NC k hf) V
  ·exact .inr (h.qU p (List.mem_append_right _ hp))
 ·rcases tV.1 hp with hp|hp
  ·exact (hc.fr _ (Eb p hp).1 (Eb p hp).2).trans (h.own p (List.mem_append_left _ hp))
  ·exact hc.owns.own p hp
 ·rcases tV.1 hp with hp|hp
  ·cases hg:G' p.1 with
   | none=>rfl
   | some o =>
    rcases hc.gx _ o hg with hk|hk|⟨q,hq,e⟩
    ·rw [h.qV p (List.mem_append_left _ hp)] at hk;cases hk
    ·exact absurd (Eb p hp).1 V
    ·exact absurd e ((Eb p hp).2 q hq)
  ·exact hc.owns.sep p hp
 ·rcases tV.1 hp with hp|hp
  ·exact h.qU p (List.mem_append_left _ hp)
  ·rcases hc.lx p hp with hk|⟨q,hq,e⟩
   ·exact fun hf=>absurd (NC _ hf) V
   ·exact e ▸ h.qU q (List.mem_append_right _ hq)
 ·refine List.pairwise_append.2 ⟨hnd.1,hc.owns.nd,fun p hp q hq e=>?_⟩
  rcases hc.lx q hq with hk|⟨q',hq',e'⟩
  ·have:=(Eb p hp).1;omega
  ·exact (Eb p hp).2 q' hq' (e'.trans e.symm)
theorem Hp.aie (h:Hp w0 (Fr w0 L0) G0 G L w):Change w0 w G0 G L0 L:=by
 have hn:∀ k,¬ Fr w0 L0 k->w0.heap.size<=k∨∃ p∈L0,p.1=k:=by
  intro k hk
  by_cases hlt:k < w0.heap.size
  ·right
   apply Classical.byContradiction
   intro hno
   exact hk ⟨hlt,fun p hp e=>hno ⟨p,hp,e⟩⟩
  ·exact .inl V
 exact ⟨h.os,h.tape,h.output,h.size,fun k h1 h2=>h.fr k ⟨h1,h2⟩,h.gm,fun k o hk=>(h.gx k o hk).imp id (hn k),⟨h.ro,h.own,h.qV,h.nd⟩,fun p hp=>hn _ (h.qU p hp)⟩
theorem jN.hp (h:jN G L w):Hp w (Fr w L) G G L w :=
 ⟨rfl,rfl,rfl,bS _,fun _ hk=>hk.1,fun _ _=>rfl,h.ro,fun _ _ h=>h,fun _ _ h=>.inl h,h.own,h.sep,fun p hp hf=>hf.2 p hp O,h.nd⟩
theorem Change.trans {w2:World} {G2:GH} {L2:OL} (h1:Change w w' G G' L L') (h2:Change w' w2 G' G2 L' L2) (hG:Hold G w) (hL:∀ p∈L,p.1 < w.heap.size):Change w w2 G G2 L L2:=by
 refine ⟨h2.os.trans h1.os,h2.tape.trans h1.tape,h2.output.trans h1.output,Nat.le_trans h1.size h2.size,fun k hk hn=>?_,fun k o hk=>h2.gm k o (h1.gm k o hk),fun k o hk=>?_,h2.owns,fun p hp=>?_⟩
 ·refine (h2.fr k (Nat.lt_of_lt_of_le hk h1.size) fun p hp e=>?_).trans (h1.fr k hk hn)
  rcases h1.lx p hp with hk'|⟨q,hq,e'⟩
  ·omega
  ·exact hn q hq (e'.trans e)
 ·rcases h2.gx k o hk with hk|hk|⟨p,hp,rfl⟩
  ·exact h1.gx k o hk
  ·exact .inr (.inl (Nat.le_trans h1.size hk))
  ·rcases h1.lx p hp with hk'|⟨q,hq,e'⟩
   ·exact .inr (.inl hk')
   ·exact .inr (.inr ⟨q,hq,e'⟩)
 ·rcases h2.lx p hp with hk|⟨q,hq,e⟩
  ·exact .inl (Nat.le_trans h1.size hk)
  ·rcases h1.lx q hq with hk'|⟨q',hq',e'⟩
   ·exact .inl (e ▸ hk')
   ·exact .inr ⟨q',hq',e'.trans e⟩
theorem Hp.perm (h:Hp w0 F G0 G L w) (hp:L.Perm L'):Hp w0 F G0 G L' w :=
 ⟨h.os,h.tape,h.output,h.size,h.sJ,h.fr,h.ro,h.gm,h.gx,fun p hq=>h.own p (hp.mem_iff.2 hq),fun p hq=>h.qV p (hp.mem_iff.2 hq),fun p hq=>h.qU p (hp.mem_iff.2 hq),(hp.pairwise_iff (fun {x y} (h:x.1≠y.1) e=>h e.symm)).1 h.nd⟩
theorem St.perm (h:St N D w0 F G0 G L T a w) (hp:L.Perm L'):St N D w0 F G0 G L' T a w:=⟨h.jU,h.get,h.oz,h.hp.perm hp⟩
def jO (w:World) (G:GH) (L:OL) (R:ak->GH->OL->Prop):Ending->World->Prop:=fun e w'=>∃ v G' L',e=.returned v∧Change w w' G G' L L'∧R v G' L'
theorem Hp.dP {R:ak->GH->OL->Prop} {v:ak} (h:Hp w0 (Fr w0 L0) G0 G L w) (hR:R v G L):jO w0 G0 L0 R (.returned v) w:=⟨v,G,L,O,h.aie,hR⟩
end
section steps
variable {N:Nat} {D:List Deferred} {w0:World} {F:Nat->Prop} {G0 G:GH} {L Li L0:OL} {T:List (Nat × ak)}
variable {r:Option Nat} {P:Program} {ops:Array Oper} {Q:Exit->Act->World->Prop} {rest:List Oper} {a:Act} {w:World}
variable {d:Nat} {ty:TypeId} {pos:String} {aM:Array Edge} {g:Option (Nat × Bool)}
theorem sI {f:FuncId} {caps args:List ak} {R:Ending->World->Prop} (en:∀ args w,(callFunc f args).run P w=.ok (.enter f args) w) (h:Calls P f (args++caps).toArray w R):uK P (.func (.func f) #[] caps.toArray) args w R:=by
 refine ⟨?_⟩
 have e:(do let d <- Deferred.ofValue (.func (.func f) #[] caps.toArray) args.toArray;invoke d.target d.args:Sem Next).run P w=.ok (.enter f (args++caps).toArray) w:=by
  simp [Deferred.ofValue,dB,invoke,en]
 rw [e]
 exact h
theorem pF {x:Operand} {fv:ak} {xs:List Operand} {vs:List ak} {ts:Array TypeId} {R:ak->GH->OL->Prop} (H:St N D w0 F G0 G (Li++L) T a w) (hw:Region.wanted ⟨some d,.call { callee:=.value x,args:=xs.toArray,argTypes:=ts },ty,pos,aM,g⟩ (yielded ops a.tmps)=true)
  (hf:ev T x=some fv) (hx:evs T xs=some vs) (hc:uK P fv vs w (jO w G L R)) (hd:Nat.blt d N=true)
  (k:∀ v G' L' a' w',R v G' L'->(∀ k o,G k=some o->G' k=some o)->St N D w0 F G0 G' (Li++L') ((d,v) :: T) a' w'->WL r P ops Q rest a' w'):WL r P ops Q (⟨some d,.call { callee:=.value x,args:=xs.toArray,argTypes:=ts },ty,pos,aM,g⟩ :: rest) a w:=by
 refine Qz (nx:=_) (R:=jO w G L R) hw O O ?_ ?_
 ·have h1:=H.evs hx
  have e:(execOp a.eval ⟨some d,.call { callee:=.value x,args:=xs.toArray,argTypes:=ts },ty,pos,aM,g⟩)=(do let d <- Deferred.ofValue fv vs.toArray;invoke d.target d.args:Sem Next):=by
   simp only [execOp,resolve,H.ev hf,List.map_toArray,h1]
  rw [e]
  exact hc.go
 ·rintro e w' ⟨v,G',L',rfl,hb,hR⟩
  exact ⟨v,O,k v G' L' _ w' hR hb.gm (H.put hd v (H.hp.change hb))⟩
theorem jT {f:FuncId} {xs:List Operand} {vs:List ak} {ts:Array TypeId} {R:ak->GH->OL->Prop} (en:∀ args w,(callFunc f args).run P w=.ok (.enter f args) w) (H:St N D w0 F G0 G (Li++L) T a w) (hw:Region.wanted ⟨some d,.call { callee:=.value (.func f),args:=xs.toArray,argTypes:=ts },ty,pos,aM,g⟩ (yielded ops a.tmps)=true)
  (hx:evs T xs=some vs) (hc:Calls P f vs.toArray w (jO w G L R)) (hd:Nat.blt d N=true)
  (k:∀ v G' L' a' w',R v G' L'->(∀ k o,G k=some o->G' k=some o)->St N D w0 F G0 G' (Li++L') ((d,v) :: T) a' w'->WL r P ops Q rest a' w'):WL r P ops Q (⟨some d,.call { callee:=.value (.func f),args:=xs.toArray,argTypes:=ts },ty,pos,aM,g⟩ :: rest) a w:=by
 refine pF (fv:=.func (.func f) #[] #[]) H hw O hx ?_ hd k
 have h:=sI (caps:=[]) (args:=vs) en (by simpa using hc)
 exact h
abbrev AP:=List ak->GH->Prop
def uJ (xs:List AP) (k:Nat) (args:List ak) (g:GH):Prop:=∃ p,xs[k]?=some p∧p args g
def Ii (P:Program) (fv:ak) (Gi:GH) (xs:List AP) (J:Nat->GH->OL->Prop) (Jx:GH->OL->Prop):Prop :=
 ∀ k args G L w,uJ xs k args G->(∀ b o,Gi b=some o->G b=some o)->J k G L->jN G L w ->
  uK P fv args w (jO w G L fun v G' L'=>∃ b,v=.bool b∧(b=true->J (k+1) G' L')∧(b=false->Jx G' L'))
def Fg (J:Nat->GH->OL->Prop):Prop:=∀ k (G G':GH) L,(∀ b o,G b=some o->G' b=some o)->J k G L->J k G' L
def Iu (J:GH->OL->Prop):Prop:=∀ (G G':GH) L,(∀ b o,G b=some o->G' b=some o)->J G L->J G' L
def Iter (P:Program) (Gi:GH) (gv:ak) (xs:List AP):Prop :=
 ∀ (J:Nat->GH->OL->Prop) (Jx:GH->OL->Prop) (fv:ak) (G:GH) (L:OL) (w:World),fv.cells=#[fv]->(∀ b o,Gi b=some o->G b=some o)->Fg J->Iu Jx->J 0 G L->jN G L w->Ii P fv G xs J Jx ->
  uK P gv [fv] w (jO w G L fun _ G' L'=>J xs.length G' L'∨Jx G' L')
theorem Iter.mono {Gi Fe:GH} {gv:ak} {xs:List AP} (h:Iter P Gi gv xs) (hm:∀ b o,Gi b=some o->Fe b=some o):Iter P Fe gv xs :=
 fun J Jx fv G L w h0 h1=>h J Jx fv G L w h0 fun b o hb=>h1 b o (hm b o hb)
def uQ:List Nat->List ak->List (Nat × ak)->List (Nat × ak)
 | p :: ps,v :: vs,T=>uQ ps vs ((p,v) :: T)
 | _,_,T=>T
theorem Xj:∀ (ps:List Nat) (vs:List ak) (T:List (Nat × ak)) (tm:Array ak),tm.size=N->(∀ t v,lk T t=some v->tm[t]?=some v)->ps.all (Nat.blt · N)=true ->
  ((ps.zip vs).foldl (fun t (x:Nat × ak)=>t.setIfInBounds x.1 x.2) tm).size=N∧∀ t v,lk (uQ ps vs T) t=some v->((ps.zip vs).foldl (fun t (x:Nat × ak)=>t.setIfInBounds x.1 x.2) tm)[t]?=some v
 | [],_,T,tm,h1,h2,_=>⟨h1,by simpa [uQ] using h2⟩
 | p :: ps,[],T,tm,h1,h2,_=>⟨h1,by simpa [uQ] using h2⟩
 | p :: ps,v :: vs,T,tm,h1,h2,h3=>by
  simp only [List.all_cons,iG] at h3
  have hp:p < tm.size:=by rw [h1];exact Eq.mp Nat.blt_eq h3.1
  simp only [List.zip_cons_cons,List.foldl_cons,uQ]
  refine Xj ps vs _ _ (by simpa using h1) (fun t u ht=>?_) h3.2
  rw [Array.getElem?_setIfInBounds]
  by_cases e:p=t
  ·subst e;rw [jX] at ht;simp [hp];simpa using ht
  ·rw [fJ e] at ht;simp [e];exact h2 t u ht
structure Rec where
 fn:FuncId
 tmps:Array ak
 params:Array Tmp
 assign:Code
 body:Code
 defers:Nat
def Rec.at (q:Rec) (s:LoopState) (p:Option Code):Obj:=.loop { state:=s,pending:=p,fn:=q.fn,tmps:=q.tmps,params:=q.params,assign:=q.assign,body:=q.body,defers:=q.defers }
def QF (w1:World) (G:GH) (L:OL) (Jn:GH->OL->Prop) (Jx:GH->OL->Prop):Ending->World->Prop:=jO w1 G L fun v G' L'=>∃ b,v=.bool b∧(b=true->Jn G' L')∧(b=false->Jx G' L')
theorem BG {b:Nat} {o:Obj} (o':Obj) (h:w.heap[b]?=some o):sF b o' w (w.putObj b o') :=
 ⟨rfl,rfl,rfl,World.putObj_size,World.putObj_heap_same (lt_of_heap h),fun _ hk=>World.putObj_heap_other hk⟩
theorem R7 {l:Nat} {q:Rec} {c:Code} {R:Ending->World->Prop} (H:St N D w0 F G0 G ((l,q.at .ready none) :: L) T a w)
  (k:∀ w',St N D w0 F G0 G ((l,q.at .busy none) :: L) T a w'->WP (some l) P c (roundPost P l R) a w') :
  ∃ w₂,(Instr.beginRound l).run P w=.ok () w₂∧c.wpIn (FW (some l)) 0 P (roundPost P l R) a w₂:=by
 have hl:=H.hp.own _ (nN)
 refine ⟨_,run_beginRound hl O,k _ (H.move ?_)⟩
 exact H.hp.upd (i:=0) O (BG _ hl)
theorem Ey {l:Nat} {q:Rec} {w1:World} {G1:GH} {L1:OL} {Jn Jx:GH->OL->Prop} (jump:Option Code) (H:St N D w1 (Fr w1 L1) G1 G ((l,q.at .busy none) :: L) T a w)
  (h:match jump with|none=>Jn G ((l,q.at .ready none) :: L)|some c=>Jx G ((l,q.at .done (some c)) :: L)) :
  ∃ v w',(Instr.endRound l jump).run P w=.ok v w'∧QF w1 G1 L1 Jn Jx (.returned v) w':=by
 have hl:=H.hp.own _ (nN)
 refine ⟨_,_,run_endRound jump hl,?_⟩
 cases jump with
 | none=>exact Hp.dP (H.hp.upd (i:=0) O (BG _ hl)) ⟨true,O,fun _=>h,fun e=>by cases e⟩
 | some c=>exact Hp.dP (H.hp.upd (i:=0) O (BG _ hl)) ⟨false,O,fun e=>(by cases e),fun _=>h⟩
def Jr (l:Nat) (q:Rec) (bk:OL) (J:GH->OL->Prop):GH->OL->Prop:=fun G L=>∃ Lu,L=(l,q.at .ready none) :: (bk++Lu)∧J G Lu
def Im (l:Nat) (q:Rec) (bk:OL) (Jx:Code->GH->OL->Prop):GH->OL->Prop:=fun G L=>∃ c Lu,L=(l,q.at .done (some c)) :: (bk++Lu)∧Jx c G Lu
def LY (P:Program) (N:Nat) (ps:List Nat) (assign body:Code) (T:List (Nat × ak)) (G:GH) (J:Nat->GH->OL->Prop) (Jx:Code->GH->OL->Prop) (xs:List AP):Prop :=
 ∀ (l:Nat) (q:Rec) (bk:OL) (k:Nat) (args:List ak) (G1:GH) (L1:OL) (w1:World) (a1:Act),uJ xs k args G1->(∀ b o,G b=some o->G1 b=some o)->J k G1 L1 ->
  St N [] w1 (Fr w1 ((l,q.at .ready none) :: (bk++L1))) G1 G1 ((l,q.at .ready none) :: (bk++L1)) (uQ ps args T) a1 w1 ->
  WP (some l) P assign (Exit.then (fun a2 w2=>∃ w3,(Instr.beginRound l).run P w2=.ok () w3∧body.wpIn (FW (some l)) 0 P (roundPost P l (QF w1 G1 ((l,q.at .ready none) :: (bk++L1)) (Jr l q bk (J (k+1))) (Im l q bk Jx))) a2 w3) (fun _ _ _=>False)) a1 w1
theorem Sc {fn:FuncId} {tm:Array ak} {ps:List Nat} {assign body:Code} {df l:Nat} {bk:OL} {J:Nat->GH->OL->Prop} {Jx:Code->GH->OL->Prop} {xs:List AP} (h1:tm.size=N) (h2:∀ t v,lk T t=some v->tm[t]?=some v)
  (hps:ps.all (Nat.blt · N)=true) (hlen:∀ k args g,uJ xs k args g->args.length=ps.length) (hr:LY P N ps assign body T G J Jx xs) :
  Ii P (.func (.yield l) #[] #[]) G xs (fun k=>Jr l ⟨fn,tm,ps.toArray,assign,body,df⟩ bk (J k)) (Im l ⟨fn,tm,ps.toArray,assign,body,df⟩ bk Jx):=by
 intro k args G1 L1 w1 hk hm hJ ho
 obtain ⟨Lu,rfl,hJ⟩:=hJ
 have hl:=ho.own _ (nN)
 have hargs:args.toArray.size=ps.toArray.size:=by simpa using hlen k args _ hk
 have hy:=run_yield (P:=P) (args:=args.toArray) hl hargs
 have hz:(ps.toArray.zip args.toArray).foldl (fun tmps (x:Nat × ak)=>tmps.setIfInBounds x.1 x.2) tm=(ps.zip args).foldl (fun t (x:Nat × ak)=>t.setIfInBounds x.1 x.2) tm:=by
  simp [List.zip_toArray]
 obtain ⟨z1,z2⟩:=Xj ps args T tm h1 h2 hps
 refine ⟨?_⟩
 have e:(do let d <- Deferred.ofValue (.func (.yield l) #[] #[]) args.toArray;invoke d.target d.args:Sem Next).run P w1=.ok (.round l fn ((ps.zip args).foldl (fun t (x:Nat × ak)=>t.setIfInBounds x.1 x.2) tm) assign body) w1:=by
  simp only [Deferred.ofValue,pure_bind,invoke,Array.empty_append]
  rw [<- hz]
  exact hy
 rw [e]
 refine roundIn_of_wpIn (F:=FW none) trivial ?_
 exact hr l _ bk k args G1 Lu w1 { tmps:=_,defers:=[] } hk hm hJ ⟨z1,z2,O,ho.hp⟩
theorem ZG {xC:Operand} {ps:List Nat} {assign body:Code} {gf:FuncId} {caps:List ak} {xs:List AP} {Gi:GH}
  (H:St N D w0 F G0 G L T a w) (hg:ev T xC=some (.func (.func gf) #[] caps.toArray)) (en:∀ args w,(callFunc gf args).run P w=.ok (.enter gf args) w) (hit:Iter P Gi (.func (.func gf) #[] caps.toArray) xs) (hGi:∀ b o,Gi b=some o->G b=some o)
  (hps:ps.all (Nat.blt · N)=true) (hlen:∀ k args g,uJ xs k args g->args.length=ps.length)
  (J:Nat->GH->OL->Prop) (Jx:Code->GH->OL->Prop) (qH:Fg J) (hJx:∀ c,Iu (Jx c)) (h0:J 0 G L) (Ov:LY P N ps assign body T G J Jx xs)
  (hdone:∀ Dk G1 L1 a1 w1,(∀ b o,G b=some o->G1 b=some o)->J xs.length G1 L1->St N ({ target:=.collected Dk,args:=#[] } :: D) w0 F G0 G1 ((Dk,.deferred (some [])) :: L1) T a1 w1->Q .normal a1 w1)
  (hstop:∀ Dk c G1 L1 a1 w1,(∀ b o,G b=some o->G1 b=some o)->Jx c G1 L1->St N ({ target:=.collected Dk,args:=#[] } :: D) w0 F G0 G1 ((Dk,.deferred (some [])) :: L1) T a1 w1->WP none P c Q a1 w1) :
  WP none P (.rangeFunc xC ps.toArray assign body) Q a w:=by
 refine wpIn_rangeFunc ?_
 intro fn _
 have hev:=H.ev hg
 let q:Rec:=⟨fn,a.tmps,ps.toArray,assign,body,w.heap.size⟩
 obtain ⟨W1,hW1⟩:∃ W1,W1=(w.alloc (.deferred (some []))).alloc (q.at .ready none):=⟨_,O⟩
 have H1:Hp w0 F G0 G ((w.heap.size+1,q.at .ready none) :: (w.heap.size,.deferred (some [])) :: L) W1:=by
  have:=(H.hp.alloc (.deferred (some []))).alloc (q.at .ready none)
  rw [World.size_alloc] at this
  rw [hW1];exact this
 refine ⟨w.heap.size+1,[{ target:=.collected w.heap.size,args:=#[] }],W1,{ target:=.fn (.func gf) caps.toArray,args:=#[.func (.yield (w.heap.size+1)) #[] #[]] },W1,gf,
  #[.func (.yield (w.heap.size+1)) #[] #[]]++caps.toArray,W1,by rw [hW1];exact run_enterLoop_outer fn a.tmps ps.toArray assign body,?_,fun _ _=>trivial,?_,Ij none,?_⟩
 ·simp only [resolve,rangeCall,hev]
  simp [Deferred.ofValue,Act.eval]
 ·simp [invoke,en]
 ·have hcv:=hit (fun k=>Jr (w.heap.size+1) q [(w.heap.size,.deferred (some []))] (J k)) (Im (w.heap.size+1) q [(w.heap.size,.deferred (some []))] Jx) (.func (.yield (w.heap.size+1)) #[] #[]) G
   ((w.heap.size+1,q.at .ready none) :: (w.heap.size,.deferred (some [])) :: L) W1 rfl hGi (fun k G G' L hm ⟨Lu,e,h⟩=>⟨Lu,e,qH k G G' Lu hm h⟩) (fun G G' L hm ⟨c,Lu,e,h⟩=>⟨c,Lu,e,hJx c G G' Lu hm h⟩) ⟨L,O,h0⟩ (Hp.owns (Li:=[]) H1) (Sc H.jU H.get hps hlen Ov)
  replace hcv:=hcv.go
  have e:(do let d <- Deferred.ofValue (.func (.func gf) #[] caps.toArray) [Value.func (.yield (w.heap.size+1)) #[] #[]].toArray;invoke d.target d.args:Sem Next).run P W1=.ok (.enter gf (#[.func (.yield (w.heap.size+1)) #[] #[]]++caps.toArray)) W1:=by
   simp [Deferred.ofValue,invoke,en]
  rw [e] at hcv
  refine (MG hcv).mono ?_
  rintro e w2 ⟨v,G2,L2,rfl,hch,hJ⟩
  have H2:=Hp.change (Li:=[]) H1 hch
  rcases hJ with ⟨Lu,rfl,hJ⟩|⟨c,Lu,rfl,hJ⟩
  ·have hl:=H2.own _ (nN)
   have H3:=(H2.upd (i:=0) O (BG (q.at .exhausted none) hl)).drop (List.sublist_cons_self _ _)
   exact ⟨none,_,run_endLoop hl (by simp),hdone _ G2 Lu _ _ hch.gm hJ ⟨H.jU,H.get,by simp [H.oz],H3⟩⟩
  ·have hl:=H2.own _ (nN)
   have H3:=(H2.upd (i:=0) O (BG (q.at .exhausted (some c)) hl)).drop (List.sublist_cons_self _ _)
   exact ⟨some c,_,run_endLoop hl (by simp),hstop _ c G2 Lu _ _ hch.gm hJ ⟨H.jU,H.get,by simp [H.oz],H3⟩⟩
theorem Es {fn:Func} {R:Ending->World->Prop} {b:Nat} (H:St N ({ target:=.collected b,args:=#[] } :: D) w0 F G0 G L T a w) (i:Nat) (hi:L[i]?=some (b,.deferred (some [])))
  (k:∀ a' w',St N D w0 F G0 G (L.eraseIdx i) T a' w'->bodyPostM (FW none) 0 P fn R .ret a' w'):bodyPostM (FW none) 0 P fn R .ret a w∧bodyPostM (FW none) 0 P fn R .normal a w:=by
 have hb:=H.hp.own _ (kg hi)
 have H2:=(H.hp.upd hi (BG (.deferred none) hb)).drop (L':=L.eraseIdx i) (by
  have h1:(L.set i (b,.deferred none)).eraseIdx i=L.eraseIdx i:=by
   apply List.ext_getElem?
   intro j
   simp only [List.getElem?_eraseIdx,List.getElem?_set]
   split <;> split <;> first|rfl|omega
  rw [<- h1];exact List.eraseIdx_sublist _ _)
 have hk:=k { a with defers:=D } _ ⟨H.jU,H.get,O,H2⟩
 have h1:LeavesInM (FW none) 0 P fn a.tmps R a.defers .returning w:=by
  rw [H.oz]
  exact ⟨by simp,.inl ⟨b,_,O,run_takeDeferred hb,hk⟩⟩
 exact ⟨h1,h1⟩
theorem St.giveUp {b:Nat} {o:Obj} (h:St N D w0 F G0 G L T a w) (i:Nat) (hi:L[i]?=some (b,o)):St N D w0 F G0 (G.add b o) (L.eraseIdx i) T a w:=⟨h.jU,h.get,h.oz,h.hp.giveUp i hi⟩
theorem St.Ue {b:Nat} {o:Obj} (h:St N D w0 F G0 G L T a w) (i:Nat) (hi:L[i]?=some (b,o)):G b=none:=h.hp.qV _ (kg hi)
theorem mP {f:FuncId} {fn:Func} {c:Code} {vs:List ak} {R:Ending->World->Prop} (hf:P.funcs[f]?=some fn) (hb:fn.body=some c) (hN:fn.ntmps=N) (hle:Nat.ble vs.length N=true)
  (hT:BR 0 vs=T) (ho:jN G L w) (h:∀ a,St N [] w (Fr w L) G G L T a w->WP none P c (bodyPostM (FW none) 0 P fn R) a w):Calls P f vs.toArray w R :=
 enter hf hb hN hle hT ho.ro (fun _ hk=>hk.1) ho.own ho.sep (fun p hp hf=>hf.2 p hp O) ho.nd h
end steps
end
inductive Dat where
 | lf (v:ak)
 | sl (sz:Nat) (rows:List (List Dat))
mutual
def aF (G:GH):Dat->ak->Prop
 | .lf u,v=>v=u∧Value.oneCell' u=true
 | .sl sz rows,v=>∃ A c,v=.slice A rows.length c∧rows.length<=c∧c<=maxLen∧(rows≠[]->∃ b o,A=some ⟨b,o,none⟩∧lS G sz b o rows)
def lS (G:GH) (sz b:Nat):Nat->List (List Dat)->Prop
 | _,[]=>True
 | o,r :: rs=>(∃ cs,cs.length=sz∧(∀ j v,cs[j]?=some v->aS G b (o+j)=some v)∧aY G r cs)∧lS G sz b (o+sz) rs
def aY (G:GH):List Dat->List ak->Prop
 | [],cs=>cs=[]
 | d :: ds,cs=>∃ v vs,cs=v :: vs∧aF G d v∧aY G ds vs
end
theorem aK {G G':GH} (hm:∀ k o,G k=some o->G' k=some o) {b o:Nat} {v:ak} (h:aS G b o=some v):aS G' b o=some v:=by
 unfold aS at h |-
 cases hg:G b with
 | none=>rw [hg] at h;cases h
 | some ob=>rw [hg] at h;rw [hm b ob hg];exact h
mutual
theorem aF.mono {G G':GH} (hm:∀ k o,G k=some o->G' k=some o):∀ {d:Dat} {v:ak},aF G d v->aF G' d v
 | .lf u,v,h=>by simpa [aF] using h
 | .sl sz rows,v,h=>by
  simp only [aF] at h |-
  obtain ⟨A,c,h1,h2,h3,h4⟩:=h
  exact ⟨A,c,h1,h2,h3,fun hn=>let ⟨b,o,e,hr⟩:=h4 hn;⟨b,o,e,lS.mono hm hr⟩⟩
theorem lS.mono {G G':GH} (hm:∀ k o,G k=some o->G' k=some o) {sz b:Nat}:∀ {rows:List (List Dat)} {o:Nat},lS G sz b o rows->lS G' sz b o rows
 | [],o,_=>by simp [lS]
 | r :: rs,o,h=>by
  simp only [lS] at h |-
  obtain ⟨⟨cs,h1,h2,h3⟩,h4⟩:=h
  exact ⟨⟨cs,h1,fun j v hj=>aK hm (h2 j v hj),aY.mono hm h3⟩,lS.mono hm h4⟩
theorem aY.mono {G G':GH} (hm:∀ k o,G k=some o->G' k=some o):∀ {ds:List Dat} {cs:List ak},aY G ds cs->aY G' ds cs
 | [],cs,h=>by simpa [aY] using h
 | d :: ds,cs,h=>by
  simp only [aY] at h |-
  obtain ⟨v,vs,h1,h2,h3⟩:=h
  exact ⟨v,vs,h1,aF.mono hm h2,aY.mono hm h3⟩
end
theorem lS.get {G:GH} {sz b:Nat}:∀ {rows:List (List Dat)} {o k:Nat} {r:List Dat},lS G sz b o rows->rows[k]?=some r->∃ cs,cs.length=sz∧(∀ j v,cs[j]?=some v->aS G b (o+k*sz+j)=some v)∧aY G r cs
 | [],_,_,_,_,h=>by simp at h
 | r :: rs,o,0,q,h,hk=>by
  simp only [zx,kZ] at hk
  subst hk
  simp only [lS] at h
  simpa using h.1
 | r :: rs,o,k+1,q,h,hk=>by
  simp only [List.getElem?_cons_succ] at hk
  simp only [lS] at h
  obtain ⟨cs,h1,h2,h3⟩:=lS.get h.2 hk
  exact ⟨cs,h1,fun j v hj=>by rw [<- h2 j v hj];congr 1;rw [Nat.succ_mul];omega,h3⟩
theorem aF.slice {G:GH} {sz:Nat} {rows:List (List Dat)} {v:ak} (h:aF G (.sl sz rows) v):∃ A c,v=.slice A rows.length c∧rows.length<=c∧c<=maxLen ∧
  ∀ k r,rows[k]?=some r->∃ b o cs,A=some ⟨b,o,none⟩∧cs.length=sz∧(∀ j u,cs[j]?=some u->aS G b (o+k*sz+j)=some u)∧aY G r cs:=by
 simp only [aF] at h
 obtain ⟨A,c,h1,h2,h3,h4⟩:=h
 refine ⟨A,c,h1,h2,h3,fun k r hk=>?_⟩
 obtain ⟨b,o,e,hr⟩:=h4 (by rintro rfl;simp at hk)
 obtain ⟨cs,g1,g2,g3⟩:=hr.get hk
 exact ⟨b,o,cs,e,g1,g2,g3⟩
theorem lS.mk {G:GH} {sz b:Nat}:∀ {rows:List (List Dat)} {o:Nat},(∀ k r,rows[k]?=some r->∃ cs,cs.length=sz∧(∀ j u,cs[j]?=some u->aS G b (o+k*sz+j)=some u)∧aY G r cs)->lS G sz b o rows
 | [],o,_=>by simp [lS]
 | r :: rs,o,h=>by
  simp only [lS]
  refine ⟨by simpa using h 0 r O,lS.mk fun k q hk=>?_⟩
  obtain ⟨cs,h1,h2,h3⟩:=h (k+1) q (by simpa using hk)
  exact ⟨cs,h1,fun j v hj=>by rw [<- h2 j v hj];congr 1;rw [Nat.succ_mul];omega,h3⟩
abbrev vi (n:Int):ak:=.int .i64 n
structure mg where
 key:Int
 value:Int
structure lI where
 rev:Int
 move:Int
structure lQ where
 rev:Int
 key:Int
 before:Int
 had:Bool
structure yx where
 ins:Int
 move:Int
 ni:List lI
 layers:List lQ
structure jZ where
 props:List mg
 marks:yx
mutual
inductive aD where
 | mk (kind code id:Int) (text:ByteArray) (head:jZ) (flow:List aD) (rows:List dQ)
inductive dQ where
 | mk (head:jZ) (cells:List dO)
inductive dO where
 | mk (id:Int) (head:jZ) (flow:List aD)
end
namespace aD
def kind:aD->Int|.mk k _ _ _ _ _ _=>k
def code:aD->Int|.mk _ c _ _ _ _ _=>c
def id:aD->Int|.mk _ _ i _ _ _ _=>i
def text:aD->ByteArray|.mk _ _ _ t _ _ _=>t
def head:aD->jZ|.mk _ _ _ _ h _ _=>h
def flow:aD->List aD|.mk _ _ _ _ _ f _=>f
def rows:aD->List dQ|.mk _ _ _ _ _ _ r=>r
end aD
namespace dQ
def head:dQ->jZ|.mk h _=>h
def cells:dQ->List dO|.mk _ c=>c
end dQ
namespace dO
def id:dO->Int|.mk i _ _=>i
def head:dO->jZ|.mk _ h _=>h
def flow:dO->List aD|.mk _ _ f=>f
end dO
abbrev li (n:Int):Dat:=.lf (.int .i64 n)
def mg.dat (p:mg):List Dat:=[li p.key,li p.value]
def lI.dat (p:lI):List Dat:=[li p.rev,li p.move]
def lQ.dat (p:lQ):List Dat:=[li p.rev,li p.key,li p.before,.lf (.bool p.had)]
def yx.dat (m:yx):List Dat:=[li m.ins,li m.move,.sl 2 (m.ni.map lI.dat),.sl 4 (m.layers.map lQ.dat)]
def jZ.dat (h:jZ):List Dat:=.sl 2 (h.props.map mg.dat) :: h.marks.dat
mutual
def aD.dat:aD->List Dat
 | .mk k c i t h f r=>li k :: li c :: li i :: .lf (.string t) :: (h.dat++[.sl 11 (DN f),.sl 6 (FR r)])
def dQ.dat:dQ->List Dat
 | .mk h cs=>h.dat++[.sl 7 (FQ cs)]
def dO.dat:dO->List Dat
 | .mk i h f=>li i :: (h.dat++[.sl 11 (DN f)])
def DN:List aD->List (List Dat)
 | []=>[]
 | x :: r=>x.dat :: DN r
def FR:List dQ->List (List Dat)
 | []=>[]
 | x :: r=>x.dat :: FR r
def FQ:List dO->List (List Dat)
 | []=>[]
 | x :: r=>x.dat :: FQ r
end
theorem MN:∀ l:List aD,DN l=l.map aD.dat
 | []=>by simp [DN]
 | x :: r=>by simp [DN,MN r]
theorem Sz:∀ l:List dQ,FR l=l.map dQ.dat
 | []=>by simp [FR]
 | x :: r=>by simp [FR,Sz r]
theorem Sy:∀ l:List dO,FQ l=l.map dO.dat
 | []=>by simp [FQ]
 | x :: r=>by simp [FQ,Sy r]
theorem aD.xq (x:aD):x.dat=li x.kind :: li x.code :: li x.id :: .lf (.string x.text) :: (x.head.dat++[.sl 11 (x.flow.map aD.dat),.sl 6 (x.rows.map dQ.dat)]):=by
 cases x;simp [aD.dat,aD.kind,aD.code,aD.id,aD.text,aD.head,aD.flow,aD.rows,MN,Sz]
theorem dQ.xq (x:dQ):x.dat=x.head.dat++[.sl 7 (x.cells.map dO.dat)]:=by
 cases x;simp [dQ.dat,dQ.head,dQ.cells,Sy]
theorem dO.xq (x:dO):x.dat=li x.id :: (x.head.dat++[.sl 11 (x.flow.map aD.dat)]):=by
 cases x;simp [dO.dat,dO.id,dO.head,dO.flow,MN]
structure og (G:GH) (x:jZ) (p d l:ak):Prop where
 props:aF G (.sl 2 (x.props.map mg.dat)) p
 ni:aF G (.sl 2 (x.marks.ni.map lI.dat)) d
 layers:aF G (.sl 4 (x.marks.layers.map lQ.dat)) l
theorem og.mono {G G':GH} (hm:∀ k o,G k=some o->G' k=some o) {x:jZ} {p d l:ak} (h:og G x p d l):og G' x p d l:=⟨h.props.mono hm,h.ni.mono hm,h.layers.mono hm⟩
theorem aF.form {G:GH} {sz:Nat} {rows:List (List Dat)} {v:ak} (h:aF G (.sl sz rows) v):∃ A n c,v=.slice A n c:=by
 obtain ⟨A,c,h,_⟩:=h.slice
 exact ⟨A,_,c,h⟩
theorem aY.item {G:GH} {x:aD} {cs:List ak} (h:aY G x.dat cs):∃ pA pn pc dA dn dc lA ln lc fA fn fc rA rn rc,cs=[vi x.kind,vi x.code,vi x.id,.string x.text,.slice pA pn pc,vi x.head.marks.ins,vi x.head.marks.move,.slice dA dn dc,.slice lA ln lc,.slice fA fn fc,.slice rA rn rc] ∧
  og G x.head (.slice pA pn pc) (.slice dA dn dc) (.slice lA ln lc)∧aF G (.sl 11 (x.flow.map aD.dat)) (.slice fA fn fc)∧aF G (.sl 6 (x.rows.map dQ.dat)) (.slice rA rn rc):=by
 rw [aD.xq] at h
 simp only [jZ.dat,yx.dat,nU,uN,aY] at h
 obtain ⟨v1,_,rfl,h1,v2,_,rfl,h2,v3,_,rfl,h3,v4,_,rfl,h4,p,_,rfl,hp,v5,_,rfl,h5,v6,_,rfl,h6,d,_,rfl,hd,l,_,rfl,hl,f,_,rfl,hf,r,_,rfl,hr,rfl⟩:=h
 obtain ⟨pA,pn,pc,rfl⟩:=hp.form
 obtain ⟨dA,dn,dc,rfl⟩:=hd.form
 obtain ⟨lA,ln,lc,rfl⟩:=hl.form
 obtain ⟨fA,fn,fc,rfl⟩:=hf.form
 obtain ⟨rA,rn,rc,rfl⟩:=hr.form
 simp only [aF] at h1 h2 h3 h4 h5 h6
 obtain ⟨rfl,-⟩:=h1;obtain ⟨rfl,-⟩:=h2;obtain ⟨rfl,-⟩:=h3;obtain ⟨rfl,-⟩:=h4;obtain ⟨rfl,-⟩:=h5;obtain ⟨rfl,-⟩:=h6
 exact ⟨pA,pn,pc,dA,dn,dc,lA,ln,lc,fA,fn,fc,rA,rn,rc,O,⟨hp,hd,hl⟩,hf,hr⟩
theorem aY.row {G:GH} {x:dQ} {cs:List ak} (h:aY G x.dat cs):∃ pA pn pc dA dn dc lA ln lc cA cn cc,cs=[.slice pA pn pc,vi x.head.marks.ins,vi x.head.marks.move,.slice dA dn dc,.slice lA ln lc,.slice cA cn cc]∧og G x.head (.slice pA pn pc) (.slice dA dn dc) (.slice lA ln lc)∧aF G (.sl 7 (x.cells.map dO.dat)) (.slice cA cn cc):=by
 rw [dQ.xq] at h
 simp only [jZ.dat,yx.dat,nU,uN,aY] at h
 obtain ⟨p,_,rfl,hp,v5,_,rfl,h5,v6,_,rfl,h6,d,_,rfl,hd,l,_,rfl,hl,f,_,rfl,hf,rfl⟩:=h
 obtain ⟨pA,pn,pc,rfl⟩:=hp.form
 obtain ⟨dA,dn,dc,rfl⟩:=hd.form
 obtain ⟨lA,ln,lc,rfl⟩:=hl.form
 obtain ⟨fA,fn,fc,rfl⟩:=hf.form
 simp only [aF] at h5 h6
 obtain ⟨rfl,-⟩:=h5;obtain ⟨rfl,-⟩:=h6
 exact ⟨pA,pn,pc,dA,dn,dc,lA,ln,lc,fA,fn,fc,O,⟨hp,hd,hl⟩,hf⟩
theorem aY.cell {G:GH} {x:dO} {cs:List ak} (h:aY G x.dat cs):∃ pA pn pc dA dn dc lA ln lc fA fn fc,cs=[vi x.id,.slice pA pn pc,vi x.head.marks.ins,vi x.head.marks.move,.slice dA dn dc,.slice lA ln lc,.slice fA fn fc]∧og G x.head (.slice pA pn pc) (.slice dA dn dc) (.slice lA ln lc)∧aF G (.sl 11 (x.flow.map aD.dat)) (.slice fA fn fc):=by
 rw [dO.xq] at h
 simp only [jZ.dat,yx.dat,nU,uN,aY] at h
 obtain ⟨v1,_,rfl,h1,p,_,rfl,hp,v5,_,rfl,h5,v6,_,rfl,h6,d,_,rfl,hd,l,_,rfl,hl,f,_,rfl,hf,rfl⟩:=h
 obtain ⟨pA,pn,pc,rfl⟩:=hp.form
 obtain ⟨dA,dn,dc,rfl⟩:=hd.form
 obtain ⟨lA,ln,lc,rfl⟩:=hl.form
 obtain ⟨fA,fn,fc,rfl⟩:=hf.form
 simp only [aF] at h1 h5 h6
 obtain ⟨rfl,-⟩:=h1;obtain ⟨rfl,-⟩:=h5;obtain ⟨rfl,-⟩:=h6
 exact ⟨pA,pn,pc,dA,dn,dc,lA,ln,lc,fA,fn,fc,O,⟨hp,hd,hl⟩,hf⟩
theorem aF.one {G:GH}:∀ {d:Dat} {v:ak},aF G d v->Value.oneCell' v=true
 | .lf u,v,h=>by simp only [aF] at h;rw [h.1];exact h.2
 | .sl sz rows,v,h=>by obtain ⟨A,n,c,rfl⟩:=h.form;rfl
theorem aY.one {G:GH}:∀ {ds:List Dat} {cs:List ak},aY G ds cs->cs.all Value.oneCell'=true
 | [],cs,h=>by simp only [aY] at h;subst h;rfl
 | d :: ds,cs,h=>by
  simp only [aY] at h
  obtain ⟨v,vs,rfl,h1,h2⟩:=h
  simp only [List.all_cons,h1.one,h2.one,Bool.and_self]
theorem aY.length {G:GH}:∀ {ds:List Dat} {cs:List ak},aY G ds cs->cs.length=ds.length
 | [],cs,h=>by simp only [aY] at h;subst h;rfl
 | d :: ds,cs,h=>by
  simp only [aY] at h
  obtain ⟨v,vs,rfl,h1,h2⟩:=h
  simp [h2.length]
theorem aY.mkItem {G:GH} {x:aD} {p d l f r:ak} (hh:og G x.head p d l) (hf:aF G (.sl 11 (x.flow.map aD.dat)) f) (hr:aF G (.sl 6 (x.rows.map dQ.dat)) r) :
  aY G x.dat [vi x.kind,vi x.code,vi x.id,.string x.text,p,vi x.head.marks.ins,vi x.head.marks.move,d,l,f,r]:=by
 rw [aD.xq]
 simp only [jZ.dat,yx.dat,nU,uN,aY]
 exact ⟨_,_,O,by simp [aF,Value.oneCell'],_,_,O,by simp [aF,Value.oneCell'],_,_,O,by simp [aF,Value.oneCell'],_,_,O,by simp [aF,Value.oneCell'],_,_,O,hh.props,_,_,O,by simp [aF,Value.oneCell'],_,_,O,by simp [aF,Value.oneCell'],_,_,O,hh.ni,_,_,O,hh.layers,_,_,O,hf,_,_,O,hr,O⟩
theorem aY.VG {G:GH} {x:dQ} {p d l c:ak} (hh:og G x.head p d l) (hc:aF G (.sl 7 (x.cells.map dO.dat)) c) :
  aY G x.dat [p,vi x.head.marks.ins,vi x.head.marks.move,d,l,c]:=by
 rw [dQ.xq]
 simp only [jZ.dat,yx.dat,nU,uN,aY]
 exact ⟨_,_,O,hh.props,_,_,O,by simp [aF,Value.oneCell'],_,_,O,by simp [aF,Value.oneCell'],_,_,O,hh.ni,_,_,O,hh.layers,_,_,O,hc,O⟩
theorem aY.VF {G:GH} {x:dO} {p d l f:ak} (hh:og G x.head p d l) (hf:aF G (.sl 11 (x.flow.map aD.dat)) f) :
  aY G x.dat [vi x.id,p,vi x.head.marks.ins,vi x.head.marks.move,d,l,f]:=by
 rw [dO.xq]
 simp only [jZ.dat,yx.dat,nU,uN,aY]
 exact ⟨_,_,O,by simp [aF,Value.oneCell'],_,_,O,hh.props,_,_,O,by simp [aF,Value.oneCell'],_,_,O,by simp [aF,Value.oneCell'],_,_,O,hh.ni,_,_,O,hh.layers,_,_,O,hf,O⟩
mutual
def Bz:Dat->Nat
 | .lf v=>(match v with|.string s=>s.size|_=>0)+1
 | .sl _ rows=>1+fM rows
def fM:List (List Dat)->Nat
 | []=>0
 | r :: rs=>1+iy r+fM rs
def iy:List Dat->Nat
 | []=>0
 | d :: ds=>Bz d+iy ds
end
theorem HZ (a b:List (List Dat)):fM (a++b)=fM a+fM b:=by
 induction a with
 | nil=>simp [fM]
 | cons x a ih=>simp only [nU,fM,ih];omega
theorem P8 (a b:List Dat):iy (a++b)=iy a+iy b:=by
 induction a with
 | nil=>simp [iy]
 | cons x a ih=>simp only [nU,iy,ih];omega
theorem yZ:∀ rows:List (List Dat),rows.length<=fM rows
 | []=>bS _
 | r :: rs=>by have:=yZ rs;simp only [ko,fM];omega
theorem Xq:∀ {rows:List (List Dat)} {k:Nat} {r:List Dat},rows[k]?=some r->iy r < fM rows
 | [],_,_,h=>by simp at h
 | q :: rs,0,r,h=>by simp only [zx,kZ] at h;subst h;simp only [fM];omega
 | q :: rs,k+1,r,h=>by have:=Xq (rows:=rs) (k:=k) (r:=r) (by simpa using h);simp only [fM];omega
abbrev cK (l:List aD):Nat:=fM (l.map aD.dat)
abbrev kY (l:List dQ):Nat:=fM (l.map dQ.dat)
abbrev lZ (l:List dO):Nat:=fM (l.map dO.dat)
abbrev wO (h:jZ):Nat:=iy h.dat
theorem QC (h:jZ):wO h=fM (h.props.map mg.dat)+fM (h.marks.ni.map lI.dat)+fM (h.marks.layers.map lQ.dat)+5:=by
 simp only [wO,jZ.dat,yx.dat,iy,Bz];omega
theorem oO (x:aD):iy x.dat=x.text.size+wO x.head+cK x.flow+kY x.rows+6:=by
 rw [aD.xq];simp only [iy,Bz,P8,wO,cK,kY,lZ];omega
theorem wP (x:dQ):iy x.dat=wO x.head+lZ x.cells+1:=by
 rw [dQ.xq];simp only [iy,Bz,P8,wO,cK,kY,lZ];omega
theorem zk (x:dO):iy x.dat=wO x.head+cK x.flow+2:=by
 rw [dO.xq];simp only [iy,Bz,P8,wO,cK,kY,lZ];omega
theorem ajd {l:List aD} {k:Nat} (h:k < l.length):l[k].text.size+wO l[k].head+cK l[k].flow+kY l[k].rows+6 < cK l:=by
 rw [<- oO];exact Xq (k:=k) (by simp [h])
theorem yj (l:List aD):l.length<=cK l:=by have:=yZ (l.map aD.dat);simpa using this
theorem E9 (l:List dQ):l.length<=kY l:=by have:=yZ (l.map dQ.dat);simpa using this
theorem La (l:List dO):l.length<=lZ l:=by have:=yZ (l.map dO.dat);simpa using this
theorem KO {r:List Dat}:∀ {rows:List (List Dat)},r∈rows->iy r < fM rows
 | [],h=>by cases h
 | q :: rs,h=>by
  rcases nT.1 h with rfl|h
  ·simp only [fM];omega
  ·have:=KO h;simp only [fM];omega
theorem BH {x:aD} {l:List aD} (h:x∈l):iy x.dat < cK l:=KO (List.mem_map_of_mem h)
theorem Dn {x:dQ} {l:List dQ} (h:x∈l):iy x.dat < kY l:=KO (List.mem_map_of_mem h)
theorem E8 {x:dO} {l:List dO} (h:x∈l):iy x.dat < lZ l:=KO (List.mem_map_of_mem h)
section
def uT (l:List Oper) (i:Nat):List Nat:=match l[i]? with|some o=>(o.after.toList.filter (Region.binds .any)).map (·.on)|none=>[]
def eT (l:List Oper) (i:Nat):Option Nat:=(l[i]?).bind (·.dst)
def vW (l:List Oper) (bU:List (List Nat)):Bool :=
 (List.range l.length).all fun i=>(uT l i).all (fun j=>Nat.blt j i) && (bU.getD i []).all fun j=>(uT l i).contains j || (uT l i).any fun k=>Nat.blt k i && (bU.getD k []).contains j
def fq (S:Nat->Bool) (i:Nat):Nat->Bool:=fun j=>if j=i then true else S j
section
variable {r:Option Nat} {P:Program} {Q:Exit->Act->World->Prop} {l:List Oper} {bU:List (List Nat)} {a:Act} {w:World}
theorem Sl (hk:vW l bU=true) {S:Nat->Bool} (hd:∀ i,S i=true->∀ j∈uT l i,S j=true):∀ i,i < l.length->(∀ j∈uT l i,S j=true)->∀ j∈bU.getD i [],S j=true:=by
 intro i
 induction i using Nat.strongRecOn with
 | _ i ih =>
  intro hi hdi j hj
  have h1:=gW.1 hk i (rF.2 hi)
  simp only [iG,gW] at h1
  have h2:=h1.2 j hj
  simp only [Bool.or_eq_true,uO,List.any_eq_true,iG] at h2
  rcases h2 with h2|⟨k,hk1,hk2,hk3⟩
  ·exact hdi j h2
  ·have hlt:k < i:=Eq.mp Nat.blt_eq hk2
   exact ih k hlt V (hd k (hdi k hk1)) j hk3
theorem aiX {ops:Array Oper} {i:Nat} {o:Oper} {K:Act->World->Prop} (ho:ops[i]?=some o) (h:WL r P ops (fun e a' w'=>e=.normal∧K a' w') [o] a w):wpOpIn (FW r) 0 P ops Q i K a w:=by
 unfold wpOpIn
 simp only [ho]
 have h':wpListIn (FW r) 0 P ops (fun e a' w'=>e=.normal∧K a' w') [o] a w:=h
 unfold wpListIn at h'
 by_cases hw:Region.wanted o (yielded ops a.tmps)=true
 ·rw [aN hw] at h' |-
  refine ⟨fun _ _=>trivial,?_⟩
  have h2:=h'.2
  generalize (o.semAt (FW r).round a.eval).run P w=res at h2 |-
  cases res with
  | ok x w1 =>
   cases x with
   | value v=>exact h2.2
   | skip=>exact h2.2
   | defer d=>exact h2.2
   | enter f args=>exact ⟨h2.1,h2.2.mono fun e w2 he=>by
     cases e with
     | returned v=>exact he.2
     | panicked ch=>exact absurd he.1 (by simp)
     | outgrown=>obtain ⟨_,_,h3,_⟩:=he;exact absurd h3 (by simp)⟩
   | row Pq args=>exact ⟨h2.1,h2.2.mono fun v w2 he=>he.2⟩
   | round l f t Mi b=>exact ⟨h2.1,h2.2.mono fun e w2 he=>by
     cases e with
     | returned v=>exact he.2
     | panicked ch=>exact absurd he.1 (by simp)
     | outgrown=>obtain ⟨_,_,h3,_⟩:=he;exact absurd h3 (by simp)⟩
   | _=>exact h2.elim
  | halt x w1 =>
   cases x with
   | panic v=>exact absurd h2.1 (by simp)
   | _=>exact h2.elim
 ·rw [aL hw] at h' |-
  exact ⟨fun _ _=>trivial,h'.2.2⟩
theorem count_set {L:List Bool}:∀ {i:Nat},L[i]?=some false->(L.set i true).count false+1=L.count false:=by
 induction L with
 | nil=>intro i h;simp at h
 | cons b L ih =>
  intro i h
  cases i with
  | zero=>simp at h;subst h;simp
  | succ i =>
   simp only [List.getElem?_cons_succ] at h
   have:=ih h
   simp only [List.set_cons_succ,List.count_cons]
   omega
theorem FK {id:Nat} (hm:P.follows .mixedOrders=true) (bU:List (List Nat)) (hk:vW l bU=true) (X:(Nat->Bool)->Act->World->Prop) (h0:X (fun _=>false) a w.drew)
  (hstep:∀ i o S a w,l[i]?=some o->X S a w->S i=false->(∀ j∈bU.getD i [],S j=true)->(∀ j,j < l.length->i∈bU.getD j []->S j=false)->WL r P l.toArray (fun e a' w'=>e=.normal∧X (fq S i) a' w') [o] a w)
  (hend:∀ S a w,(∀ i,i < l.length->S i=true)->X S a w->Q .normal a w):WP r P (.region id l.toArray true) Q a w:=by
 have key:∀ (fuel:Nat) (listed:Array Bool) (S:Nat->Bool) (a:Act) (w:World),listed.size=l.length->(∀ i,i < l.length->listed[i]?=some (S i))->listed.toList.count false<=fuel->(∀ i,i < l.length->S i=true->∀ j∈uT l i,S j=true)->(∀ i,l.length<=i->S i=false)->X S a w ->
   wpAnyIn (FW r) 0 P .any l.toArray Q fuel listed a w:=by
  intro fuel
  induction fuel with
  | zero =>
   intro listed S a w hsz hS hc hdn hbig hX
   have hall:∀ i,i < l.length->S i=true:=by
    intro i hi
    cases ah:S i with
    | true=>rfl
    | false =>
     have h1:=hS i hi
     rw [ah] at h1
     have:false∈listed.toList:=kg (by simpa using h1)
     have:=List.count_pos_iff.2 this
     omega
   refine ⟨?_,hend S a w hall hX⟩
   apply List.eq_nil_iff_forall_not_mem.2
   intro i hi
   obtain ⟨h1,o,ho,-⟩:=mem_ready.1 hi
   have hil:i < l.length:=by simpa using (Array.getElem?_eq_some_iff.1 ho).1
   have h2:=hS i hil
   rw [hall i hil] at h2
   rw [Array.getD_eq_getD_getElem?,h2] at h1
   cases h1
  | succ fuel ih =>
   intro listed S a w hsz hS hc hdn hbig hX
   have hget:∀ i d,i < l.length->listed.getD i d=S i:=fun i d hi=>by rw [Array.getD_eq_getD_getElem?,hS i hi];rfl
   refine ⟨fun hnil=>?_,fun i hi=>?_⟩
   ·by_cases hall:∀ i,i < l.length->S i=true
    ·exact hend S a w hall hX
    ·exfalso
     have hex:∃ i,i < l.length∧S i=false:=by
      apply Classical.byContradiction
      intro hno
      apply hall
      intro i hi
      cases ah:S i with
      | true=>rfl
      | false=>exact absurd ⟨i,hi,ah⟩ hno
     obtain ⟨i,hi,ah,hmin⟩:∃ i,i < l.length∧S i=false∧∀ j,j < i->S j=true:=by
      obtain ⟨i0,hi0,hs0⟩:=hex
      clear hall
      induction i0 using Nat.strongRecOn with
      | _ i0 ihh =>
       by_cases hlt:∃ j,j < i0∧S j=false
       ·obtain ⟨j,hj,hsj⟩:=hlt
        exact ihh j hj V hsj
       ·refine ⟨i0,hi0,hs0,fun j hj=>?_⟩
        cases hSj:S j with
        | true=>rfl
        | false=>exact absurd ⟨j,hj,hSj⟩ hlt
     have hr:i∈Region.ready .any l.toArray listed:=by
      rw [mem_ready]
      refine ⟨by rw [hget i true hi,ah],l[i],by simp [hi],fun e he hb=>?_⟩
      have hk1:=gW.1 hk i (rF.2 hi)
      simp only [iG,gW] at hk1
      have hin:e.on∈uT l i:=by
       simp only [uT,iR hi,List.mem_map,List.mem_filter]
       exact ⟨e,⟨by simpa using he,hb⟩,O⟩
      have hlt:e.on < i:=Eq.mp Nat.blt_eq (hk1.1 _ hin)
      rw [hget _ _ V]
      exact hmin _ hlt
     rw [hnil] at hr
     cases hr
   ·obtain ⟨h1,o,ho,adY⟩:=mem_ready.1 hi
    have hil:i < l.length:=by simpa using (Array.getElem?_eq_some_iff.1 ho).1
    have ho':l[i]?=some o:=by simpa using ho
    have ah:S i=false:=by rw [<- hget i true hil];exact h1
    have hdi:∀ j∈uT l i,S j=true:=by
     intro j hj
     simp only [uT,ho',List.mem_map,List.mem_filter] at hj
     obtain ⟨e,⟨he,hb⟩,rfl⟩:=hj
     have h2:=adY e (by simpa using he) hb
     by_cases hjl:e.on < l.length
     ·rwa [hget _ _ hjl] at h2
     ·have hk1:=gW.1 hk i (rF.2 hil)
      simp only [iG,gW] at hk1
      have hin:e.on∈uT l i:=by
       simp only [uT,ho',List.mem_map,List.mem_filter]
       exact ⟨e,⟨he,hb⟩,O⟩
      have hlt:e.on < i:=Eq.mp Nat.blt_eq (hk1.1 _ hin)
      omega
    have Ur:∀ i,S i=true->∀ j∈uT l i,S j=true:=by
     intro k hk' j hj
     by_cases hkl:k < l.length
     ·exact hdn k hkl hk' j hj
     ·rw [hbig k V] at hk';cases hk'
    refine aiX ho ?_
    have hs:=hstep i o S a w ho' hX ah (Sl hk Ur i hil hdi) (fun j hjl hj=>by
     cases hSj:S j with
     | false=>rfl
     | true=>have:=Sl hk Ur j hjl (hdn j hjl hSj) i hj;rw [this] at ah;cases ah)
    have hmono:∀ e a' w',(e=Exit.normal∧X (fq S i) a' w')->(e=Exit.normal∧wpAnyIn (FW r) 0 P .any l.toArray Q fuel (listed.setIfInBounds i true) a' w'):=by
     rintro e a' w' ⟨he,hX'⟩
     refine ⟨he,ih _ (fq S i) a' w' (by simpa using hsz) (fun j hj=>?_) ?_ (fun j hj hSj q hq=>?_) (fun j hj=>?_) hX'⟩
     ·rw [Array.getElem?_setIfInBounds]
      unfold fq
      by_cases e:i=j
      ·subst e;simp [hsz,hil]
      ·rw [aL e,aL (Ne.symm e)];exact hS j hj
     ·have h3:listed.toList[i]?=some false:=by have:=hS i hil;rw [ah] at this;simpa using this
      have:=count_set h3
      simp only [Array.toList_setIfInBounds]
      omega
     ·unfold fq at hSj |-
      split
      ·rfl
      ·split at hSj
       ·rename_i e;subst e;exact hdi q hq
       ·exact hdn j hj hSj q hq
     ·unfold fq
      rw [aL V]
      exact hbig j hj
    have hs':wpListIn (FW r) 0 P l.toArray (fun e a' w'=>e=.normal∧X (fq S i) a' w') [o] a w:=hs
    show wpListIn (FW r) 0 P l.toArray _ [o] a w
    unfold wpListIn at hs' |-
    split
    ·rename_i hw
     rw [aN hw] at hs'
     refine ⟨fun _ _=>trivial,?_⟩
     have h2:=hs'.2
     generalize (o.semAt (FW r).round a.eval).run P w=res at h2 |-
     cases res with
     | ok x w1 =>
      cases x with
      | value v=>exact hmono _ _ _ h2
      | skip=>exact hmono _ _ _ h2
      | defer d=>exact hmono _ _ _ h2
      | enter f args=>exact ⟨h2.1,h2.2.mono fun e w2 he=>by
        cases e with
        | returned v=>exact hmono _ _ _ he
        | panicked ch=>exact absurd he.1 (by simp)
        | outgrown=>obtain ⟨_,_,h3,_⟩:=he;exact absurd h3 (by simp)⟩
      | row Pq args=>exact ⟨h2.1,h2.2.mono fun v w2 he=>hmono _ _ _ he⟩
      | round l f t Mi b=>exact ⟨h2.1,h2.2.mono fun e w2 he=>by
        cases e with
        | returned v=>exact hmono _ _ _ he
        | panicked ch=>exact absurd he.1 (by simp)
        | outgrown=>obtain ⟨_,_,h3,_⟩:=he;exact absurd h3 (by simp)⟩
      | _=>exact h2.elim
     | halt x w1 =>
      cases x with
      | panic v=>exact absurd h2.1 (by simp)
      | _=>exact h2.elim
    ·rename_i hw
     rw [aL hw] at hs'
     exact ⟨fun _ _=>trivial,hmono _ _ _ hs'.2⟩
 refine wpIn_region_any hm (key _ _ (fun _=>false) a w.drew (by simp) (fun i hi=>by simp [hi]) ?_ (fun _ _ h=>by cases h) (fun _ _=>rfl) h0)
 simp
end
def full (N:Nat) (a:Act):List (Nat × ak):=(List.range N).map fun t=>(t,a.tmps.getD t undef)
theorem Bl (T qk:List (Nat × ak)) (t:Nat):lk (T++qk) t=match lk T t with|some v=>some v|none=>lk qk t:=by
 induction T with
 | nil=>rfl
 | cons p T ih =>
  obtain ⟨s,v⟩:=p
  by_cases e:s=t
  ·subst e;rw [nU,jX,jX]
  ·rw [nU,fJ e,fJ e,ih]
theorem Vw (f:Nat->ak):∀ (L:List Nat) (t:Nat),t∈L->lk (L.map fun t=>(t,f t)) t=some (f t)
 | [],_,h=>by cases h
 | s :: L,t,h=>by
  simp only [gV]
  by_cases e:s=t
  ·subst e;rw [jX]
  ·rw [fJ e]
   exact Vw f L t ((nT.1 h).resolve_left (Ne.symm e))
theorem Ho {N t:Nat} (a:Act) (h:t < N):lk (full N a) t=some (a.tmps.getD t undef):=Vw (fun t=>a.tmps.getD t undef) _ t (rF.2 h)
section
variable {N:Nat} {D:List Deferred} {w0:World} {F:Nat->Prop} {G0 G G1 G2:GH} {L L1 L2:OL} {T Xs:List (Nat × ak)}
variable {r:Option Nat} {P:Program} {Q:Exit->Act->World->Prop} {l:List Oper} {a a':Act} {w w':World}
theorem St.full (H:St N D w0 F G0 G L T a w):St N D w0 F G0 G L (T++full N a) a w:=by
 refine ⟨H.jU,fun t v ht=>?_,H.oz,H.hp⟩
 rw [Bl] at ht
 cases hT:lk T t with
 | some u=>rw [hT] at ht;simp only [kZ] at ht;subst ht;exact H.get t u hT
 | none =>
  rw [hT] at ht
  by_cases hlt:t < N
  ·rw [Ho a hlt] at ht
   simp only [kZ] at ht
   have h2:t < a.tmps.size:=by rw [H.jU];exact hlt
   rw [<- ht,Array.getD_eq_getD_getElem?,Array.getElem?_eq_getElem h2]
   rfl
  ·exfalso
   have:∀ (L:List Nat),t∉L->lk (L.map fun t=>(t,a.tmps.getD t undef)) t=none:=by
    intro L
    induction L with
    | nil=>intro _;rfl
    | cons s L ih=>intro h;simp only [gV];rw [fJ (fun e=>h (by simp [e])),ih (fun h'=>h (by simp [h']))]
   rw [show lk (Proofs.YtomebajfpcjoeaaGreatDoor.full N a) t=none from this _ (by simp;omega)] at ht
   cases ht
theorem St.eP (H:St N D w0 F G0 G L T a w) {t:Nat} {v:ak} (h:a.tmps[t]?=some v):St N D w0 F G0 G L ((t,v) :: T) a w :=
 ⟨H.jU,fun s u hs=>by
  by_cases e:t=s
  ·subst e;rw [jX] at hs;simp only [kZ] at hs;subst hs;exact h
  ·rw [fJ e] at hs;exact H.get s u hs,H.oz,H.hp⟩
def DX (N:Nat) (D:List Deferred) (w0:World) (F:Nat->Prop) (G0 G:GH) (L:OL) (T:List (Nat × ak)) (l:List Oper) (pr:Nat->ak->GH->Prop) (S:Nat->Bool) (a:Act) (w:World):Prop :=
 ∃ G1,(∀ k o,G k=some o->G1 k=some o)∧St N D w0 F G0 G1 L T a w∧∀ i d,S i=true->eT l i=some d->∃ v,a.tmps[d]?=some v∧pr i v G1
def nk (l:List Oper) (T:List (Nat × ak)) (i:Nat):Bool :=
 match eT l i with|none=>true|some d=>(lk T d).isNone && (List.range l.length).all fun j=>bif Nat.beq i j then true else !(eT l j == some d)
def MQ (l:List Oper) (T:List (Nat × ak)):Bool :=
 (List.range l.length).all (nk l T)
theorem I7 {l:List Oper} {T:List (Nat × ak)} (h:MQ l T=true) {i:Nat} (hi:i < l.length):nk l T i=true:=gW.1 h i (rF.2 hi)
theorem oD {pr:Nat->ak->GH->Prop} {S:Nat->Bool} {i d:Nat} {v:ak} (hok:nk l T i=true) (jh:∀ i v (G G':GH),(∀ k o,G k=some o->G' k=some o)->pr i v G->pr i v G') (hi:eT l i=some d) (hdl:Nat.blt i l.length=true)
  (HT:St N D w0 F G0 G1 L T a w) (Hb:St N D w0 F G0 G1 L (Xs++full N a) a w) (hG:∀ k o,G k=some o->G1 k=some o) (hv:∀ i d,S i=true->eT l i=some d->∃ v,a.tmps[d]?=some v∧pr i v G1)
  (hG2:∀ k o,G1 k=some o->G2 k=some o) (hp:pr i v G2) (H:St N D w0 F G0 G2 L ((d,v) :: (Xs++full N a)) a' w'):DX N D w0 F G0 G L T l pr (fq S i) a' w':=by
 have hil:i < l.length:=Eq.mp Nat.blt_eq hdl
 have hok1:=hok
 rw [nk,hi] at hok1
 simp only [iG,Option.isNone_iff_eq_none,gW,rF] at hok1
 have hsame:∀ t,t≠d->a'.tmps[t]?=a.tmps[t]?:=by
  intro t ht
  by_cases hlt:t < N
  ·have h1:∃ u,lk (Xs++full N a) t=some u:=by
    rw [Bl]
    cases lk Xs t with
    | some u=>exact ⟨u,O⟩
    | none=>exact ⟨_,Ho a hlt⟩
   obtain ⟨u,hu⟩:=h1
   rw [Hb.get t u hu,H.get t u (by rw [fJ (Ne.symm ht)];exact hu)]
  ·rw [Array.getElem?_eq_none (by rw [H.jU];omega),Array.getElem?_eq_none (by rw [Hb.jU];omega)]
 refine ⟨G2,fun k o hk=>hG2 k o (hG k o hk),⟨H.jU,fun t u ht=>?_,H.oz,H.hp⟩,fun j e hj he=>?_⟩
 ·rw [hsame t (fun e=>by rw [e,hok1.1] at ht;cases ht)]
  exact HT.get t u ht
 ·by_cases hji:j=i
  ·subst hji
   rw [hi] at he
   simp only [kZ] at he
   subst he
   exact ⟨v,H.get d v (jX _ _ _),hp⟩
  ·have hSj:S j=true:=by unfold fq at hj;rwa [aL hji] at hj
   obtain ⟨u,hu1,hu2⟩:=hv j e hSj he
   have hjl:j < l.length:=by
    unfold eT at he
    by_cases hl:j < l.length
    ·exact hl
    ·rw [List.getElem?_eq_none V] at he;cases he
   have hne:e≠d:=by
    intro e'
    subst e'
    have h2:=hok1.2 j hjl
    have hb:Nat.beq i j=false:=by
     cases h:Nat.beq i j with
     | false=>rfl
     | true=>exact absurd (vQ h).symm hji
    rw [hb,he] at h2
    simp at h2
   exact ⟨u,by rw [hsame e hne];exact hu1,jh j u _ _ hG2 hu2⟩
def za (l:List Oper) (bU:List (List Nat)) (B:List Nat):Bool :=
 (List.range B.length).all (fun p=>match B[p]? with|none=>false|some b=>Nat.blt b l.length && (List.range l.length).all fun i=>B.contains i && !(B.take p).contains i || (bU.getD b []).contains i) &&
 (List.range l.length).all fun i=>B.contains i || (bU.getD i []).all fun j=>!B.contains j
def qg (l:List Oper):List Nat->List Oper
 | []=>[]
 | b :: B=>match l[b]? with|some o=>o :: qg l B|none=>qg l B
theorem rZ {ops:Array Oper} {Q':Exit->Act->World->Prop} (hq:∀ e a w,Q e a w->Q' e a w):∀ {L:List Oper} {a:Act} {w:World},WL r P ops Q L a w->WL r P ops Q' L a w
 | [],a,w,h=>hq _ _ _ h
 | o :: L,a,w,h=>by
  have h':wpListIn (FW r) 0 P ops Q (o :: L) a w:=h
  show wpListIn (FW r) 0 P ops Q' (o :: L) a w
  unfold wpListIn at h' |-
  split
  ·rename_i hw
   rw [aN hw] at h'
   refine ⟨h'.1,?_⟩
   have h2:=h'.2
   generalize (o.semAt (FW r).round a.eval).run P w=res at h2 |-
   cases res with
   | ok x w1 =>
    cases x with
    | value v=>exact rZ hq h2
    | skip=>exact rZ hq h2
    | defer d=>exact rZ hq h2
    | enter f args=>exact ⟨h2.1,h2.2.mono fun e w2 he=>by
      cases e with
      | returned v=>exact rZ hq he
      | panicked ch=>exact hq _ _ _ he
      | outgrown=>obtain ⟨x,y,h3⟩:=he;exact ⟨x,y,hq _ _ _ h3⟩⟩
    | row Pq args=>exact ⟨h2.1,h2.2.mono fun v w2 he=>rZ hq he⟩
    | round l f t Mi b=>exact ⟨h2.1,h2.2.mono fun e w2 he=>by
      cases e with
      | returned v=>exact rZ hq he
      | panicked ch=>exact hq _ _ _ he
      | outgrown=>obtain ⟨x,y,h3⟩:=he;exact ⟨x,y,hq _ _ _ h3⟩⟩
    | _=>exact h2.elim
   | halt x w1 =>
    cases x with
    | panic v=>exact hq _ _ _ h2
    | _=>exact h2.elim
  ·rename_i hw
   rw [aL hw] at h'
   exact ⟨h'.1,rZ hq h'.2⟩
theorem Yd {ops:Array Oper} {o:Oper} {L:List Oper} {K:Act->World->Prop} (hK:∀ a w,WL r P ops (fun e a w=>e=.normal∧Q .normal a w) L a w->K a w) (h:WL r P ops (fun e a w=>e=.normal∧Q .normal a w) (o :: L) a w):WL r P ops (fun e a' w'=>e=.normal∧K a' w') [o] a w:=by
 have h':wpListIn (FW r) 0 P ops (fun e a w=>e=.normal∧Q .normal a w) (o :: L) a w:=h
 show wpListIn (FW r) 0 P ops _ [o] a w
 unfold wpListIn at h' |-
 split
 ·rename_i hw
  rw [aN hw] at h'
  refine ⟨h'.1,?_⟩
  have h2:=h'.2
  generalize (o.semAt (FW r).round a.eval).run P w=res at h2 |-
  cases res with
  | ok x w1 =>
   cases x with
   | value v=>exact ⟨O,hK _ _ h2⟩
   | skip=>exact ⟨O,hK _ _ h2⟩
   | defer d=>exact ⟨O,hK _ _ h2⟩
   | enter f args=>exact ⟨h2.1,h2.2.mono fun e w2 he=>by
     cases e with
     | returned v=>exact ⟨O,hK _ _ he⟩
     | panicked ch=>exact absurd he.1 (by simp)
     | outgrown=>obtain ⟨_,_,h3,_⟩:=he;exact absurd h3 (by simp)⟩
   | row Pq args=>exact ⟨h2.1,h2.2.mono fun v w2 he=>⟨O,hK _ _ he⟩⟩
   | round l f t Mi b=>exact ⟨h2.1,h2.2.mono fun e w2 he=>by
     cases e with
     | returned v=>exact ⟨O,hK _ _ he⟩
     | panicked ch=>exact absurd he.1 (by simp)
     | outgrown=>obtain ⟨_,_,h3,_⟩:=he;exact absurd h3 (by simp)⟩
   | _=>exact h2.elim
  | halt x w1 =>
   cases x with
   | panic v=>exact absurd h2.1 (by simp)
   | _=>exact h2.elim
 ·rename_i hw
  rw [aL hw] at h'
  exact ⟨h'.1,O,hK _ _ h'.2⟩
theorem ZC {id:Nat} (hm:P.follows .mixedOrders=true) (bU:List (List Nat)) (B:List Nat) (hk:vW l bU=true) (hB:za l bU B=true) (pr:Nat->ak->GH->Prop) (jh:∀ i v (G G':GH),(∀ k o,G k=some o->G' k=some o)->pr i v G->pr i v G')
  (H:St N D w0 F G0 G L T a w)
  (hstep:∀ i o S a w G1,l[i]?=some o->B.contains i=false->S i=false->(∀ j∈bU.getD i [],S j=true)->(∀ k o,G k=some o->G1 k=some o)->St N D w0 F G0 G1 L T a w->(∀ i d,S i=true->eT l i=some d->∃ v,a.tmps[d]?=some v∧pr i v G1) ->
   WL r P l.toArray (fun e a' w'=>e=.normal∧DX N D w0 F G0 G L T l pr (fq S i) a' w') [o] a w)
  (hend:∀ a w G1,(∀ k o,G k=some o->G1 k=some o)->St N D w0 F G0 G1 L T a w->(∀ i d,B.contains i=false->eT l i=some d->∃ v,a.tmps[d]?=some v∧pr i v G1)->WL r P l.toArray (fun e a w=>e=.normal∧Q .normal a w) (qg l B) a w):WP r P (.region id l.toArray true) Q a w:=by
 have hB1:∀ p b,B[p]?=some b->b < l.length∧∀ i,i < l.length->(B.contains i=false∨(B.take p).contains i=true)->i∈bU.getD b []:=by
  intro p b hp
  simp only [za,iG] at hB
  have h1:=gW.1 hB.1 p (rF.2 (gN.1 hp).1)
  rw [hp] at h1
  simp only [iG,gW,rF] at h1
  refine ⟨Eq.mp Nat.blt_eq h1.1,fun i hi hor=>?_⟩
  have h2:=h1.2 i hi
  rcases hor with h3|h3
  ·have h4:i∉B:=by simpa using h3
   simpa [h4] using h2
  ·have h4:i∈B.take p:=by simpa using h3
   simpa [h4] using h2
 have hB2:∀ i,i < l.length->B.contains i=false->∀ j∈bU.getD i [],B.contains j=false:=by
  intro i hi hb j hj
  simp only [za,iG] at hB
  have h1:=gW.1 hB.2 i (rF.2 hi)
  rw [hb] at h1
  simp only [Bool.false_or,gW] at h1
  simpa using h1 j hj
 refine FK hm bU hk (fun S a w=>((∀ i,B.contains i=true->S i=false)∧DX N D w0 F G0 G L T l pr S a w) ∨
   ∃ p,(∀ i,i < l.length->B.contains i=false->S i=true)∧(∀ i,(B.take p).contains i=true->S i=true)∧(∀ q b,B[q]?=some b->p<=q->S b=false)∧WL r P l.toArray (fun e a w=>e=.normal∧Q .normal a w) (qg l (B.drop p)) a w)
  (.inl ⟨fun _ _=>rfl,G,fun _ _ h=>h,H.move H.hp.drew,fun _ _ h=>by cases h⟩) ?_ ?_
 ·intro i o S a w ho hX ah mU hdesc
  have hil:i < l.length:=(gN.1 ho).1
  by_cases hbi:B.contains i=true
  ·-- an operation of the tail: all that stands ahead of it is done
   obtain ⟨p0,hp0⟩:=List.getElem?_of_mem (by simpa using hbi:i∈B)
   have hall:∀ j,j < l.length->B.contains j=false->S j=true:=fun j hj hb=>mU j ((hB1 p0 i hp0).2 j hj (.inl hb))
   have Oi:∃ p,(∀ i,(B.take p).contains i=true->S i=true)∧(∀ q b,B[q]?=some b->p<=q->S b=false)∧WL r P l.toArray (fun e a w=>e=.normal∧Q .normal a w) (qg l (B.drop p)) a w:=by
    rcases hX with ⟨h1,G1,hG,HS,hv⟩|⟨p,_,h2,h3,h4⟩
    ·refine ⟨0,by simp,fun q b hq _=>h1 b (by simpa using kg hq),?_⟩
     refine hend a w G1 hG HS fun j e hb he=>?_
     have hjl:j < l.length:=by
      unfold eT at he
      by_cases hl:j < l.length
      ·exact hl
      ·rw [List.getElem?_eq_none V] at he;cases he
     exact hv j e (hall j hjl hb) he
    ·exact ⟨p,h2,h3,h4⟩
   obtain ⟨p,h2,h3,h4⟩:=Oi
   -- i is the next one
   have hpp:p<=p0:=by
    rcases Nat.lt_or_ge p0 p with hlt|hge
    ·have:(B.take p).contains i=true:=by
      simp only [uO]
      exact kg (i:=p0) (by rw [tX,aN hlt];exact hp0)
     rw [h2 i this] at ah;cases ah
    ·exact hge
   have CF:p < B.length:=by have:=(gN.1 hp0).1;omega
   have hbp:B[p]?=some B[p]:=iR CF
   have heq:B[p]=i:=by
    rcases Nat.lt_or_ge p p0 with hlt|hge
    ·exfalso
     have hin:B[p]∈bU.getD i []:=(hB1 p0 i hp0).2 _ (hB1 p _ hbp).1 (.inr (by
      simp only [uO]
      exact kg (i:=p) (by rw [tX,aN hlt];exact hbp)))
     have:=mU _ hin
     rw [h3 p _ hbp (bS _)] at this;cases this
    ·have:p=p0:=by omega
     subst this
     rw [hbp] at hp0;simpa using hp0
   have hdrop:B.drop p=i :: B.drop (p+1):=by rw [List.drop_eq_getElem_cons CF,heq]
   have hops:qg l (B.drop p)=o :: qg l (B.drop (p+1)):=by rw [hdrop];simp [qg,ho]
   rw [hops] at h4
   refine Yd (fun a' w' h5=>.inr ⟨p+1,fun j hj hb=>?_,fun j hj=>?_,fun q b hq hpq=>?_,h5⟩) h4
   ·unfold fq;split
    ·rfl
    ·exact hall j hj hb
   ·unfold fq;split
    ·rfl
    ·rename_i hne
     refine h2 j ?_
     simp only [uO] at hj |-
     rw [jq CF,tV] at hj
     rcases hj with hj|hj
     ·exact hj
     ·simp only [uP] at hj;exact absurd (hj.trans heq) hne
   ·unfold fq
    rw [aL ?_]
    ·exact h3 q b hq V
    ·rintro rfl
     -- i would stand twice in B: it would come ahead of itself
     have h6:=(hB1 q b hq).2 b (hB1 q b hq).1 (.inr (by
      simp only [uO]
      exact kg (i:=p) (by rw [tX,aN V];rw [hbp,heq])))
     rw [mU _ h6] at ah;cases ah
  ·have xH:B.contains i=false:=by cases h:B.contains i with|false=>rfl|true=>exact absurd h hbi
   rcases hX with ⟨h1,G1,hG,HS,hv⟩|⟨p,h0,_,_,_⟩
   ·refine rZ (fun e a' w' ⟨he,hD⟩=>⟨he,.inl ⟨fun j hj=>?_,hD⟩⟩) (hstep i o S a w G1 ho xH ah mU hG HS hv)
    unfold fq
    rw [aL (by rintro rfl;rw [xH] at hj;cases hj)]
    exact h1 j hj
   ·rw [h0 i hil xH] at ah;cases ah
 ·intro S a w hall hX
  rcases hX with ⟨h1,G1,hG,HS,hv⟩|⟨p,_,_,h3,h4⟩
  ·have hnil:B=[]:=by
    cases B with
    | nil=>rfl
    | cons b B=>have h5:=h1 b (by simp);rw [hall b (hB1 0 b O).1] at h5;cases h5
   subst hnil
   have h6:=hend a w G1 hG HS fun j e _ he=>by
    have hjl:j < l.length:=by
     unfold eT at he
     by_cases hl:j < l.length
     ·exact hl
     ·rw [List.getElem?_eq_none V] at he;cases he
    exact hv j e (hall j hjl) he
   exact h6.2
  ·have hnil:B.drop p=[]:=by
    cases hd:B.drop p with
    | nil=>rfl
    | cons b B' =>
     have hb:B[p]?=some b:=by
      have:=gZ (fun x:List Nat=>x[0]?) hd
      simpa using this
     have h5:=h3 p b hb (bS _)
     rw [hall b (hB1 p b hb).1] at h5;cases h5
   rw [hnil] at h4
   exact h4.2
def allI (φ:Nat->Oper->Prop):Nat->List Oper->Prop
 | _,[]=>True
 | i,o :: r=>φ i o∧allI φ (i+1) r
theorem fD {φ:Nat->Oper->Prop} {i:Nat}:allI φ i []:=trivial
theorem eB {φ:Nat->Oper->Prop} {i:Nat} {o:Oper} {r:List Oper} (h:φ i o) (t:allI φ (i+1) r):allI φ i (o :: r):=⟨h,t⟩
theorem zC {φ:Nat->Oper->Prop}:∀ {l:List Oper} {s:Nat},allI φ s l->∀ i o,l[i]?=some o->φ (s+i) o
 | [],s,_,i,o,h=>by simp at h
 | x :: l,s,h,0,o,ho=>by simp at ho;subst ho;exact h.1
 | x :: l,s,h,i+1,o,ho=>by
  have:=zC h.2 i o (by simpa using ho)
  rwa [show s+1+i=s+(i+1) by omega] at this
theorem IU {id:Nat} (hm:P.follows .mixedOrders=true) (bU:List (List Nat)) (B:List Nat) (hk:vW l bU=true) (hB:za l bU B=true) (pr:Nat->ak->GH->Prop) (jh:∀ i v (G G':GH),(∀ k o,G k=some o->G' k=some o)->pr i v G->pr i v G')
  (H:St N D w0 F G0 G L T a w)
  (hstep:allI (fun i o=>∀ S a w G1,B.contains i=false->S i=false->(∀ j∈bU.getD i [],S j=true)->(∀ k o,G k=some o->G1 k=some o)->St N D w0 F G0 G1 L T a w->(∀ i d,S i=true->eT l i=some d->∃ v,a.tmps[d]?=some v∧pr i v G1) ->
   WL r P l.toArray (fun e a' w'=>e=.normal∧DX N D w0 F G0 G L T l pr (fq S i) a' w') [o] a w) 0 l)
  (hend:∀ a w G1,(∀ k o,G k=some o->G1 k=some o)->St N D w0 F G0 G1 L T a w->(∀ i d,B.contains i=false->eT l i=some d->∃ v,a.tmps[d]?=some v∧pr i v G1)->WL r P l.toArray (fun e a w=>e=.normal∧Q .normal a w) (qg l B) a w):WP r P (.region id l.toArray true) Q a w :=
 ZC hm bU B hk hB pr jh H (fun i o S a w G1 ho hb hs hc hg HS hv=>by
  have:=zC hstep i o ho
  rw [eH] at this
  exact this S a w G1 hb hs hc hg HS hv) hend
theorem ahq {pr:Nat->ak->GH->Prop} {i d j t:Nat} {op:Op} {ty:TypeId} {pos:String} {aM:Array Edge} {want b:Bool} {bU:List (List Nat)} {B:List Nat} (hok:nk l T i=true) (jh:∀ i v (G G':GH),(∀ k o,G k=some o->G' k=some o)->pr i v G->pr i v G')
  (hi:eT l i=some d) (hdl:Nat.blt i l.length=true) (hjd:eT l j=some t) (hjc:(bU.getD i []).contains j=true) (hd:Nat.blt d N=true) (hb:∀ v G,pr j v G->v=.bool b) (hbw:b=!want) (hu:∀ G,pr i undef G) :
  ∀ S a w G1,B.contains i=false->S i=false->(∀ j∈bU.getD i [],S j=true)->(∀ k o,G k=some o->G1 k=some o)->St N D w0 F G0 G1 L T a w->(∀ i d,S i=true->eT l i=some d->∃ v,a.tmps[d]?=some v∧pr i v G1) ->
   WL r P l.toArray (fun e a' w'=>e=.normal∧DX N D w0 F G0 G L T l pr (fq S i) a' w') [⟨some d,op,ty,pos,aM,some (j,want)⟩] a w:=by
 intro S a w G1 _ _ hc hG HT hv
 obtain ⟨u,hu1,hu2⟩:=hv j t (hc j (uO.1 hjc)) hjd
 obtain rfl:=hb _ _ hu2
 have H:=(HT.eP hu1).full
 refine WT H (by unfold eT at hjd;simpa using hjd) (show lk ((t,Value.bool b) :: (T++full N a)) t=_ by simp [lk]) hbw hd ?_
 intro a' H'
 refine aj ⟨O,?_⟩
 exact oD (Xs:=(t,.bool b) :: T) hok jh hi hdl HT H hG hv (fun _ _ h=>h) (hu G1) H'
def Mh (pr:Nat->ak->GH->Prop):List (Nat × Nat × ak)->Prop
 | []=>True
 | (j,_,u) :: r=>(∀ v G,pr j v G->v=u)∧Mh pr r
def yY (us:List (Nat × Nat × ak)) (T:List (Nat × ak)):List (Nat × ak):=us.foldl (fun T x=>(x.2.1,x.2.2) :: T) T
theorem Rt {pr:Nat->ak->GH->Prop} {S:Nat->Bool} {ds:List Nat}:∀ {us:List (Nat × Nat × ak)} {T:List (Nat × ak)},us.all (fun x=>ds.contains x.1 && (eT l x.1 == some x.2.1))=true->Mh pr us->(∀ j∈ds,S j=true)->(∀ i d,S i=true->eT l i=some d->∃ v,a.tmps[d]?=some v∧pr i v G1)->St N D w0 F G0 G1 L T a w->St N D w0 F G0 G1 L (yY us T) a w
 | [],_,_,_,_,_,H=>H
 | (j,t,u) :: r,T,h,hu,hc,hv,H=>by
  simp only [List.all_cons,iG,beq_iff_eq] at h
  obtain ⟨v,hv1,hv2⟩:=hv j t (hc j (uO.1 h.1.1)) h.1.2
  obtain rfl:=hu.1 v _ hv2
  exact Rt (us:=r) h.2 hu.2 hc hv (H.eP hv1)
theorem kS {pr:Nat->ak->GH->Prop} {i d:Nat} {o:Oper} {bU:List (List Nat)} {B:List Nat} (us:List (Nat × Nat × ak)) (hus:us.all (fun x=>(bU.getD i []).contains x.1 && (eT l x.1 == some x.2.1))=true) (hu:Mh pr us) (hok:nk l T i=true) (jh:∀ i v (G G':GH),(∀ k o,G k=some o->G' k=some o)->pr i v G->pr i v G')
  (hi:eT l i=some d) (hdl:Nat.blt i l.length=true)
  (k:∀ S a w G1,(∀ k o,G k=some o->G1 k=some o)->St N D w0 F G0 G1 L T a w->St N D w0 F G0 G1 L (yY us T++full N a) a w ->
   (∀ {a' w' G2 v},St N D w0 F G0 G2 L ((d,v) :: (yY us T++full N a)) a' w'->(∀ k o,G1 k=some o->G2 k=some o)->pr i v G2->WL r P l.toArray (fun e a' w'=>e=.normal∧DX N D w0 F G0 G L T l pr (fq S i) a' w') [] a' w')->WL r P l.toArray (fun e a' w'=>e=.normal∧DX N D w0 F G0 G L T l pr (fq S i) a' w') [o] a w) :
  ∀ S a w G1,B.contains i=false->S i=false->(∀ j∈bU.getD i [],S j=true)->(∀ k o,G k=some o->G1 k=some o)->St N D w0 F G0 G1 L T a w->(∀ i d,S i=true->eT l i=some d->∃ v,a.tmps[d]?=some v∧pr i v G1) ->
   WL r P l.toArray (fun e a' w'=>e=.normal∧DX N D w0 F G0 G L T l pr (fq S i) a' w') [o] a w:=by
 intro S a w G1 _ _ hc hG HT hv
 have H:=Rt hus hu hc hv HT
 exact k S a w G1 hG HT H.full fun H' hG2 hp=>aj ⟨O,oD (Xs:=yY us T) hok jh hi hdl HT H.full hG hv hG2 hp H'⟩
end
end
section
section
variable {N:Nat} {D:List Deferred} {w0:World} {F:Nat->Prop} {G0 G:GH} {L:List (Nat × Obj)} {T:List (Nat × ak)}
variable {r:Option Nat} {P:Program} {ops:Array Oper} {Q:Exit->Act->World->Prop} {rest:List Oper} {w:World}
variable {d:Nat} {ty:TypeId} {pos:String} {aM:Array Edge}
theorem kH {a:Act} {l:List Oper} (H:St N D w0 F G0 G L T a w) (k:∀ a,St N D w0 F G0 G L T a w->WL r P ops Q l a w):WL r P ops Q l a w:=k a H
theorem Rm {x:Operand} {v:ak} (h:(ev T x,Nat.blt d N)=(some v,true)) (k:∀ a',St N D w0 F G0 G L ((d,v) :: T) a' w->WL r P ops Q rest a' w) :
  ∀ a,St N D w0 F G0 G L T a w->WL r P ops Q (⟨some d,.move x,ty,pos,aM,none⟩ :: rest) a w:=fun _ H=>by
 simp only [gY] at h
 exact uG H wn h.1 h.2 k
theorem Ra {x:Operand} {v:ak} (h:(ev T x,Nat.blt d N)=(some v,true)) (k:∀ a',St N D w0 F G0 G L ((d,v) :: T) a' w->WL r P ops Q rest a' w) :
  ∀ a,St N D w0 F G0 G L T a w->WL r P ops Q (⟨some d,.assign x,ty,pos,aM,none⟩ :: rest) a w:=fun _ H=>by
 simp only [gY] at h
 exact agD H wn h.1 h.2 k
theorem Rc {op:BinOp} {x y:Operand} {t yt:TypeId} {kd:IntKind} {p q:Int} {b:Bool} (h:(ev T x,ev T y,FP op p q,Nat.blt d N)=(some (.int kd p),some (.int kd q),some b,true)) (k:∀ a',St N D w0 F G0 G L ((d,.bool b) :: T) a' w->WL r P ops Q rest a' w) :
  ∀ a,St N D w0 F G0 G L T a w->WL r P ops Q (⟨some d,.binOp op t x y yt,ty,pos,aM,none⟩ :: rest) a w:=fun _ H=>by
 simp only [gY] at h
 exact yX H wn h.1 h.2.1 h.2.2.1 h.2.2.2 k
theorem Rf {s:TypeId} {x:Operand} {n b o off:Nat} (hs:gL P s n off) (h:(ev T x,Nat.blt d N)=(some (.pointer (some ⟨b,o,none⟩)),true)) (k:∀ a',St N D w0 F G0 G L ((d,.pointer (some ⟨b,o+off,none⟩)) :: T) a' w->WL r P ops Q rest a' w) :
  ∀ a,St N D w0 F G0 G L T a w->WL r P ops Q (⟨some d,.fieldAddr s x n,ty,pos,aM,none⟩ :: rest) a w:=fun _ H=>by
 simp only [gY] at h
 exact Hy hs H wn h.1 h.2 k
theorem Rn {x:Operand} {t:TypeId} {b:Bool} (h:(ev T x,Nat.blt d N)=(some (.bool b),true)) (k:∀ a',St N D w0 F G0 G L ((d,.bool (!b)) :: T) a' w->WL r P ops Q rest a' w) :
  ∀ a,St N D w0 F G0 G L T a w->WL r P ops Q (⟨some d,.unOp .not t x,ty,pos,aM,none⟩ :: rest) a w:=fun _ H=>by
 simp only [gY] at h
 exact Py H wn h.1 h.2 k
theorem Rk {x:Operand} {p:Addr} (h:(ev T x,Nat.blt d N)=(some (.pointer (some p)),true)) (k:∀ a',St N D w0 F G0 G L ((d,.pointer (some p)) :: T) a' w->WL r P ops Q rest a' w) :
  ∀ a,St N D w0 F G0 G L T a w->WL r P ops Q (⟨some d,.nilCheck x,ty,pos,aM,none⟩ :: rest) a w:=fun _ H=>by
 simp only [gY] at h
 exact wD H wn h.1 h.2 k
theorem Rl {x:Operand} {t e:TypeId} {A:Option Addr} {n c:Nat} (hs:P.underlying t=some (.slice e)) (h:(ev T x,Nat.blt d N)=(some (.slice A n c),true)) (k:∀ a',St N D w0 F G0 G L ((d,.int .i64 n) :: T) a' w->WL r P ops Q rest a' w) :
  ∀ a,St N D w0 F G0 G L T a w->WL r P ops Q (⟨some d,.call { callee:=.builtin .len,args:=#[x],argTypes:=#[t] },ty,pos,aM,none⟩ :: rest) a w:=fun _ H=>by
 simp only [gY] at h
 exact EF hs H wn h.1 h.2 k
theorem Ro {t:TypeId} {sz bytes:Nat} {zero:List ak} (ht:Ty P t sz bytes zero false) (i:Nat) {x:Operand} {b o:Nat} {v:ak} {c:Array ak} {e:TypeId} {fz:Nat × Nat} (h:(ev T x,L[i]?,Nat.blt d N,c[o]?)=(some (.pointer (some ⟨b,o,none⟩)),some (b,.cells c e fz),true,some v))
  (k:∀ a',St N D w0 F G0 G L ((d,v) :: T) a' w->WL r P ops Q rest a' w) :
  ∀ a,St N D w0 F G0 G L T a w->WL r P ops Q (⟨some d,.load t x,ty,pos,aM,none⟩ :: rest) a w:=fun _ H=>by
 simp only [gY] at h
 exact iU ht H wn h.1 (H.hp.gK i h.2.1 h.2.2.2) h.2.2.1 k
theorem fG {d':Nat} {ty':TypeId} {pos':String} {Y4:Array Edge} {s:TypeId} {x:Operand} {n b o off:Nat} (hs:gL P s n off) {t:TypeId} {sz bytes:Nat} {zero:List ak} (ht:Ty P t sz bytes zero false) (i:Nat) {v:ak} {c:Array ak} {e:TypeId} {fz:Nat × Nat}
  (h:(ev T x,Nat.blt d N)=(some (.pointer (some ⟨b,o,none⟩)),true)) (h':(L[i]?,Nat.blt d' N,c[o+off]?)=(some (b,.cells c e fz),true,some v))
  (k:∀ a',St N D w0 F G0 G L ((d',v) :: (d,.pointer (some ⟨b,o+off,none⟩)) :: T) a' w->WL r P ops Q rest a' w) :
  ∀ a,St N D w0 F G0 G L T a w->WL r P ops Q (⟨some d,.fieldAddr s x n,ty,pos,aM,none⟩ :: ⟨some d',.load t (.tmp d),ty',pos',Y4,none⟩ :: rest) a w :=
 Rf hs h (Ro ht i (by simp only [gY] at h' |-;exact ⟨jX ..,h'.1,h'.2.1,h'.2.2⟩) k)
theorem lv {a:Act} {fn:Func} {t:Nat} {v:ak} {R:Ending->World->Prop} (H:St N [] w0 F G0 G L T a w) (hr:fn.results=#[.tmp t]) (h:lk T t=some v) (hR:R (.returned v) w):bodyPostM (FW none) 0 P fn R .ret a w :=
 (leave1 H (rs:=[.tmp t]) hr (.cons (aG H h) .nil) hR).1
theorem St.rt {a:Act} {R:ak->GH->Prop} {v:ak} (H:St N D w0 (fun k=>k < w0.heap.size) G0 G L T a w) (hR:R v G):bQ w0 G0 R (.returned v) w:=H.hp.ret hR
theorem St.ro {a:Act} (H:St N D w0 F G0 G L T a w):∀ k o,G k=some o->w.heap[k]?=some o:=H.hp.ro
theorem iJ {H:GH}:∀ k o,H k=some o->H k=some o:=fun _ _ h=>h
end
theorem eN {N:Nat} {w:World} {G:GH} {P:Program} (T:List (Nat × ak)) {f:FuncId} {fn:Func} {c:Code} {vs:List ak} {R:Ending->World->Prop} (hf:P.funcs[f]?=some fn) (hb:fn.body=some c) (hN:fn.ntmps=N) (hle:Nat.ble vs.length N=true)
  (hT:BR 0 vs=T) (hG:Hold G w) (h:∀ a,St N [] w (fun k=>k < w.heap.size) G G [] T a w->WP none P c (bodyPostM (FW none) 0 P fn R) a w):Calls P f vs.toArray w R :=
 enter hf hb hN hle hT hG (fun _ h=>h) (fun _ h=>by cases h) (fun _ h=>by cases h) (fun _ h=>by cases h) List.Pairwise.nil h
def V7:List ak->Nat->ak->Prop
 | [],_,_=>True
 | x :: _,0,v=>v=x
 | _ :: l,i+1,v=>V7 l i v
def Pg (vs:List ak) (i:Nat) (v:ak) (_:GH):Prop:=V7 vs i v
section
variable {N:Nat} {D:List Deferred} {w0:World} {F:Nat->Prop} {G0 G:GH} {L:OL} {T:List (Nat × ak)}
variable {P:Program} {l:List Oper} {r:Option Nat}
abbrev Fz (N:Nat) (D:List Deferred) (w0:World) (F:Nat->Prop) (G0 G:GH) (L:OL) (T:List (Nat × ak)) (r:Option Nat) (P:Program) (l:List Oper) (pr:Nat->ak->GH->Prop) (i d:Nat) (o:Oper) (us:List (Nat × Nat × ak)):Prop :=
 ∀ S a w G1,(∀ k o,G k=some o->G1 k=some o)->St N D w0 F G0 G1 L T a w->St N D w0 F G0 G1 L (yY us T++full N a) a w ->
   (∀ {a' w' G2 v},St N D w0 F G0 G2 L ((d,v) :: (yY us T++full N a)) a' w'->(∀ k o,G1 k=some o->G2 k=some o)->pr i v G2->WL r P l.toArray (fun e a' w'=>e=.normal∧DX N D w0 F G0 G L T l pr (fq S i) a' w') [] a' w')->WL r P l.toArray (fun e a' w'=>e=.normal∧DX N D w0 F G0 G L T l pr (fq S i) a' w') [o] a w
abbrev tL (N:Nat) (D:List Deferred) (w0:World) (F:Nat->Prop) (G0 G:GH) (L:OL) (T:List (Nat × ak)) (r:Option Nat) (P:Program) (l:List Oper) (bU:List (List Nat)) (B:List Nat) (pr:Nat->ak->GH->Prop) (i:Nat) (o:Oper):Prop :=
 ∀ S a w G1,B.contains i=false->S i=false->(∀ j∈bU.getD i [],S j=true)->(∀ k o,G k=some o->G1 k=some o)->St N D w0 F G0 G1 L T a w->(∀ i d,S i=true->eT l i=some d->∃ v,a.tmps[d]?=some v∧pr i v G1) ->
   WL r P l.toArray (fun e a' w'=>e=.normal∧DX N D w0 F G0 G L T l pr (fq S i) a' w') [o] a w
variable {pr:Nat->ak->GH->Prop} {i d:Nat} {o:Oper} {bU:List (List Nat)} {B:List Nat}
theorem Rh (h:(eT l i,Nat.blt i l.length)=(some d,true)) (k:Fz N D w0 F G0 G L T r P l pr i d o [])
  (hok:nk l T i=true:=by kernel_rfl) (jh:∀ i v (G G':GH),(∀ k o,G k=some o->G' k=some o)->pr i v G->pr i v G':=by exact fun _ _ _ _ _ h=>h):tL N D w0 F G0 G L T r P l bU B pr i o:=by
 simp only [gY] at h
 exact kS [] O trivial hok jh h.1 h.2 k
theorem pK (j t:Nat) {x:ak} (h:(eT l i,Nat.blt i l.length,[(j,t,x)].all (fun x=>(bU.getD i []).contains x.1 && (eT l x.1 == some x.2.1)))=(some d,true,true)) (hu:pr j=fun v _=>v=x) (k:Fz N D w0 F G0 G L T r P l pr i d o [(j,t,x)])
  (hok:nk l T i=true:=by kernel_rfl) (jh:∀ i v (G G':GH),(∀ k o,G k=some o->G' k=some o)->pr i v G->pr i v G':=by exact fun _ _ _ _ _ h=>h):tL N D w0 F G0 G L T r P l bU B pr i o:=by
 simp only [gY] at h
 exact kS _ h.2.2 ⟨fun v G h=>by rw [hu] at h;exact h,aI⟩ hok jh h.1 h.2.1 k
theorem oQ (j t j' t':Nat) {x x':ak} (h:(eT l i,Nat.blt i l.length,[(j,t,x),(j',t',x')].all (fun x=>(bU.getD i []).contains x.1 && (eT l x.1 == some x.2.1)))=(some d,true,true)) (hu:(pr j,pr j')=(fun v _=>v=x,fun v _=>v=x')) (k:Fz N D w0 F G0 G L T r P l pr i d o [(j,t,x),(j',t',x')])
  (hok:nk l T i=true:=by kernel_rfl) (jh:∀ i v (G G':GH),(∀ k o,G k=some o->G' k=some o)->pr i v G->pr i v G':=by exact fun _ _ _ _ _ h=>h):tL N D w0 F G0 G L T r P l bU B pr i o:=by
 simp only [gY] at h hu
 exact kS _ h.2.2 ⟨fun v G h=>by rw [hu.1] at h;exact h,fun v G h=>by rw [hu.2] at h;exact h,aI⟩ hok jh h.1 h.2.1 k
theorem LX (j t j' t' j2 t2:Nat) {x x' x2:ak} (h:(eT l i,Nat.blt i l.length,[(j,t,x),(j',t',x'),(j2,t2,x2)].all (fun x=>(bU.getD i []).contains x.1 && (eT l x.1 == some x.2.1)))=(some d,true,true)) (hu:(pr j,pr j',pr j2)=(fun v _=>v=x,fun v _=>v=x',fun v _=>v=x2)) (k:Fz N D w0 F G0 G L T r P l pr i d o [(j,t,x),(j',t',x'),(j2,t2,x2)])
  (hok:nk l T i=true:=by kernel_rfl) (jh:∀ i v (G G':GH),(∀ k o,G k=some o->G' k=some o)->pr i v G->pr i v G':=by exact fun _ _ _ _ _ h=>h):tL N D w0 F G0 G L T r P l bU B pr i o:=by
 simp only [gY] at h hu
 exact kS _ h.2.2 ⟨fun v G h=>by rw [hu.1] at h;exact h,fun v G h=>by rw [hu.2.1] at h;exact h,fun v G h=>by rw [hu.2.2] at h;exact h,aI⟩ hok jh h.1 h.2.1 k
theorem dK (j:Nat) {t:Nat} {op:Op} {ty:TypeId} {pos:String} {aM:Array Edge} {want b b':Bool} (he:b'=b) (h:(eT l i,Nat.blt i l.length,eT l j,(bU.getD i []).contains j,Nat.blt d N,b,b)=(some d,true,some t,true,true,!want,b)) (hv:pr j=fun v _=>v=.bool b')
  (hok:nk l T i=true:=by kernel_rfl) (jh:∀ i v (G G':GH),(∀ k o,G k=some o->G' k=some o)->pr i v G->pr i v G':=by exact fun _ _ _ _ _ h=>h) (hu:∀ G,pr i undef G:=by exact fun _=>rfl):tL N D w0 F G0 G L T r P l bU B pr i ⟨some d,op,ty,pos,aM,some (j,want)⟩:=by
 simp only [gY] at h
 exact ahq (b:=b) hok jh h.1 h.2.1 h.2.2.1 h.2.2.2.1 h.2.2.2.2.1 (fun v G g=>by rw [hv] at g;rw [<- he];exact g) h.2.2.2.2.2.1 hu
theorem fT {X:(Nat->Bool)->Act->World->GH->Prop} {b:Bool} (h:b=true):∀ S a w G1,b=false->X S a w G1:=fun _ _ _ _ hB=>by rw [h] at hB;cases hB
theorem aH {φ:Nat->Oper->Prop} {i:Nat} {o1 o2 o3 o4:Oper} {r:List Oper} (h1:φ i o1) (h2:φ (i+1) o2) (h3:φ (i+1+1) o3) (h4:φ (i+1+1+1) o4) (t:allI φ (i+1+1+1+1) r):allI φ i (o1 :: o2 :: o3 :: o4 :: r):=⟨h1,h2,h3,h4,t⟩
end
section
variable {N:Nat} {D:List Deferred} {w0:World} {F:Nat->Prop} {G0 G:GH} {L:List (Nat × Obj)} {T:List (Nat × ak)}
variable {r:Option Nat} {P:Program} {ops:Array Oper} {Q:Exit->Act->World->Prop} {rest:List Oper} {w:World}
variable {d:Nat} {ty:TypeId} {pos:String} {aM:Array Edge} {j t:Nat} {want b:Bool}
theorem YM {x:Operand} {v:ak} (hb:b=want) (h:((ops[j]?).bind (·.dst),lk T t,ev T x,Nat.blt d N)=(some t,some (.bool b),some v,true)) (k:∀ a',St N D w0 F G0 G L ((d,v) :: T) a' w->WL r P ops Q rest a' w) :
  ∀ a,St N D w0 F G0 G L T a w->WL r P ops Q (⟨some d,.move x,ty,pos,aM,some (j,want)⟩ :: rest) a w:=fun _ H=>by
 simp only [gY] at h
 exact uG H (wg H h.1 h.2.1 hb) h.2.2.1 h.2.2.2 k
theorem YN {x:Operand} {y:TypeId} {v:Bool} (hb:b=want) (h:((ops[j]?).bind (·.dst),lk T t,ev T x,Nat.blt d N)=(some t,some (.bool b),some (.bool v),true)) (k:∀ a',St N D w0 F G0 G L ((d,.bool (!v)) :: T) a' w->WL r P ops Q rest a' w) :
  ∀ a,St N D w0 F G0 G L T a w->WL r P ops Q (⟨some d,.unOp .not y x,ty,pos,aM,some (j,want)⟩ :: rest) a w:=fun _ H=>by
 simp only [gY] at h
 exact Py H (wg H h.1 h.2.1 hb) h.2.2.1 h.2.2.2 k
theorem YC {op:BinOp} {x y:Operand} {u yt:TypeId} {kd:IntKind} {p q:Int} {c:Bool} (hb:b=want) (h:((ops[j]?).bind (·.dst),lk T t,ev T x,ev T y,FP op p q,Nat.blt d N)=(some t,some (.bool b),some (.int kd p),some (.int kd q),some c,true)) (k:∀ a',St N D w0 F G0 G L ((d,.bool c) :: T) a' w->WL r P ops Q rest a' w) :
  ∀ a,St N D w0 F G0 G L T a w->WL r P ops Q (⟨some d,.binOp op u x y yt,ty,pos,aM,some (j,want)⟩ :: rest) a w:=fun _ H=>by
 simp only [gY] at h
 exact yX H (wg H h.1 h.2.1 hb) h.2.2.1 h.2.2.2.1 h.2.2.2.2.1 h.2.2.2.2.2 k
theorem YF {s:TypeId} {x:Operand} {n e o off:Nat} (hs:gL P s n off) (hb:b=want) (h:((ops[j]?).bind (·.dst),lk T t,ev T x,Nat.blt d N)=(some t,some (.bool b),some (.pointer (some ⟨e,o,none⟩)),true)) (k:∀ a',St N D w0 F G0 G L ((d,.pointer (some ⟨e,o+off,none⟩)) :: T) a' w->WL r P ops Q rest a' w) :
  ∀ a,St N D w0 F G0 G L T a w->WL r P ops Q (⟨some d,.fieldAddr s x n,ty,pos,aM,some (j,want)⟩ :: rest) a w:=fun _ H=>by
 simp only [gY] at h
 exact Hy hs H (wg H h.1 h.2.1 hb) h.2.2.1 h.2.2.2 k
theorem YO {u:TypeId} {sz bytes:Nat} {zero:List ak} (ht:Ty P u sz bytes zero false) (i:Nat) {x:Operand} {e o:Nat} {v:ak} {c:Array ak} {y:TypeId} {fz:Nat × Nat} (hb:b=want) (h:((ops[j]?).bind (·.dst),lk T t,ev T x,L[i]?,Nat.blt d N,c[o]?)=(some t,some (.bool b),some (.pointer (some ⟨e,o,none⟩)),some (e,.cells c y fz),true,some v))
  (k:∀ a',St N D w0 F G0 G L ((d,v) :: T) a' w->WL r P ops Q rest a' w) :
  ∀ a,St N D w0 F G0 G L T a w->WL r P ops Q (⟨some d,.load u x,ty,pos,aM,some (j,want)⟩ :: rest) a w:=fun _ H=>by
 simp only [gY] at h
 exact iU ht H (wg H h.1 h.2.1 hb) h.2.2.1 (H.hp.gK i h.2.2.2.1 h.2.2.2.2.2) h.2.2.2.2.1 k
theorem YR {u:TypeId} {sz bytes:Nat} {zero:List ak} (ht:Ty P u sz bytes zero false) {x:Operand} {e o:Nat} {v:ak} (hb:b=want) (h:((ops[j]?).bind (·.dst),lk T t,ev T x,Nat.blt d N)=(some t,some (.bool b),some (.pointer (some ⟨e,o,none⟩)),true)) (hv:aS G e o=some v)
  (k:∀ a',St N D w0 F G0 G L ((d,v) :: T) a' w->WL r P ops Q rest a' w) :
  ∀ a,St N D w0 F G0 G L T a w->WL r P ops Q (⟨some d,.load u x,ty,pos,aM,some (j,want)⟩ :: rest) a w:=fun _ H=>by
 simp only [gY] at h
 exact iU ht H (wg H h.1 h.2.1 hb) h.2.2.1 (H.hp.aS hv) h.2.2.2 k
theorem Rg {u:TypeId} {sz bytes:Nat} {zero:List ak} (ht:Ty P u sz bytes zero false) {x:Operand} {e o:Nat} {v:ak} (h:(ev T x,Nat.blt d N)=(some (.pointer (some ⟨e,o,none⟩)),true)) (hv:aS G e o=some v)
  (k:∀ a',St N D w0 F G0 G L ((d,v) :: T) a' w->WL r P ops Q rest a' w) :
  ∀ a,St N D w0 F G0 G L T a w->WL r P ops Q (⟨some d,.load u x,ty,pos,aM,none⟩ :: rest) a w:=fun _ H=>by
 simp only [gY] at h
 exact iU ht H wn h.1 (H.hp.aS hv) h.2 k
theorem YL {x:Operand} {u e:TypeId} {A:Option Addr} {n c:Nat} (hs:P.underlying u=some (.slice e)) (hb:b=want) (h:((ops[j]?).bind (·.dst),lk T t,ev T x,Nat.blt d N)=(some t,some (.bool b),some (.slice A n c),true)) (k:∀ a',St N D w0 F G0 G L ((d,.int .i64 n) :: T) a' w->WL r P ops Q rest a' w) :
  ∀ a,St N D w0 F G0 G L T a w->WL r P ops Q (⟨some d,.call { callee:=.builtin .len,args:=#[x],argTypes:=#[u] },ty,pos,aM,some (j,want)⟩ :: rest) a w:=fun _ H=>by
 simp only [gY] at h
 exact EF hs H (wg H h.1 h.2.1 hb) h.2.2.1 h.2.2.2 k
theorem Ks {op:Op} (hb:b=!want) (h:((ops[j]?).bind (·.dst),lk T t,Nat.blt d N)=(some t,some (.bool b),true)) (k:∀ a',St N D w0 F G0 G L ((d,undef) :: T) a' w->WL r P ops Q rest a' w) :
  ∀ a,St N D w0 F G0 G L T a w->WL r P ops Q (⟨some d,op,ty,pos,aM,some (j,want)⟩ :: rest) a w:=fun _ H=>by
 simp only [gY] at h
 exact WT H h.1 h.2.1 hb h.2.2 k
theorem aO {d2:Nat} {o1 o2:Op} {Qo:TypeId} {pos2:String} {Mf:Array Edge} (hb:b=!want) (h:((ops[j]?).bind (·.dst),lk T t,lk ((d,undef) :: T) t,Nat.blt d N,Nat.blt d2 N)=(some t,some (.bool b),some (.bool b),true,true)) (k:∀ a',St N D w0 F G0 G L ((d2,undef) :: (d,undef) :: T) a' w->WL r P ops Q rest a' w) :
  ∀ a,St N D w0 F G0 G L T a w->WL r P ops Q (⟨some d,o1,ty,pos,aM,some (j,want)⟩ :: ⟨some d2,o2,Qo,pos2,Mf,some (j,want)⟩ :: rest) a w:=by
 simp only [gY] at h
 exact Ks hb (by rw [h.1,h.2.1,h.2.2.2.1]) (Ks hb (by rw [h.1,h.2.2.1,h.2.2.2.2]) k)
theorem aV {d2 d3:Nat} {o1 o2 o3:Op} {Qo ty3:TypeId} {pos2 aga:String} {Mf Y5:Array Edge} (hb:b=!want) (h:((ops[j]?).bind (·.dst),lk T t,lk ((d,undef) :: T) t,lk ((d2,undef) :: (d,undef) :: T) t,Nat.blt d N,Nat.blt d2 N,Nat.blt d3 N)=(some t,some (.bool b),some (.bool b),some (.bool b),true,true,true)) (k:∀ a',St N D w0 F G0 G L ((d3,undef) :: (d2,undef) :: (d,undef) :: T) a' w->WL r P ops Q rest a' w) :
  ∀ a,St N D w0 F G0 G L T a w->WL r P ops Q (⟨some d,o1,ty,pos,aM,some (j,want)⟩ :: ⟨some d2,o2,Qo,pos2,Mf,some (j,want)⟩ :: ⟨some d3,o3,ty3,aga,Y5,some (j,want)⟩ :: rest) a w:=by
 simp only [gY] at h
 exact Ks hb (by rw [h.1,h.2.1,h.2.2.2.2.1]) (aO hb (by rw [h.1,h.2.2.1,h.2.2.2.1,h.2.2.2.2.2.1,h.2.2.2.2.2.2]) k)
theorem Ku {op:Op} (h:((ops[j]?).bind (·.dst),lk T t,Nat.blt d N)=(some t,some undef,true)) (k:∀ a',St N D w0 F G0 G L ((d,undef) :: T) a' w->WL r P ops Q rest a' w) :
  ∀ a,St N D w0 F G0 G L T a w->WL r P ops Q (⟨some d,op,ty,pos,aM,some (j,want)⟩ :: rest) a w:=fun _ H=>by
 simp only [gY] at h
 exact agV H h.1 h.2.1 h.2.2 k
theorem Pt {c x y:Operand} {v:ak} (hb:b=true) (h:(ev T c,ev T x,Nat.blt d N)=(some (.bool b),some v,true)) (k:∀ a',St N D w0 F G0 G L ((d,v) :: T) a' w->WL r P ops Q rest a' w) :
  ∀ a,St N D w0 F G0 G L T a w->WL r P ops Q (⟨some d,.pick c x y,ty,pos,aM,none⟩ :: rest) a w:=fun _ H=>by
 simp only [gY] at h
 exact PD H wn h.1 hb h.2.1 h.2.2 k
theorem Pf {c x y:Operand} {v:ak} (hb:b=false) (h:(ev T c,ev T y,Nat.blt d N)=(some (.bool b),some v,true)) (k:∀ a',St N D w0 F G0 G L ((d,v) :: T) a' w->WL r P ops Q rest a' w) :
  ∀ a,St N D w0 F G0 G L T a w->WL r P ops Q (⟨some d,.pick c x y,ty,pos,aM,none⟩ :: rest) a w:=fun _ H=>by
 simp only [gY] at h
 exact Pz H wn h.1 hb h.2.1 h.2.2 k
theorem PT {c x y:Operand} {v:ak} {b':Bool} (hb:b=want) (hb':b'=true) (h:((ops[j]?).bind (·.dst),lk T t,ev T c,ev T x,Nat.blt d N)=(some t,some (.bool b),some (.bool b'),some v,true)) (k:∀ a',St N D w0 F G0 G L ((d,v) :: T) a' w->WL r P ops Q rest a' w) :
  ∀ a,St N D w0 F G0 G L T a w->WL r P ops Q (⟨some d,.pick c x y,ty,pos,aM,some (j,want)⟩ :: rest) a w:=fun _ H=>by
 simp only [gY] at h
 exact PD H (wg H h.1 h.2.1 hb) h.2.2.1 hb' h.2.2.2.1 h.2.2.2.2 k
theorem PF {c x y:Operand} {v:ak} {b':Bool} (hb:b=want) (hb':b'=false) (h:((ops[j]?).bind (·.dst),lk T t,ev T c,ev T y,Nat.blt d N)=(some t,some (.bool b),some (.bool b'),some v,true)) (k:∀ a',St N D w0 F G0 G L ((d,v) :: T) a' w->WL r P ops Q rest a' w) :
  ∀ a,St N D w0 F G0 G L T a w->WL r P ops Q (⟨some d,.pick c x y,ty,pos,aM,some (j,want)⟩ :: rest) a w:=fun _ H=>by
 simp only [gY] at h
 exact Pz H (wg H h.1 h.2.1 hb) h.2.2.1 hb' h.2.2.2.1 h.2.2.2.2 k
theorem Ri {s e:TypeId} {sz bytes:Nat} {zero:List ak} {agg:Bool} (hs:P.underlying s=some (.slice e)) (ht:Ty P e sz bytes zero agg) {x y:Operand} {q o n c:Nat} {kd:IntKind} {z:Int} {i:Nat}
  (h:(ev T x,ev T y,Nat.blt d N)=(some (.slice (some ⟨q,o,none⟩) n c),some (.int kd z),true)) (hz:z=(i:Int)) (k:∀ a',St N D w0 F G0 G L ((d,.pointer (some ⟨q,o+i*sz,none⟩)) :: T) a' w->WL r P ops Q rest a' w) (hn:i < n:=by first|assumption|omega) :
  ∀ a,St N D w0 F G0 G L T a w->WL r P ops Q (⟨some d,.indexAddr s x y,ty,pos,aM,none⟩ :: rest) a w:=fun _ H=>by
 simp only [gY] at h
 exact bD hs ht i H wn h.1 h.2.1 hz hn h.2.2 k
theorem YI {s e:TypeId} {sz bytes:Nat} {zero:List ak} {agg:Bool} (hs:P.underlying s=some (.slice e)) (ht:Ty P e sz bytes zero agg) {x y:Operand} {q o n c:Nat} {kd:IntKind} {z:Int} {i:Nat} (hb:b=want)
  (h:((ops[j]?).bind (·.dst),lk T t,ev T x,ev T y,Nat.blt d N)=(some t,some (.bool b),some (.slice (some ⟨q,o,none⟩) n c),some (.int kd z),true)) (hz:z=(i:Int)) (k:∀ a',St N D w0 F G0 G L ((d,.pointer (some ⟨q,o+i*sz,none⟩)) :: T) a' w->WL r P ops Q rest a' w) (hn:i < n:=by first|assumption|omega) :
  ∀ a,St N D w0 F G0 G L T a w->WL r P ops Q (⟨some d,.indexAddr s x y,ty,pos,aM,some (j,want)⟩ :: rest) a w:=fun _ H=>by
 simp only [gY] at h
 exact bD hs ht i H (wg H h.1 h.2.1 hb) h.2.2.1 h.2.2.2.1 hz hn h.2.2.2.2 k
theorem Rd {x y:Operand} {u yt:TypeId} {p q z:Int} (h:(ev T x,ev T y,p+q,Nat.blt d N)=(some (.int .i64 p),some (.int .i64 q),z,true)) (k:∀ a',St N D w0 F G0 G L ((d,.int .i64 z) :: T) a' w->WL r P ops Q rest a' w) (h1:-9223372036854775808<=z:=by omega) (h2:z < 9223372036854775808:=by omega) :
  ∀ a,St N D w0 F G0 G L T a w->WL r P ops Q (⟨some d,.binOp .add u x y yt,ty,pos,aM,none⟩ :: rest) a w:=fun _ H=>by
 simp only [gY] at h
 exact nQ z H wn h.1 h.2.1 h.2.2.1 h1 h2 h.2.2.2 k
theorem Rs {x y:Operand} {u yt:TypeId} {p q z:Int} (h:(ev T x,ev T y,p - q,Nat.blt d N)=(some (.int .i64 p),some (.int .i64 q),z,true)) (k:∀ a',St N D w0 F G0 G L ((d,.int .i64 z) :: T) a' w->WL r P ops Q rest a' w) (h1:-9223372036854775808<=z:=by omega) (h2:z < 9223372036854775808:=by omega) :
  ∀ a,St N D w0 F G0 G L T a w->WL r P ops Q (⟨some d,.binOp .sub u x y yt,ty,pos,aM,none⟩ :: rest) a w:=fun _ H=>by
 simp only [gY] at h
 exact wE z H wn h.1 h.2.1 h.2.2.1 h1 h2 h.2.2.2 k
theorem Rv {x:Operand} {u:TypeId} {s:ByteArray} (hs:P.underlying u=some .string) (h:(ev T x,Nat.blt d N)=(some (.string s),true)) (k:∀ a',St N D w0 F G0 G L ((d,.int .i64 s.size) :: T) a' w->WL r P ops Q rest a' w) :
  ∀ a,St N D w0 F G0 G L T a w->WL r P ops Q (⟨some d,.call { callee:=.builtin .len,args:=#[x],argTypes:=#[u] },ty,pos,aM,none⟩ :: rest) a w:=fun _ H=>by
 simp only [gY] at h
 exact agJ hs H wn h.1 h.2 k
theorem Kz {X:Act->World->Prop} (hK:∀ a w,X a w->WL r P ops Q [] a w) (k:∀ a,St N D w0 F G0 G L T a w->X a w):∀ a,St N D w0 F G0 G L T a w->WL r P ops Q [] a w:=fun a H=>hK a w (k a H)
theorem Kn {X:Act->World->Prop} (hK:∀ a w,X a w->Q .normal a w) (k:∀ a,St N D w0 F G0 G L T a w->X a w):∀ a,St N D w0 F G0 G L T a w->WL r P ops Q [] a w:=fun a H=>aj (hK a w (k a H))
theorem av {X:Act->World->Prop} {x:Operand} {v:ak} (hK:∀ a w,X a w->WL r P ops Q [] a w) (h:(ev T x,Nat.blt d N)=(some v,true)) (k:∀ a',St N D w0 F G0 G L ((d,v) :: T) a' w->X a' w):∀ a,St N D w0 F G0 G L T a w->WL r P ops Q [⟨some d,.assign x,ty,pos,aM,none⟩] a w:=Ra h (Kz hK k)
theorem bO {X:Act->World->Prop} {x:Operand} {v:ak} (hK:∀ a w,X a w->Q .normal a w) (h:(ev T x,Nat.blt d N)=(some v,true)) (k:∀ a',St N D w0 F G0 G L ((d,v) :: T) a' w->X a' w):∀ a,St N D w0 F G0 G L T a w->WL r P ops Q [⟨some d,.assign x,ty,pos,aM,none⟩] a w:=Ra h (Kn hK k)
theorem Kc {X:Act->World->Prop} (hK:∀ a w,X a w->Q .normal a w) (k:∀ a,St N D w0 F G0 G L T a w->X a w):∀ a,St N D w0 F G0 G L T a w->WP r P .skip Q a w:=fun a H=>lV (hK a w (k a H))
theorem SR {id:Nat} {l:List Oper} {y:Code} (h:∀ K:Act->World->Prop,(∀ a w,WP r P y Q a w->WL r P l.toArray (Exit.then K Q) [] a w)->∀ a,St N D w0 F G0 G L T a w->WL r P l.toArray (Exit.then K Q) l a w):∀ a,St N D w0 F G0 G L T a w->WP r P (.seq (.region id l.toArray false) y) Q a w:=fun a H=>gU fun K hK=>h K hK a H
theorem SQ {x y:Code} (h:∀ K:Act->World->Prop,(∀ a w,WP r P y Q a w->K a w)->∀ a,St N D w0 F G0 G L T a w->WP r P x (Exit.then K Q) a w):∀ a,St N D w0 F G0 G L T a w->WP r P (.seq x y) Q a w:=fun a H=>gy fun K hK=>h K hK a H
theorem SC {id:Nat} {l:List Oper} (h:∀ a,St N D w0 F G0 G L T a w->WL r P l.toArray Q l a w):∀ a,St N D w0 F G0 G L T a w->WP r P (.region id l.toArray false) Q a w:=fun a H=>rP (h a H)
theorem SB {id:Nat} {c:Code} (h:∀ a,St N D w0 F G0 G L T a w->WP r P c (Exit.inBlock id Q) a w):∀ a,St N D w0 F G0 G L T a w->WP r P (.block id c) Q a w:=fun a H=>xk (h a H)
theorem kP {a:Act} {c:Code} (H:St N D w0 F G0 G L T a w) (k:∀ a,St N D w0 F G0 G L T a w->WP r P c Q a w):WP r P c Q a w:=k a H
theorem lr {a:Act} {fn:Func} {v:ak} {R:Ending->World->Prop} (H:St N [] w0 F G0 G L T a w) (hr:fn.results=#[.tmp t]) (hQ:(lk T t,Q .ret a w)=(some v,bodyPostM (FW none) 0 P fn R .ret a w)) (hR:R (.returned v) w):WP none P .ret Q a w:=by
 simp only [gY] at hQ
 exact aU (by rw [hQ.2];exact lv H hr hQ.1 hR)
theorem dT {p:Prop} [Decidable p] (h:decide p=true):p:=rG h
theorem dF {p:Prop} [Decidable p] (h:decide p=false):¬p:=of_decide_eq_false h
end
section
variable {N:Nat} {D:List Deferred} {w0:World} {F:Nat->Prop} {G0 G:GH} {L:OL} {T:List (Nat × ak)}
variable {P:Program} {l:List Oper} {r:Option Nat} {pr:Nat->ak->GH->Prop} {i d:Nat} {o:Oper} {bU:List (List Nat)} {B:List Nat} {v:ak}
abbrev yB (N:Nat) (D:List Deferred) (w0:World) (F:Nat->Prop) (G0 G:GH) (L:OL) (T:List (Nat × ak)) (r:Option Nat) (P:Program) (l:List Oper) (d:Nat) (v:ak) (o:Oper) (us:List (Nat × Nat × ak)):Prop :=
 ∀ {Q:Exit->Act->World->Prop} {a:Act} {w:World} {G1:GH} (_:∀ k o,G k=some o->G1 k=some o),(∀ a',St N D w0 F G0 G1 L ((d,v) :: (yY us T++full N a)) a' w->WL r P l.toArray Q [] a' w)->∀ a',St N D w0 F G0 G1 L (yY us T++full N a) a' w->WL r P l.toArray Q [o] a' w
abbrev Iq (N:Nat) (D:List Deferred) (w0:World) (F:Nat->Prop) (G0 G:GH) (L:OL) (T:List (Nat × ak)) (r:Option Nat) (P:Program) (l:List Oper) (d:Nat) (v:ak) (o:Oper) (us:List (Nat × Nat × ak)):Prop :=
 ∀ {Q:Exit->Act->World->Prop} {a:Act} {w:World} {G1:GH},(∀ a',St N D w0 F G0 G1 L ((d,v) :: (yY us T++full N a)) a' w->WL r P l.toArray Q [] a' w)->∀ a',St N D w0 F G0 G1 L (yY us T++full N a) a' w->WL r P l.toArray Q [o] a' w
theorem yB.k {us:List (Nat × Nat × ak)} (hv:pr i=fun u _=>u=v) (k:yB N D w0 F G0 G L T r P l d v o us):Fz N D w0 F G0 G L T r P l pr i d o us :=
 fun _ a w G1 hG _ H fin=>k hG (fun _ H=>fin H (fun _ _ h=>h) (by rw [hv])) a H
theorem X0 (h:(eT l i,Nat.blt i l.length,pr i)=(some d,true,fun u _=>u=v)) (k:yB N D w0 F G0 G L T r P l d v o [])
  (hok:nk l T i=true:=by kernel_rfl) (jh:∀ i v (G G':GH),(∀ k o,G k=some o->G' k=some o)->pr i v G->pr i v G':=by exact fun _ _ _ _ _ h=>h):tL N D w0 F G0 G L T r P l bU B pr i o:=by
 simp only [gY] at h
 exact Rh (by rw [h.1,h.2.1]) (yB.k h.2.2 k) hok jh
theorem X1 (j t:Nat) {x:ak} (h:(eT l i,Nat.blt i l.length,pr j,pr i,[(j,t,x)].all (fun x=>(bU.getD i []).contains x.1 && (eT l x.1 == some x.2.1)))=(some d,true,fun v _=>v=x,fun u _=>u=v,true)) (k:yB N D w0 F G0 G L T r P l d v o [(j,t,x)])
  (hok:nk l T i=true:=by kernel_rfl) (jh:∀ i v (G G':GH),(∀ k o,G k=some o->G' k=some o)->pr i v G->pr i v G':=by exact fun _ _ _ _ _ h=>h):tL N D w0 F G0 G L T r P l bU B pr i o:=by
 simp only [gY] at h
 exact pK j t (by rw [h.1,h.2.1,h.2.2.2.2]) h.2.2.1 (yB.k h.2.2.2.1 k) hok jh
theorem X2 (j t j' t':Nat) {x x':ak} (h:(eT l i,Nat.blt i l.length,pr j,pr j',pr i,[(j,t,x),(j',t',x')].all (fun x=>(bU.getD i []).contains x.1 && (eT l x.1 == some x.2.1)))=(some d,true,fun v _=>v=x,fun v _=>v=x',fun u _=>u=v,true)) (k:yB N D w0 F G0 G L T r P l d v o [(j,t,x),(j',t',x')])
  (hok:nk l T i=true:=by kernel_rfl) (jh:∀ i v (G G':GH),(∀ k o,G k=some o->G' k=some o)->pr i v G->pr i v G':=by exact fun _ _ _ _ _ h=>h):tL N D w0 F G0 G L T r P l bU B pr i o:=by
 simp only [gY] at h
 exact oQ j t j' t' (by rw [h.1,h.2.1,h.2.2.2.2.2]) (by rw [h.2.2.1,h.2.2.2.1]) (yB.k h.2.2.2.2.1 k) hok jh
theorem X3 (j t j' t' j2 t2:Nat) {x x' x2:ak} (h:(eT l i,Nat.blt i l.length,pr j,pr j',pr j2,pr i,[(j,t,x),(j',t',x'),(j2,t2,x2)].all (fun x=>(bU.getD i []).contains x.1 && (eT l x.1 == some x.2.1)))=(some d,true,fun v _=>v=x,fun v _=>v=x',fun v _=>v=x2,fun u _=>u=v,true)) (k:yB N D w0 F G0 G L T r P l d v o [(j,t,x),(j',t',x'),(j2,t2,x2)])
  (hok:nk l T i=true:=by kernel_rfl) (jh:∀ i v (G G':GH),(∀ k o,G k=some o->G' k=some o)->pr i v G->pr i v G':=by exact fun _ _ _ _ _ h=>h):tL N D w0 F G0 G L T r P l bU B pr i o:=by
 simp only [gY] at h
 exact LX j t j' t' j2 t2 (by rw [h.1,h.2.1,h.2.2.2.2.2.2]) (by rw [h.2.2.1,h.2.2.2.1,h.2.2.2.2.1]) (yB.k h.2.2.2.2.2.1 k) hok jh
theorem Z0 (h:(eT l i,Nat.blt i l.length,pr i)=(some d,true,fun u _=>u=v)) (k:Iq N D w0 F G0 G L T r P l d v o [])
  (hok:nk l T i=true:=by kernel_rfl) (jh:∀ i v (G G':GH),(∀ k o,G k=some o->G' k=some o)->pr i v G->pr i v G':=by exact fun _ _ _ _ _ h=>h):tL N D w0 F G0 G L T r P l bU B pr i o:=X0 h (fun _=>k) hok jh
theorem Z1 (j t:Nat) {x:ak} (h:(eT l i,Nat.blt i l.length,pr j,pr i,[(j,t,x)].all (fun x=>(bU.getD i []).contains x.1 && (eT l x.1 == some x.2.1)))=(some d,true,fun v _=>v=x,fun u _=>u=v,true)) (k:Iq N D w0 F G0 G L T r P l d v o [(j,t,x)])
  (hok:nk l T i=true:=by kernel_rfl) (jh:∀ i v (G G':GH),(∀ k o,G k=some o->G' k=some o)->pr i v G->pr i v G':=by exact fun _ _ _ _ _ h=>h):tL N D w0 F G0 G L T r P l bU B pr i o:=X1 j t h (fun _=>k) hok jh
theorem Z2 (j t j' t':Nat) {x x':ak} (h:(eT l i,Nat.blt i l.length,pr j,pr j',pr i,[(j,t,x),(j',t',x')].all (fun x=>(bU.getD i []).contains x.1 && (eT l x.1 == some x.2.1)))=(some d,true,fun v _=>v=x,fun v _=>v=x',fun u _=>u=v,true)) (k:Iq N D w0 F G0 G L T r P l d v o [(j,t,x),(j',t',x')])
  (hok:nk l T i=true:=by kernel_rfl) (jh:∀ i v (G G':GH),(∀ k o,G k=some o->G' k=some o)->pr i v G->pr i v G':=by exact fun _ _ _ _ _ h=>h):tL N D w0 F G0 G L T r P l bU B pr i o:=X2 j t j' t' h (fun _=>k) hok jh
theorem Z3 (j t j' t' j2 t2:Nat) {x x' x2:ak} (h:(eT l i,Nat.blt i l.length,pr j,pr j',pr j2,pr i,[(j,t,x),(j',t',x'),(j2,t2,x2)].all (fun x=>(bU.getD i []).contains x.1 && (eT l x.1 == some x.2.1)))=(some d,true,fun v _=>v=x,fun v _=>v=x',fun v _=>v=x2,fun u _=>u=v,true)) (k:Iq N D w0 F G0 G L T r P l d v o [(j,t,x),(j',t',x'),(j2,t2,x2)])
  (hok:nk l T i=true:=by kernel_rfl) (jh:∀ i v (G G':GH),(∀ k o,G k=some o->G' k=some o)->pr i v G->pr i v G':=by exact fun _ _ _ _ _ h=>h):tL N D w0 F G0 G L T r P l bU B pr i o:=X3 j t j' t' j2 t2 h (fun _=>k) hok jh
theorem St.au {a:Act} {w:World} {p:ak->Prop} (H:St N D w0 F G0 G L T a w) (h:∃ u,a.tmps[d]?=some u∧p u) (he:p=fun u=>u=v):St N D w0 F G0 G L ((d,v) :: T) a w:=by
 subst he
 obtain ⟨u,h1,h2⟩:=h
 exact H.eP (h2 ▸ h1)
theorem dI {a:Act} {w:World} {Q:Exit->Act->World->Prop} {id:Nat} (hm:P.follows .mixedOrders=true) (bU:List (List Nat)) (B:List Nat) (hk:(vW l bU && za l bU B)=true) (vs:List ak) (H:St N D w0 F G0 G L T a w)
  (hstep:allI (fun i o=>tL N D w0 F G0 G L T r P l bU B (Pg vs) i o) 0 l)
  (hend:∀ a w G1,(∀ k o,G k=some o->G1 k=some o)->St N D w0 F G0 G1 L T a w->(∀ i d,B.contains i=false->eT l i=some d->∃ v,a.tmps[d]?=some v∧Pg vs i v G1)->WL r P l.toArray (fun e a w=>e=.normal∧Q .normal a w) (qg l B) a w):WP r P (.region id l.toArray true) Q a w:=by
 rw [iG] at hk
 exact IU hm bU B hk.1 hk.2 (Pg vs) (fun _ _ _ _ _ h=>h) H hstep hend
variable {w:World} {ops:Array Oper} {Q:Exit->Act->World->Prop} {b:Bool} {t:Nat} {x:Operand} {c1 c2:Code}
theorem Cd (h:ev T x=some (.bool b)) (k1:b=true->∀ a,St N D w0 F G0 G L T a w->WP r P c1 Q a w) (k2:b=false->∀ a,St N D w0 F G0 G L T a w->WP r P c2 Q a w):∀ a,St N D w0 F G0 G L T a w->WP r P (.cond x c1 c2) Q a w:=fun a H=>ou H h (fun h=>k1 h a H) (fun h=>k2 h a H)
theorem Ct (h:ev T x=some (.bool b)) (hb:b=true) (k:∀ a,St N D w0 F G0 G L T a w->WP r P c1 Q a w):∀ a,St N D w0 F G0 G L T a w->WP r P (.cond x c1 c2) Q a w:=fun a H=>FJ H h hb (k a H)
theorem Cf (h:ev T x=some (.bool b)) (hb:b=false) (k:∀ a,St N D w0 F G0 G L T a w->WP r P c2 Q a w):∀ a,St N D w0 F G0 G L T a w->WP r P (.cond x c1 c2) Q a w:=fun a H=>vV H h hb (k a H)
theorem Sp {X:Act->Prop} (t:Nat) (h:lk T t=some (.bool b)) (k1:b=true->∀ a,St N D w0 F G0 G L T a w->X a) (k2:b=false->∀ a,St N D w0 F G0 G L T a w->X a):∀ a,St N D w0 F G0 G L T a w->X a:=fun a H=>WW H t h (fun h=>k1 h a H) (fun h=>k2 h a H)
class Ir (b:Bool) (p q:outParam Prop):Prop where
 t:b=true->p
 f:b=false->q
instance {p:Prop} [Decidable p]:Ir (decide p) p (¬p):=⟨rG,of_decide_eq_false⟩
instance (priority:=1):Ir b (b=true) (b=false):=⟨id,id⟩
theorem CE {p q:Prop} (h:ev T x=some (.bool b)) [o:Ir b p q] (k1:b=true->p->∀ a,St N D w0 F G0 G L T a w->WP r P c1 Q a w) (k2:b=false->q->∀ a,St N D w0 F G0 G L T a w->WP r P c2 Q a w):∀ a,St N D w0 F G0 G L T a w->WP r P (.cond x c1 c2) Q a w:=Cd h (fun h=>k1 h (o.t h)) (fun h=>k2 h (o.f h))
theorem SE {p q:Prop} {X:Act->Prop} (t:Nat) (h:lk T t=some (.bool b)) [o:Ir b p q] (k1:b=true->p->∀ a,St N D w0 F G0 G L T a w->X a) (k2:b=false->q->∀ a,St N D w0 F G0 G L T a w->X a):∀ a,St N D w0 F G0 G L T a w->X a:=Sp t h (fun h=>k1 h (o.t h)) (fun h=>k2 h (o.f h))
theorem LR {fn:Func} {R:Ending->World->Prop} (hr:fn.results=#[.tmp t]) (hQ:(lk T t,Q .ret)=(some v,fun a w=>bodyPostM (FW none) 0 P fn R .ret a w)) (hR:∀ {a},St N [] w0 F G0 G L T a w->R (.returned v) w):∀ a,St N [] w0 F G0 G L T a w->WP none P .ret Q a w:=fun a H=>by
 simp only [gY] at hQ
 exact lr H hr (by rw [hQ.1,hQ.2]) (hR H)
end
def ra:Nat->Nat->List Nat
 | _,0=>[]
 | a,n+1=>a :: ra (a+1) n
theorem lca {α:Type} (a:α) (l m:List α):a :: l++m=a :: (l++m):=rfl
theorem bW {α:Type} (l:List α):[]++l=l:=rfl
theorem aX {p:Prop} [Decidable p] (h:p):decide p=true:=wZ h
theorem dW {p:Prop} [Decidable p] (h:¬p):decide p=false:=zy h
abbrev LW (pr:Nat->ak->GH->Prop):Prop:=∀ i v (G G':GH),(∀ k o,G k=some o->G' k=some o)->pr i v G->pr i v G'
theorem bE {N:Nat} {D:List Deferred} {w0 w:World} {F:Nat->Prop} {G0:GH} {a:Act} {ι:Type} {Tc:List (Nat × ak)} {Lc:List (Nat × Obj)} {Tv:ι->List (Nat × ak)} {Lv:ι->List (Nat × Obj)} {Gv:ι->GH} {Pr:ι->Prop} {m:ι->Nat} {i:ι} (i':ι)
  (H:St N D w0 F G0 (Gv i') (Lc++Lv i') (Tv i'++Tc) a w) (hP:Pr i') (hm:m i' < m i:=by first|omega|(dsimp only;omega)) :
  ∃ i',(St N D w0 F G0 (Gv i') (Lc++Lv i') (Tv i'++Tc) a w∧Pr i')∧m i' < m i:=⟨i',⟨H,hP⟩,hm⟩
theorem PL (x:ak):∀ (vs c:List ak) (o:Nat),setRow (x :: c) (o+1) vs=x :: setRow c o vs
 | [],_,_=>rfl
 | v :: vs,c,o=>by simp only [setRow,List.set_cons_succ];exact PL x vs _ _
class Du (c:List ak) (o:Nat) (vs:List ak) (c':outParam (List ak)):Prop where
 h:setRow c o vs=c'
class LA (a:Nat) (b:outParam Nat):Prop where
 h:a=b
instance {a:Nat}:LA a a:=⟨O⟩
instance {c:List ak} {o:Nat}:Du c o [] c:=⟨O⟩
instance {x:ak} {c c' vs:List ak} {o o':Nat} [e:LA o (o'+1)] [q:Du c o' vs c']:Du (x :: c) o vs (x :: c'):=⟨by rw [e.h,PL,q.h]⟩
instance {x v:ak} {c c' vs:List ak} {o:Nat} [e:LA o 0] [q:Du c 0 vs c']:Du (x :: c) o (v :: vs) (v :: c'):=⟨by rw [e.h];simp only [setRow,List.set_cons_zero];rw [PL,q.h]⟩
class tN (L:List (Nat × Obj)) (i:Nat) (x:Nat × Obj) (L':outParam (List (Nat × Obj))):Prop where
 h:L.set i x=L'
instance {y x:Nat × Obj} {L:List (Nat × Obj)}:tN (y :: L) 0 x (x :: L):=⟨O⟩
instance {y x:Nat × Obj} {L L':List (Nat × Obj)} {i:Nat} [q:tN L i x L']:tN (y :: L) (i+1) x (y :: L'):=⟨by rw [List.set_cons_succ,q.h]⟩
instance {y x:Nat × Obj} {A B:List (Nat × Obj)}:tN ((y :: A).append B) 0 x (x :: A.append B):=⟨O⟩
instance {y x:Nat × Obj} {A B L':List (Nat × Obj)} {i:Nat} [q:tN (A.append B) i x L']:tN ((y :: A).append B) (i+1) x (y :: L'):=⟨by rw [<- q.h];rfl⟩
instance {x:Nat × Obj} {B L':List (Nat × Obj)} {i:Nat} [q:tN B i x L']:tN (List.append [] B) i x L':=⟨q.h⟩
instance {y x:Nat × Obj} {A B:List (Nat × Obj)}:tN ((y :: A)++B) 0 x (x :: (A++B)):=⟨O⟩
instance {y x:Nat × Obj} {A B L':List (Nat × Obj)} {i:Nat} [q:tN (A++B) i x L']:tN ((y :: A)++B) (i+1) x (y :: L'):=⟨by rw [<- q.h];rfl⟩
instance {x:Nat × Obj} {B L':List (Nat × Obj)} {i:Nat} [q:tN B i x L']:tN ([]++B) i x L':=⟨q.h⟩
theorem aZ {c:Prop} {h:Decidable c} (hc:¬c:=by omega) {α:Sort _} {t e:α}:(if c then t else e)=e:=aL hc
theorem dS {c:Prop} {h:Decidable c} (hc:c:=by omega) {α:Sort _} {t e:α}:(if c then t else e)=t:=aN hc
theorem bN {P:Program} {f:FuncId} {fn:Func} {c:Code} (hf:P.funcs[f]?=some fn) (hb:fn.body=some c) (hn:(fn.name == "runtime.NumGoroutine")=false:=by kernel_rfl):∀ (args:Array ak) (w:World),(callFunc f args).run P w=.ok (.enter f args) w:=enters hf hb hn
section
variable {N:Nat} {D:List Deferred} {w0:World} {F:Nat->Prop} {G0 G:GH} {L:List (Nat × Obj)} {T:List (Nat × ak)} {r:Option Nat} {P:Program} {ops:Array Oper} {Q:Exit->Act->World->Prop} {rest:List Oper} {a:Act} {w:World} {ty:TypeId} {pos:String} {aM:Array Edge} {g:Option (Nat × Bool)}
theorem bg {t:TypeId} {sz bytes:Nat} {zero:List ak} {agg:Bool} (ht:Ty P t sz bytes zero agg) {x y:Operand} (i:Nat) {b o:Nat} {c:List ak} {e:TypeId} {v:ak} {vs:List ak} {c':List ak} {L':List (Nat × Obj)} (H:St N D w0 F G0 G L T a w) (hw:Region.wanted ⟨none,.store t x y,ty,pos,aM,g⟩ (yielded ops a.tmps)=true)
  (h:(ev T x,L[i]?,ev T y,v.cells,Nat.beq vs.length sz,vs.all oneCell',Nat.ble (o+vs.length) c.length)=(some (.pointer (some ⟨b,o,none⟩)),some (b,.cells c.toArray e (0,0)),some v,vs.toArray,true,true,true))
  [q1:Du c o vs c'] [q2:tN L i (b,.cells c'.toArray e (0,0)) L']
  (k:∀ w',St N D w0 F G0 G L' T a w'->WL r P ops Q rest a w'):WL r P ops Q (⟨none,.store t x y,ty,pos,aM,g⟩ :: rest) a w:=by
 simp only [gY] at h
 obtain ⟨hx,hi,hy,hvs,hl,h1,hle⟩:=h
 refine ql ht i _ H hw hx hi hy hvs hl h1 hle q1.h (fun w' H=>k w' ?_)
 rw [q2.h] at H;exact H
end
section
variable {N:Nat} {D:List Deferred} {w0:World} {F:Nat->Prop} {G0 G G1:GH} {L:OL} {T Xs:List (Nat × ak)} {l:List Oper} {a a':Act} {w w':World}
theorem aB {pr:Nat->ak->GH->Prop} {S:Nat->Bool} {i d:Nat} {v:ak} (HT:St N D w0 F G0 G1 L T a w) (Hb:St N D w0 F G0 G1 L (Xs++full N a) a w) (hG:∀ k o,G k=some o->G1 k=some o) (hv:∀ i d,S i=true->eT l i=some d->∃ v,a.tmps[d]?=some v∧pr i v G1)
  (jh:∀ i v (G G':GH),(∀ k o,G k=some o->G' k=some o)->pr i v G->pr i v G') (H:St N D w0 F G0 G1 L ((d,v) :: (Xs++full N a)) a' w') (hp:pr i v G1)
  (hok:nk l T i=true:=by kernel_rfl) (hi:eT l i=some d:=by exact rfl) (hdl:Nat.blt i l.length=true:=by exact rfl):DX N D w0 F G0 G L T l pr (fq S i) a' w' :=
 oD hok jh hi hdl HT Hb hG hv (fun _ _ h=>h) hp H
end
end
theorem Am:prog.underlying 3=some (.int .i64):=by kernel_rfl
theorem Qw:prog.underlying 5=some (.int .u8):=by kernel_rfl
theorem kL:prog.underlying 9=some .string:=by kernel_rfl
theorem abG:bL 62:=bN func62 O
theorem Tq:bL 42:=bN func42 O
theorem abk:bL 27:=bN func27 O
theorem FX:bL 14:=bN func14 O
def eF (b:Int):Int × Int × Int :=
  (if b=224 then 160 else if b=240 then 144 else 128,if b=237 then 159 else if b=244 then 143 else 191,
   if b < 128 then 1 else if b < 194∨244 < b then 0 else if b < 224 then 2 else if b < 240 then 3 else 4)
theorem Qc (b:Int):0<=(eF b).2.2∧(eF b).2.2<=4:=by
 simp only [eF];split
 ·omega
 split
 ·omega
 split
 ·omega
 split <;> omega
theorem ahT (G:GH) (w0:World) (hG:Hold G w0) (b:Int) :
  Calls prog 62 #[.int .u8 b] w0 (bQ w0 G fun v G'=>v=.tuple #[.int .u8 (eF b).1,.int .u8 (eF b).2.1,.int .i64 (eF b).2.2]∧G=G'):=by
 refine eN [(0,_)] func62 O ntmps62 O O hG ?_;intro a H;refine kP H (SR fun _ K1=>Ra O (Ra O (av K1 O (SR fun _ K2=>Ra O (av K2 O (SQ fun _ K3=>SB (SR fun _ K4=>Rm O (Rc O (av K4 O (Cd O ?_ ?_)))))))))) <;> clear H K1 K2 K4
 ·intro h5 a H
  try have p5:=dT h5
  refine kP H (SC (bO K3 O (SQ fun _ K5=>SR fun _ K6=>Rm O (Kz K6 (SB (SR fun _ K7=>Rc O (av K7 O (Cd O ?_ ?_)))))))) <;> clear H K3 K6 K7
  ·intro h22 a H
   try have mX:=dT h22
   refine kP H (SC (bO K5 O (SR fun _ K8=>Rm O (Rm O (Rm O (Ra O (Ra O (av K8 O ?_))))))));clear H K5 K8;intro a H;refine aU ?_;refine (bK H results62 (.cons (aG H O) (.cons (aG H O) (.cons (aG H O) .nil))) ?_).1
   first|(exfalso;omega)|exact H.rt ⟨by simp only [eF];repeat (first|rw [dS]|rw [aZ]),O⟩
  intro h22 a H
  try have mX:=dF h22
  refine kP H (SR fun _ K9=>Rc O (av K9 O (Cd O ?_ ?_))) <;> clear H K9
  ·intro aQ a H
   try have gP:=dT aQ
   refine kP H (SC (bO K5 O (SR fun _ aP=>Rm O (Rm O (Rm O (Ra O (Ra O (av aP O ?_))))))));clear H K5 aP;intro a H;refine aU ?_;refine (bK H results62 (.cons (aG H O) (.cons (aG H O) (.cons (aG H O) .nil))) ?_).1
   first|(exfalso;omega)|exact H.rt ⟨by simp only [eF];repeat (first|rw [dS]|rw [aZ]),O⟩
  intro aQ a H
  try have gP:=dF aQ
  refine kP H (SR fun _ aT=>Rc O (av aT O (Cd O ?_ ?_))) <;> clear H aT
  ·intro fV a H
   try have p26:=dT fV
   refine kP H (SC (bO K5 O (SR fun _ bH=>Rm O (Rm O (Rm O (Ra O (Ra O (av bH O ?_))))))));clear H K5 bH;intro a H;refine aU ?_;refine (bK H results62 (.cons (aG H O) (.cons (aG H O) (.cons (aG H O) .nil))) ?_).1
   first|(exfalso;omega)|exact H.rt ⟨by simp only [eF];repeat (first|rw [dS]|rw [aZ]),O⟩
  intro fV a H
  try have p26:=dF fV
  refine kP H (SR fun _ bG=>Rc O (av bG O (Cd O ?_ ?_))) <;> clear H bG
  ·intro fI a H
   try have p28:=dT fI
   refine kP H (SC (bO K5 O (SR fun _ bX=>Rm O (Rm O (Rm O (Ra O (Ra O (av bX O ?_))))))));clear H K5 bX;intro a H;refine aU ?_;refine (bK H results62 (.cons (aG H O) (.cons (aG H O) (.cons (aG H O) .nil))) ?_).1
   first|(exfalso;omega)|exact H.rt ⟨by simp only [eF];repeat (first|rw [dS]|rw [aZ]),O⟩
  intro fI a H
  try have p28:=dF fI
  refine kP H (Kc K5 (SR fun _ dG=>Rm O (Rm O (Rm O (Ra O (Ra O (av dG O ?_)))))));clear H K5 dG;intro a H;refine aU ?_;refine (bK H results62 (.cons (aG H O) (.cons (aG H O) (.cons (aG H O) .nil))) ?_).1
  first|(exfalso;omega)|exact H.rt ⟨by simp only [eF];repeat (first|rw [dS]|rw [aZ]),O⟩
 intro h5 a H
 try have p5:=dF h5
 refine kP H (SR fun _ dR=>Rm O (Rc O (Rm O (Sp 11 O ?_ ?_)))) <;> clear H
 ·intro h11 a H
  try have oI:=dT h11
  refine kH H (aO h11 O (Pt h11 O (av dR O (Ct O O (SC (bO K3 O (SQ fun _ fu=>SR fun _ gF=>Rm O (Kz gF (SB (SR fun _ fU=>Rc O (av fU O (Cd O ?_ ?_)))))))))))) <;> clear H dR K3 gF fU
  ·intro h22 a H
   try have mX:=dT h22
   refine kP H (SC (bO fu O (SR fun _ jd=>Rm O (Rm O (Rm O (Ra O (Ra O (av jd O ?_))))))));clear H fu jd;intro a H;refine aU ?_;refine (bK H results62 (.cons (aG H O) (.cons (aG H O) (.cons (aG H O) .nil))) ?_).1
   first|(exfalso;omega)|exact H.rt ⟨by simp only [eF];repeat (first|rw [dS]|rw [aZ]),O⟩
  intro h22 a H
  try have mX:=dF h22
  refine kP H (SR fun _ jf=>Rc O (av jf O (Cd O ?_ ?_))) <;> clear H jf
  ·intro aQ a H
   try have gP:=dT aQ
   refine kP H (SC (bO fu O (SR fun _ iF=>Rm O (Rm O (Rm O (Ra O (Ra O (av iF O ?_))))))));clear H fu iF;intro a H;refine aU ?_;refine (bK H results62 (.cons (aG H O) (.cons (aG H O) (.cons (aG H O) .nil))) ?_).1
   first|(exfalso;omega)|exact H.rt ⟨by simp only [eF];repeat (first|rw [dS]|rw [aZ]),O⟩
  intro aQ a H
  try have gP:=dF aQ
  refine kP H (SR fun _ jM=>Rc O (av jM O (Cd O ?_ ?_))) <;> clear H jM
  ·intro fV a H
   try have p26:=dT fV
   refine kP H (SC (bO fu O (SR fun _ iI=>Rm O (Rm O (Rm O (Ra O (Ra O (av iI O ?_))))))));clear H fu iI;intro a H;refine aU ?_;refine (bK H results62 (.cons (aG H O) (.cons (aG H O) (.cons (aG H O) .nil))) ?_).1
   first|(exfalso;omega)|exact H.rt ⟨by simp only [eF];repeat (first|rw [dS]|rw [aZ]),O⟩
  intro fV a H
  try have p26:=dF fV
  refine kP H (SR fun _ lJ=>Rc O (av lJ O (Cd O ?_ ?_))) <;> clear H lJ
  ·intro fI a H
   try have p28:=dT fI
   refine kP H (SC (bO fu O (SR fun _ lK=>Rm O (Rm O (Rm O (Ra O (Ra O (av lK O ?_))))))));clear H fu lK;intro a H;refine aU ?_;refine (bK H results62 (.cons (aG H O) (.cons (aG H O) (.cons (aG H O) .nil))) ?_).1
   first|(exfalso;omega)|exact H.rt ⟨by simp only [eF];repeat (first|rw [dS]|rw [aZ]),O⟩
  intro fI a H
  try have p28:=dF fI
  refine kP H (Kc fu (SR fun _ oh=>Rm O (Rm O (Rm O (Ra O (Ra O (av oh O ?_)))))));clear H fu oh;intro a H;refine aU ?_;refine (bK H results62 (.cons (aG H O) (.cons (aG H O) (.cons (aG H O) .nil))) ?_).1
  first|(exfalso;omega)|exact H.rt ⟨by simp only [eF];repeat (first|rw [dS]|rw [aZ]),O⟩
 intro h11 a H
 try have oI:=dF h11
 refine kH H (YM h11 O (YC h11 O (Pf h11 O (av dR O (Cd O ?_ ?_))))) <;> clear H dR
 ·intro h8 a H
  try have p8:=dT h8
  refine kP H (SC (bO K3 O (SQ fun _ jE=>SR fun _ mM=>Rm O (Kz mM (SB (SR fun _ nI=>Rc O (av nI O (Cd O ?_ ?_)))))))) <;> clear H K3 mM nI
  ·intro h22 a H
   try have mX:=dT h22
   refine kP H (SC (bO jE O (SR fun _ lM=>Rm O (Rm O (Rm O (Ra O (Ra O (av lM O ?_))))))));clear H jE lM;intro a H;refine aU ?_;refine (bK H results62 (.cons (aG H O) (.cons (aG H O) (.cons (aG H O) .nil))) ?_).1
   first|(exfalso;omega)|exact H.rt ⟨by simp only [eF];repeat (first|rw [dS]|rw [aZ]),O⟩
  intro h22 a H
  try have mX:=dF h22
  refine kP H (SR fun _ qy=>Rc O (av qy O (Cd O ?_ ?_))) <;> clear H qy
  ·intro aQ a H
   try have gP:=dT aQ
   refine kP H (SC (bO jE O (SR fun _ qz=>Rm O (Rm O (Rm O (Ra O (Ra O (av qz O ?_))))))));clear H jE qz;intro a H;refine aU ?_;refine (bK H results62 (.cons (aG H O) (.cons (aG H O) (.cons (aG H O) .nil))) ?_).1
   first|(exfalso;omega)|exact H.rt ⟨by simp only [eF];repeat (first|rw [dS]|rw [aZ]),O⟩
  intro aQ a H
  try have gP:=dF aQ
  refine kP H (SR fun _ nJ=>Rc O (av nJ O (Cd O ?_ ?_))) <;> clear H nJ
  ·intro fV a H
   try have p26:=dT fV
   refine kP H (SC (bO jE O (SR fun _ lN=>Rm O (Rm O (Rm O (Ra O (Ra O (av lN O ?_))))))));clear H jE lN;intro a H;refine aU ?_;refine (bK H results62 (.cons (aG H O) (.cons (aG H O) (.cons (aG H O) .nil))) ?_).1
   first|(exfalso;omega)|exact H.rt ⟨by simp only [eF];repeat (first|rw [dS]|rw [aZ]),O⟩
  intro fV a H
  try have p26:=dF fV
  refine kP H (SR fun _ rz=>Rc O (av rz O (Cd O ?_ ?_))) <;> clear H rz
  ·intro fI a H
   try have p28:=dT fI
   refine kP H (SC (bO jE O (SR fun _ rC=>Rm O (Rm O (Rm O (Ra O (Ra O (av rC O ?_))))))));clear H jE rC;intro a H;refine aU ?_;refine (bK H results62 (.cons (aG H O) (.cons (aG H O) (.cons (aG H O) .nil))) ?_).1
   first|(exfalso;omega)|exact H.rt ⟨by simp only [eF];repeat (first|rw [dS]|rw [aZ]),O⟩
  intro fI a H
  try have p28:=dF fI
  refine kP H (Kc jE (SR fun _ tJ=>Rm O (Rm O (Rm O (Ra O (Ra O (av tJ O ?_)))))));clear H jE tJ;intro a H;refine aU ?_;refine (bK H results62 (.cons (aG H O) (.cons (aG H O) (.cons (aG H O) .nil))) ?_).1
  first|(exfalso;omega)|exact H.rt ⟨by simp only [eF];repeat (first|rw [dS]|rw [aZ]),O⟩
 intro h8 a H
 try have p8:=dF h8
 refine kP H (SR fun _ nK=>Rm O (Rc O (av nK O (Cd O ?_ ?_)))) <;> clear H nK
 ·intro lC a H
  try have oK:=dT lC
  refine kP H (SC (bO K3 O (SQ fun _ nL=>SR fun _ sj=>Rm O (Kz sj (SB (SR fun _ wR=>Rc O (av wR O (Cd O ?_ ?_)))))))) <;> clear H K3 sj wR
  ·intro h22 a H
   try have mX:=dT h22
   refine kP H (SC (bO nL O (SR fun _ sw=>Rm O (Rm O (Rm O (Ra O (Ra O (av sw O ?_))))))));clear H nL sw;intro a H;refine aU ?_;refine (bK H results62 (.cons (aG H O) (.cons (aG H O) (.cons (aG H O) .nil))) ?_).1
   first|(exfalso;omega)|exact H.rt ⟨by simp only [eF];repeat (first|rw [dS]|rw [aZ]),O⟩
  intro h22 a H
  try have mX:=dF h22
  refine kP H (SR fun _ wS=>Rc O (av wS O (Cd O ?_ ?_))) <;> clear H wS
  ·intro aQ a H
   try have gP:=dT aQ
   refine kP H (SC (bO nL O (SR fun _ wT=>Rm O (Rm O (Rm O (Ra O (Ra O (av wT O ?_))))))));clear H nL wT;intro a H;refine aU ?_;refine (bK H results62 (.cons (aG H O) (.cons (aG H O) (.cons (aG H O) .nil))) ?_).1
   first|(exfalso;omega)|exact H.rt ⟨by simp only [eF];repeat (first|rw [dS]|rw [aZ]),O⟩
  intro aQ a H
  try have gP:=dF aQ
  refine kP H (SR fun _ Az=>Rc O (av Az O (Cd O ?_ ?_))) <;> clear H Az
  ·intro fV a H
   try have p26:=dT fV
   refine kP H (SC (bO nL O (SR fun _ yu=>Rm O (Rm O (Rm O (Ra O (Ra O (av yu O ?_))))))));clear H nL yu;intro a H;refine aU ?_;refine (bK H results62 (.cons (aG H O) (.cons (aG H O) (.cons (aG H O) .nil))) ?_).1
   first|(exfalso;omega)|exact H.rt ⟨by simp only [eF];repeat (first|rw [dS]|rw [aZ]),O⟩
  intro fV a H
  try have p26:=dF fV
  refine kP H (SR fun _ AA=>Rc O (av AA O (Cd O ?_ ?_))) <;> clear H AA
  ·intro fI a H
   try have p28:=dT fI
   refine kP H (SC (bO nL O (SR fun _ vN=>Rm O (Rm O (Rm O (Ra O (Ra O (av vN O ?_))))))));clear H nL vN;intro a H;refine aU ?_;refine (bK H results62 (.cons (aG H O) (.cons (aG H O) (.cons (aG H O) .nil))) ?_).1
   first|(exfalso;omega)|exact H.rt ⟨by simp only [eF];repeat (first|rw [dS]|rw [aZ]),O⟩
  intro fI a H
  try have p28:=dF fI
  refine kP H (Kc nL (SR fun _ yw=>Rm O (Rm O (Rm O (Ra O (Ra O (av yw O ?_)))))));clear H nL yw;intro a H;refine aU ?_;refine (bK H results62 (.cons (aG H O) (.cons (aG H O) (.cons (aG H O) .nil))) ?_).1
  first|(exfalso;omega)|exact H.rt ⟨by simp only [eF];repeat (first|rw [dS]|rw [aZ]),O⟩
 intro lC a H
 try have oK:=dF lC
 refine kP H (SR fun _ vO=>Rm O (Rc O (av vO O (Cd O ?_ ?_)))) <;> clear H vO
 ·intro h18 a H
  try have nY:=dT h18
  refine kP H (SC (bO K3 O (SQ fun _ rD=>SR fun _ AB=>Rm O (Kz AB (SB (SR fun _ AJ=>Rc O (av AJ O (Cd O ?_ ?_)))))))) <;> clear H K3 AB AJ
  ·intro h22 a H
   try have mX:=dT h22
   refine kP H (SC (bO rD O (SR fun _ AL=>Rm O (Rm O (Rm O (Ra O (Ra O (av AL O ?_))))))));clear H rD AL;intro a H;refine aU ?_;refine (bK H results62 (.cons (aG H O) (.cons (aG H O) (.cons (aG H O) .nil))) ?_).1
   first|(exfalso;omega)|exact H.rt ⟨by simp only [eF];repeat (first|rw [dS]|rw [aZ]),O⟩
  intro h22 a H
  try have mX:=dF h22
  refine kP H (SR fun _ vP=>Rc O (av vP O (Cd O ?_ ?_))) <;> clear H vP
  ·intro aQ a H
   try have gP:=dT aQ
   refine kP H (SC (bO rD O (SR fun _ Fh=>Rm O (Rm O (Rm O (Ra O (Ra O (av Fh O ?_))))))));clear H rD Fh;intro a H;refine aU ?_;refine (bK H results62 (.cons (aG H O) (.cons (aG H O) (.cons (aG H O) .nil))) ?_).1
   first|(exfalso;omega)|exact H.rt ⟨by simp only [eF];repeat (first|rw [dS]|rw [aZ]),O⟩
  intro aQ a H
  try have gP:=dF aQ
  refine kP H (SR fun _ Fj=>Rc O (av Fj O (Cd O ?_ ?_))) <;> clear H Fj
  ·intro fV a H
   try have p26:=dT fV
   refine kP H (SC (bO rD O (SR fun _ Fp=>Rm O (Rm O (Rm O (Ra O (Ra O (av Fp O ?_))))))));clear H rD Fp;intro a H;refine aU ?_;refine (bK H results62 (.cons (aG H O) (.cons (aG H O) (.cons (aG H O) .nil))) ?_).1
   first|(exfalso;omega)|exact H.rt ⟨by simp only [eF];repeat (first|rw [dS]|rw [aZ]),O⟩
  intro fV a H
  try have p26:=dF fV
  refine kP H (SR fun _ Fq=>Rc O (av Fq O (Cd O ?_ ?_))) <;> clear H Fq
  ·intro fI a H
   try have p28:=dT fI
   refine kP H (SC (bO rD O (SR fun _ zu=>Rm O (Rm O (Rm O (Ra O (Ra O (av zu O ?_))))))));clear H rD zu;intro a H;refine aU ?_;refine (bK H results62 (.cons (aG H O) (.cons (aG H O) (.cons (aG H O) .nil))) ?_).1
   first|(exfalso;omega)|exact H.rt ⟨by simp only [eF];repeat (first|rw [dS]|rw [aZ]),O⟩
  intro fI a H
  try have p28:=dF fI
  refine kP H (Kc rD (SR fun _ Fu=>Rm O (Rm O (Rm O (Ra O (Ra O (av Fu O ?_)))))));clear H rD Fu;intro a H;refine aU ?_;refine (bK H results62 (.cons (aG H O) (.cons (aG H O) (.cons (aG H O) .nil))) ?_).1
  first|(exfalso;omega)|exact H.rt ⟨by simp only [eF];repeat (first|rw [dS]|rw [aZ]),O⟩
 intro h18 a H
 try have nY:=dF h18
 refine kP H (SC (bO K3 O (SQ fun _ uL=>SR fun _ Fv=>Rm O (Kz Fv (SB (SR fun _ Fw=>Rc O (av Fw O (Cd O ?_ ?_)))))))) <;> clear H K3 Fv Fw
 ·intro h22 a H
  try have mX:=dT h22
  refine kP H (SC (bO uL O (SR fun _ QT=>Rm O (Rm O (Rm O (Ra O (Ra O (av QT O ?_))))))));clear H uL QT;intro a H;refine aU ?_;refine (bK H results62 (.cons (aG H O) (.cons (aG H O) (.cons (aG H O) .nil))) ?_).1
  first|(exfalso;omega)|exact H.rt ⟨by simp only [eF];repeat (first|rw [dS]|rw [aZ]),O⟩
 intro h22 a H
 try have mX:=dF h22
 refine kP H (SR fun _ QU=>Rc O (av QU O (Cd O ?_ ?_))) <;> clear H QU
 ·intro aQ a H
  try have gP:=dT aQ
  refine kP H (SC (bO uL O (SR fun _ QV=>Rm O (Rm O (Rm O (Ra O (Ra O (av QV O ?_))))))));clear H uL QV;intro a H;refine aU ?_;refine (bK H results62 (.cons (aG H O) (.cons (aG H O) (.cons (aG H O) .nil))) ?_).1
  first|(exfalso;omega)|exact H.rt ⟨by simp only [eF];repeat (first|rw [dS]|rw [aZ]),O⟩
 intro aQ a H
 try have gP:=dF aQ
 refine kP H (SR fun _ QW=>Rc O (av QW O (Cd O ?_ ?_))) <;> clear H QW
 ·intro fV a H
  try have p26:=dT fV
  refine kP H (SC (bO uL O (SR fun _ QX=>Rm O (Rm O (Rm O (Ra O (Ra O (av QX O ?_))))))));clear H uL QX;intro a H;refine aU ?_;refine (bK H results62 (.cons (aG H O) (.cons (aG H O) (.cons (aG H O) .nil))) ?_).1
  first|(exfalso;omega)|exact H.rt ⟨by simp only [eF];repeat (first|rw [dS]|rw [aZ]),O⟩
 intro fV a H
 try have p26:=dF fV
 refine kP H (SR fun _ QY=>Rc O (av QY O (Cd O ?_ ?_))) <;> clear H QY
 ·intro fI a H
  try have p28:=dT fI
  refine kP H (SC (bO uL O (SR fun _ QZ=>Rm O (Rm O (Rm O (Ra O (Ra O (av QZ O ?_))))))));clear H uL QZ;intro a H;refine aU ?_;refine (bK H results62 (.cons (aG H O) (.cons (aG H O) (.cons (aG H O) .nil))) ?_).1
  first|(exfalso;omega)|exact H.rt ⟨by simp only [eF];repeat (first|rw [dS]|rw [aZ]),O⟩
 intro fI a H
 try have p28:=dF fI
 refine kP H (Kc uL (SR fun _ Q0=>Rm O (Rm O (Rm O (Ra O (Ra O (av Q0 O ?_)))))));clear H uL Q0;intro a H;refine aU ?_;refine (bK H results62 (.cons (aG H O) (.cons (aG H O) (.cons (aG H O) .nil))) ?_).1
 first|(exfalso;omega)|exact H.rt ⟨by simp only [eF];repeat (first|rw [dS]|rw [aZ]),O⟩
def iC (s:ByteArray) (i:Nat):Int:=if h:i < s.size then (s[i].toNat:Int) else 0
theorem sH {s:ByteArray} {i:Nat} (h:i < s.size):iC s i=(s[i].toNat:Int):=by simp [iC,h]
def mo (s:ByteArray) (at_ n:Nat):(fuel k:Nat)->(low high p:Int)->Int × Nat × Bool
 | 0,k,_,_,p=>(p,k,true)
 | f+1,k,low,high,p =>
  if n<=k then (p,k,true)
  else if s.size<=at_+k∨iC s (at_+k) < low∨high < iC s (at_+k) then (0,k,false)
  else mo s at_ n f (k+1) 128 191 (qF .or .i64 (IntKind.i64.wrap (p*2 ^ 6)) (qF .and .i64 (iC s (at_+k)) 63))
def gB (s:ByteArray) (at_:Nat):Int × Nat × Bool :=
 let b:=iC s at_
 let t:=eF b
 if t.2.2=0 then (0,0,false) else if t.2.2=1 then (b,1,true)
 else mo s at_ t.2.2.toNat 4 1 t.1 t.2.1 (qF .and .i64 b ((127:Int).fdiv (2 ^ t.2.2.toNat)))
theorem Qr (n:UInt8):IntKind.i64.wrap (n.toNat:Int)=(n.toNat:Int):=Aa V (by have:=n.toNat_lt;omega)
set_option maxHeartbeats 1000000 in
theorem SL (G:GH) (w0:World) (hG:Hold G w0) (s:ByteArray) (i:Nat) (hi:i < s.size) (hs:s.size < 4611686018427387904) :
  Calls prog 42 #[.string s,.int .i64 i] w0 (bQ w0 G fun v G'=>v=.tuple #[.int .i64 (gB s i).1,.int .i64 (gB s i).2.1,.bool (gB s i).2.2]∧G=G'):=by
 have hb:=sH hi;obtain ⟨n,hn⟩:∃ n:Nat,(eF (iC s i)).2.2=(n:Int):=⟨(eF (iC s i)).2.2.toNat,by have:=Qc (iC s i);omega⟩
 have hn4:n<=4:=by have:=Qc (iC s i);omega
 refine eN [(0,_),(1,_)] func42 O ntmps42 O O hG ?_;intro a H;refine kP H (SR fun _ K1=>Ra O (Ra O (av K1 O (SR fun _ K2=>Rm O (Rm O ?_)))));clear H K1;intro a H;refine CW _ kL H wn O O O (by first|assumption|omega) rfl ?_;clear H;intro a H;refine kH H (Ra O ?_);clear H;intro a H;rw [<- hb] at H;refine K2 _ _ ?_;clear K2;refine kP H (SR fun _ K3=>Rm O ?_);clear H;intro a H;refine s_call abG H wn O (ahT _ _ H.ro _) O ?_;clear H;rintro v16 _ a w ⟨rfl,rfl⟩ - H;refine kH H (Rm O ?_);clear H;intro a H;(iterate 3 refine eZ H wn O O O ?_;clear H;intro a H);refine kH H (Ra O (Ra O (av K3 O (SQ fun _ K4=>SR fun _ K5=>Rm O (Kz K5 (SB (SR fun _ K6=>Rc O (av K6 O (Cd O ?_ ?_))))))))) <;> clear H K3 K5 K6
 ·intro h21 a H
  try have mH:=dT h21
  refine kP H (SR fun _ K7=>Ra O (Ra O (av K7 O ?_)));clear H K7;intro a H;refine aU ?_;skip;refine (bK H results42 (.cons (aG H O) (.cons (aG H O) (.cons (aG H O) .nil))) ?_).1;exact H.rt ⟨by simp [gB,mH],O⟩
 intro h21 a H
 try have mH:=dF h21
 refine kP H (SR fun _ K8=>Rc O (av K8 O (Cd O ?_ ?_))) <;> clear H K8
 ·intro h23 a H
  try have CS:=dT h23
  refine kP H (SR fun _ K9=>Rm O ?_);clear H;intro a H;refine Bv (iC s i) Am Qw H wn O (by rw [hb];exact Qr _) O ?_;clear H;intro a H;refine kH H (Ra O (Ra O (av K9 O ?_)));clear H K9;intro a H;refine aU ?_;skip;refine (bK H results42 (.cons (aG H O) (.cons (aG H O) (.cons (aG H O) .nil))) ?_).1;exact H.rt ⟨by simp [gB,mH,CS],O⟩
 intro h23 a H
 try have CS:=dF h23
 refine kP H (Kc K4 (SR fun _ aP=>Rm O ?_));clear H K4;intro a H;refine Bv (iC s i) Am Qw H wn O (by rw [hb];exact Qr _) O ?_;clear H;intro a H;refine kH H (Rm O ?_);clear H;intro a H;refine PE n H wn O O (by rw [hn]) (by show n<=64;omega) rfl ?_;clear H;intro a H;refine KD O H wn O O O ?_;clear H;intro a H;refine kH H (av aP O (SQ fun _ aT=>SR fun _ bH=>av bH O (SB ?_)));clear H aP bH;intro a H;skip;refine dY (ι:=Nat × Int × Int × Int) (Tc:=[(0,_),(1,_),(10,_)]) (Lc:=[]) (fun gh=>[(4,.int .i64 gh.2.2.2),(5,.int .i64 (gh.1:Int)),(8,.int .u8 gh.2.1),(9,.int .u8 gh.2.2.1)]) (fun gh=>[]) (fun gh=>G) (fun gh=>gh.1<=4∧gB s i=mo s i n (5 - gh.1) gh.1 gh.2.1 gh.2.2.1 gh.2.2.2) (fun gh=>5 - gh.1) ((1,_,_,_)) (by exact H.sub ⟨O,O,O,O,O,O,O,aI⟩) ?_ ?_
 ·refine ⟨V,?_⟩;simp only [gB,hn];rw [aZ,aZ];rfl
 clear H;rintro ⟨k,low,high,p⟩ a w hI H;dsimp only at hI H;obtain ⟨hk,hdec⟩:=hI;dsimp only [lca,bW] at H;refine kP H (SQ fun _ bG=>SR fun _ bX=>Rm O (Rm O (Rc O (Kz bX (Cd O ?_ ?_))))) <;> clear H bX
 ·intro kG a H
  try have p34:=dT kG
  refine kP H (Kc bG (SQ fun _ dG=>SB (SQ fun _ dR=>SR fun _ fu=>Rm O (Rm O (Rd O (Rm O (Rv kL O (Rc O (Rm O (Sp 43 O ?_ ?_)))))))))) <;> clear H bG
  ·intro h43 a H
   try have p43:=dT h43
   refine kH H (aV h43 O (aO h43 O (aO h43 O (Pt h43 O (Rm O (aV O O (aO O O (aO O O (Pt O O (Kz fu (Ct O O (SR fun _ gF=>Rm O (Ra O (Ra O (av gF O ?_)))))))))))))));clear H fu gF;intro a H;refine aU ?_
   have hfin:gB s i=(if n<=k then (p,k,true) else (0,k,false)):=by
    rw [hdec];have e:5 - k=(4 - k)+1:=by omega
    rw [e,mo]
    by_cases hk2:n<=k
    ·rw [aN hk2,aN hk2]
    rw [aL hk2,aL hk2,aN (by first|omega|(rw [sH V];omega))]
   refine (bK H results42 (.cons (aG H O) (.cons (aG H O) (.cons (aG H O) .nil))) ?_).1;exact H.rt ⟨by rw [hfin];first|rw [dS]|rw [aZ],O⟩
  intro h43 a H
  try have p43:=dF h43
  refine kH H (YM h43 O (YM h43 O (YM h43 O ?_)));clear H;intro a H;refine nQ _ H (wg H O O h43) O O O V V O ?_;clear H;intro a H;refine CW _ kL H (wg H O O h43) O O O (by first|assumption|omega) rfl ?_;clear H;intro a H;refine kH H (YM h43 O (YC h43 O (Pf h43 O (Rm O (Sp 52 O ?_ ?_))))) <;> clear H
  ·intro aR a H
   try have p52:=dT aR
   refine kH H (aV aR O (aO aR O (aO aR O (Pt aR O (Kz fu (Ct O O (SR fun _ fU=>Rm O (Ra O (Ra O (av fU O ?_))))))))));clear H fu fU;intro a H;refine aU ?_
   have hfin:gB s i=(if n<=k then (p,k,true) else (0,k,false)):=by
    rw [hdec];have e:5 - k=(4 - k)+1:=by omega
    rw [e,mo]
    by_cases hk2:n<=k
    ·rw [aN hk2,aN hk2]
    rw [aL hk2,aL hk2,aN (by first|omega|(rw [sH V];omega))]
   refine (bK H results42 (.cons (aG H O) (.cons (aG H O) (.cons (aG H O) .nil))) ?_).1;exact H.rt ⟨by rw [hfin];first|rw [dS]|rw [aZ],O⟩
  intro aR a H
  try have p52:=dF aR
  refine kH H (YM aR O (YM aR O (YM aR O ?_)));clear H;intro a H;refine nQ _ H (wg H O O aR) O O O V V O ?_;clear H;intro a H;refine CW _ kL H (wg H O O aR) O O O (by first|assumption|omega) rfl ?_;clear H;intro a H;refine kH H (YM aR O (YC aR O (Pf aR O (Kz fu (Cd O ?_ ?_))))) <;> clear H fu
  ·intro iH a H
   try have p60:=dT iH
   refine kP H (SR fun _ jd=>Rm O (Ra O (Ra O (av jd O ?_))));clear H jd;intro a H;refine aU ?_
   have hfin:gB s i=(if n<=k then (p,k,true) else (0,k,false)):=by
    rw [hdec];have e:5 - k=(4 - k)+1:=by omega
    rw [e,mo]
    by_cases hk2:n<=k
    ·rw [aN hk2,aN hk2]
    rw [aL hk2,aL hk2,aN (by first|omega|(rw [sH V];omega))]
   refine (bK H results42 (.cons (aG H O) (.cons (aG H O) (.cons (aG H O) .nil))) ?_).1;exact H.rt ⟨by rw [hfin];first|rw [dS]|rw [aZ],O⟩
  intro iH a H
  try have p60:=dF iH
  refine kP H (Kc dR (SR fun _ jf=>Rm O ?_));clear H dR;intro a H;refine agU _ H wn O O O Y O ?_;clear H;intro a H;refine kH H (Rm O (Rm O (Rm O (Rd O ?_))));clear H;intro a H;refine CW _ kL H wn O O O (by first|assumption|omega) rfl ?_;clear H;intro a H;refine Bv (iC s (i+k)) Am Qw H wn O (by rw [sH V];exact Qr _) O ?_;clear H;intro a H;(iterate 2 refine KD O H wn O O O ?_;clear H;intro a H);refine kH H (av jf O (SC (Ra O (bO dG O (SC (Rm O (Rd O (Ra O ?_))))))));clear H jf dG;intro a H;refine aj ?_;refine bE ((k+1,128,191,qF .or .i64 (IntKind.i64.wrap (p*2 ^ 6)) (qF .and .i64 (iC s (i+k)) 63))) (by exact H.sub ⟨O,O,O,O,O,O,O,aI⟩) ?_
  (try dsimp only);refine ⟨V,?_⟩
  have e:5 - k=(5 - (k+1))+1:=by omega
  rw [hdec,e,mo,aZ,sH V,aZ]
 intro kG a H
 try have p34:=dF kG
 refine dJ ?_;refine aT _ _ ?_;clear aT;refine kP H (SR fun _ iF=>Rm O (Rm O (Ra O (Ra O (av iF O ?_)))));clear H iF;intro a H;refine aU ?_
 have hfin:gB s i=(if n<=k then (p,k,true) else (0,k,false)):=by
  rw [hdec];have e:5 - k=(4 - k)+1:=by omega
  rw [e,mo]
  by_cases hk2:n<=k
  ·rw [aN hk2,aN hk2]
  rw [aL hk2,aL hk2,aN (by first|omega|(rw [sH V];omega))]
 refine (bK H results42 (.cons (aG H O) (.cons (aG H O) (.cons (aG H O) .nil))) ?_).1;exact H.rt ⟨by rw [hfin];first|rw [dS]|rw [aZ],O⟩
theorem SH (s:ByteArray) (at_ n:Nat):∀ (f k:Nat) (low high p:Int),n<=k+f->k<=n->k<=(mo s at_ n f k low high p).2.1∧(mo s at_ n f k low high p).2.1<=n∧((mo s at_ n f k low high p).2.2=true->at_+k<=s.size->at_+(mo s at_ n f k low high p).2.1<=s.size)
 | 0,k,low,high,p,h1,h2=>by simp only [mo];omega
 | f+1,k,low,high,p,h1,h2=>by
  unfold mo
  split
  ·simp only [];omega
  split
  ·simp only [];omega
  have ih:=SH s at_ n f (k+1) 128 191 (qF .or .i64 (IntKind.i64.wrap (p*2 ^ 6)) (qF .and .i64 (iC s (at_+k)) 63)) V V;refine ⟨by have:=ih.1;omega,ih.2.1,fun h3 h4=>ih.2.2 h3 V⟩
theorem DR (s:ByteArray) (i:Nat) (hi:i < s.size):(gB s i).2.1<=4∧((gB s i).2.2=true->1<=(gB s i).2.1∧i+(gB s i).2.1<=s.size):=by
 have ht:=Qc (iC s i)
 unfold gB
 simp only []
 split
 ·simp
 split
 ·simp;omega
 have:=SH s i (eF (iC s i)).2.2.toNat 4 1 (eF (iC s i)).1 (eF (iC s i)).2.1 (qF .and .i64 (iC s i) ((127:Int).fdiv (2 ^ (eF (iC s i)).2.2.toNat))) V V;refine ⟨V,fun h=>⟨V,this.2.2 h V⟩⟩
def iN (s:ByteArray) (i:Nat):Int :=
 if h:i < s.size then (if h2:(gB s i).2.2=true then iN s (i+(gB s i).2.1) else i) else -1
 termination_by s.size - i
 decreasing_by have:=(DR s i h).2 h2;omega
theorem acW (G:GH) (w0:World) (hG:Hold G w0) (s:ByteArray) (hs:s.size < 4611686018427387904) :
  Calls prog 27 #[.string s] w0 (bQ w0 G fun v G'=>v=.int .i64 (iN s 0)∧G=G'):=by
 refine eN [(0,_)] func27 O ntmps27 O O hG ?_;intro a H;refine kP H (SR fun _ K1=>av K1 O (SQ fun _ K2=>SR fun _ K3=>av K3 O (SB ?_)));clear H K1 K3;intro a H;skip;refine dY (ι:=Nat) (Tc:=[(0,_)]) (Lc:=[]) (fun gh=>[(3,.int .i64 (gh:Int))]) (fun gh=>[]) (fun gh=>G) (fun gh=>gh<=s.size∧iN s 0=iN s gh) (fun gh=>s.size - gh) (0) (by exact H.sub ⟨O,O,aI⟩) ?_ ?_
 ·exact ⟨V,O⟩
 clear H;intro i a w hI H;obtain ⟨hk,hf⟩:=hI;dsimp only [lca,bW] at H;refine kP H (SQ fun _ K4=>SR fun _ K5=>Rm O (Rm O (Rv kL O (Rc O (Kz K5 (Cd O ?_ ?_)))))) <;> clear H K5
 ·intro h10 a H
  try have mG:=dT h10
  refine kP H (Kc K4 (SB (SR fun _ K6=>Rm O (Rm O ?_))));clear H K4;intro a H;refine s_call Tq H wn O (SL _ _ H.ro s i V hs) O ?_;clear H;rintro v14 _ a w ⟨rfl,rfl⟩ - H;have hd:=DR s i V;refine kH H (Rm O ?_);clear H;intro a H;(iterate 3 refine eZ H wn O O O ?_;clear H;intro a H);refine kH H (Ra O (Ra O (av K6 O (SQ fun _ K7=>SR fun _ K8=>Rm O (Rn O (Kz K8 (Cd O ?_ ?_))))))) <;> clear H K6 K8
  ·intro h19 a H
   try have Bo:=dT h19
   exact kP H (SR fun _ K9=>Rm O (av K9 O (LR results27 O fun H=>H.rt ⟨by rw [hf,iN,dif_pos V,dif_neg (by simpa using h19)],O⟩)))
  intro h19 a H
  try have Bo:=dF h19
  refine kP H (Kc K7 (SC (Rm O (Rm O (Rd O (Ra O ?_))))));clear H K7;intro a H;refine aj ?_;refine OO ((i+(gB s i).2.1)) (by exact H.sub ⟨O,O,aI⟩) ?_ ?_
  ·have h1:(gB s i).2.2=true:=by simpa using h19
   have h2:=hd.2 h1;refine ⟨V,?_⟩;rw [hf,iN,dif_pos V,dif_pos h1]
  have h1:(gB s i).2.2=true:=by simpa using h19
  have h2:=hd.2 h1
  omega
 intro h10 a H
 try have mG:=dF h10
 refine dJ ?_;refine K2 _ _ ?_;clear K2;exact kP H (SR fun _ aP=>av aP O (LR results27 O fun H=>H.rt ⟨by rw [hf,iN,dif_neg V],O⟩))
def gq (s:ByteArray):Bool:=decide (iN s 0 < 0)
theorem Ih (G:GH) (w0:World) (hG:Hold G w0) (s:ByteArray) (hs:s.size < 4611686018427387904) :
  Calls prog 14 #[.string s] w0 (bQ w0 G fun v G'=>v=.bool (gq s)∧G=G'):=by
 refine eN [(0,_)] func14 O ntmps14 O O hG ?_;intro a H;refine kP H (SR fun _ K1=>av K1 O (SR fun _ K2=>Rm O ?_));clear H K1;intro a H;refine s_call abk H wn O (acW _ _ H.ro s hs) O ?_;clear H;rintro v4 _ a w ⟨rfl,rfl⟩ - H;exact kH H (Rc O (av K2 O (LR results14 O fun H=>H.rt ⟨O,O⟩)))
def lW (s:ByteArray) (i:Nat):Nat :=
 if i < s.size then (if qF .and .u8 (iC s i) 192=128 then 0 else 1)+lW s (i+1) else 0
 termination_by s.size - i
theorem Sr (s:ByteArray):∀ (n i:Nat),s.size - i=n->lW s i<=n
 | 0,i,h=>by rw [lW,aZ];exact bS _
 | n+1,i,h=>by
  have ih:=Sr s n (i+1) V;rw [lW,dS]
  split <;> omega
def oW (s:ByteArray):Nat:=if gq s then lW s 0 else 0
def EX (s:ByteArray):Int:=if gq s then 0 else 12
theorem MK (s:ByteArray):oW s<=s.size:=by unfold oW;have:=Sr s s.size 0 V;split <;> omega
theorem aaq (G:GH) (w0:World) (hG:Hold G w0) (s:ByteArray) (hs:s.size < 4611686018427387904) :
  Calls prog 63 #[.string s] w0 (bQ w0 G fun v G'=>v=.tuple #[vi (oW s),vi (EX s)]∧G=G'):=by
 refine eN [(0,_)] func63 O ntmps63 O O hG ?_;intro a H;refine kP H (SR fun _ K1=>Ra O (av K1 O (SQ fun _ K2=>SR fun _ K3=>Rm O ?_)));clear H K1;intro a H;refine s_call FX H wn O (Ih _ _ H.ro s hs) O ?_;clear H;rintro v6 _ a w ⟨rfl,rfl⟩ - H;refine kH H (Rn O (Kz K3 (Cd O ?_ ?_))) <;> clear H K3
 ·intro h7 a H
  refine kP H (SR fun _ K4=>Ra O (av K4 O ?_));clear H K4;intro a H;refine aU ?_;refine (bK H results63 (.cons (aG H O) (.cons (aG H O) .nil)) ?_).1;exact H.rt ⟨by simp [oW,EX,show gq s=false by simpa using h7],O⟩
 intro h7 a H
 try have p7:=dF h7
 refine kP H (Kc K2 (SQ fun _ K5=>SR fun _ K6=>Rm O (Rv kL O (Rm O (Kz K6 (SB ?_))))));clear H K2 K6;intro a H;skip;refine dY (ι:=Nat × Nat) (Tc:=[(0,_),(9,_)]) (Lc:=[]) (fun gh=>[(2,vi gh.2),(10,vi gh.1)]) (fun gh=>[]) (fun gh=>G) (fun gh=>gh.1<=s.size∧gh.2<=gh.1∧gh.2+lW s gh.1=oW s) (fun gh=>s.size - gh.1) ((0,0)) (by exact H.sub ⟨O,O,O,O,aI⟩) ?_ ?_
 ·exact ⟨V,V,by simp [oW,show gq s=true by simpa using h7]⟩
 clear H;rintro ⟨i,n⟩ a w hI H;dsimp only at hI H;obtain ⟨hk,hn,hf⟩:=hI;dsimp only [lca,bW] at H;refine kP H (SR fun _ K7=>Rc O (Kz K7 (SQ fun _ K8=>Cd O ?_ ?_))) <;> clear H K7
 ·intro h11 a H
  try have oI:=dT h11
  refine kP H (Kc K8 (SQ fun _ K9=>SB (SR fun _ aP=>Rm O (av aP O (SR fun _ aT=>Rm O (Rm O ?_))))));clear H K8 aP;intro a H;refine CW _ kL H wn O O O (by first|assumption|omega) rfl ?_;clear H;intro a H;refine KD O H wn O O O ?_;clear H;intro a H;refine kH H (Rc O (Kz aT (Cd O ?_ ?_))) <;> clear H aT
  ·intro eO a H
   try have mW:=dT eO
   refine kP H (SC (Rm O (Rd O (bO K9 O (SC (Rd O (Rm O ?_)))))));clear H K9;intro a H;refine aj ?_;refine bE ((i+1,n+1)) (by exact H.sub ⟨O,O,O,O,aI⟩) ?_
   (try dsimp only);rw [<- sH V] at mW;rw [lW,dS,aL mW] at hf;exact ⟨V,V,V⟩
  intro eO a H
  try have mW:=dF eO
  refine kP H (Kc K9 (SC (Rd O (Rm O ?_))));clear H K9;intro a H;refine aj ?_;refine bE ((i+1,n)) (by exact H.sub ⟨O,O,O,O,aI⟩) ?_
  (try dsimp only);rw [<- sH V,DC] at mW;rw [lW,dS,aN mW] at hf;exact ⟨V,V,V⟩
 intro h11 a H
 try have oI:=dF h11
 refine dJ ?_;refine K5 _ _ ?_;clear K5;refine kP H (SR fun _ bH=>Rm O (Ra O (av bH O ?_)));clear H bH;intro a H;refine aU ?_;refine (bK H results63 (.cons (aG H O) (.cons (aG H O) .nil)) ?_).1;exact H.rt ⟨by rw [lW,aZ,qD] at hf;rw [hf];simp [EX,show gq s=true by simpa using h7],O⟩
section
def aW (e sz:Nat) (v:ak) (n:Nat) (xs:List ak) (Lo:OL):Prop :=
 xs.length=n*sz∧((v=.slice none 0 0∧n=0∧Lo=[])∨∃ b cap cur,v=.slice (some ⟨b,0,none⟩) n cap∧Lo=[(b,.cells cur e (0,0))]∧n<=cap∧cap<=maxLen∧cur.size=cap*sz∧cur.toList.take (n*sz)=xs)
theorem aW.nil {e sz:Nat}:aW e sz (.slice none 0 0) 0 [] []:=⟨by simp,.inl ⟨O,O,O⟩⟩
theorem aW.shape {e sz n:Nat} {v:ak} {xs:List ak} {Lo:OL} (h:aW e sz v n xs Lo):∃ A c,v=.slice A n c∧n<=c∧c<=maxLen:=by
 rcases h.2 with ⟨rfl,rfl,_⟩|⟨b,cap,cur,rfl,_,h1,h2,_,_⟩
 ·exact ⟨none,0,O,bS _,by simp [maxLen]⟩
 ·exact ⟨_,cap,O,h1,h2⟩
section
variable {N:Nat} {D:List Deferred} {w0:World} {F:Nat->Prop} {G0 G:GH} {L Li Lo:OL} {T:List (Nat × ak)}
variable {r:Option Nat} {P:Program} {ops:Array Oper} {Q:Exit->Act->World->Prop} {rest:List Oper} {a:Act} {w w':World}
variable {d:Nat} {ty:TypeId} {pos:String} {aM:Array Edge} {g:Option (Nat × Bool)}
theorem aW.owns {e sz n:Nat} {v:ak} {xs:List ak} (h:aW e sz v n xs Lo) (H:Hp w0 F G0 G (Li++Lo) w):w.ownsRow 0 e sz v n xs:=by
 refine ⟨h.1,?_⟩
 rcases h.2 with ⟨h1,h2,_⟩|⟨b,cap,cur,h1,h2,h3,h4,h5,h6⟩
 ·exact .inl ⟨h1,h2⟩
 ·exact .inr ⟨b,cap,cur,h1,fC _,H.own (b,.cells cur e (0,0)) (by simp [h2]),h3,h4,h5,h6⟩
theorem Sg {e sz n n':Nat} {v v':ak} {xs xs':List ak} (h:aW e sz v n xs Lo) (ho:jN G Lo w) (hown:w'.ownsRow 0 e sz v' n' xs') (hg:w.grownBy w' v.ownBlock) (hb:v'.ownBlock=v.ownBlock∨v'.ownBlock=some w.heap.size) :
  ∃ jg,aW e sz v' n' xs' jg∧Change w w' G G Lo jg:=by
 have hrow:∀ k,v.ownBlock=some k->∃ p∈Lo,p.1=k:=by
  intro k hk
  rcases h.2 with ⟨h1,_,_⟩|⟨b,cap,cur,h1,h2,_⟩
  ·rw [h1] at hk;cases hk
  ·rw [h1] at hk;simp only [Value.ownBlock,kZ] at hk;exact ⟨_,by rw [h2];exact List.mem_singleton_self _,hk⟩
 have hro:∀ k o,G k=some o->w'.heap[k]?=some o:=by
  intro k o hk
  rw [hg.block k (lt_of_heap (ho.ro k o hk)) (fun e'=>by
   obtain ⟨p,hp,e2⟩:=hrow k e'.symm
   have:=ho.sep p hp
   rw [e2,hk] at this;cases this)]
  exact ho.ro k o hk
 have hfr:∀ k,k < w.heap.size->(∀ p∈Lo,p.1≠k)->w'.heap[k]?=w.heap[k]?:=fun k hk hn=>hg.block k hk fun e'=>by
  obtain ⟨p,hp,e2⟩:=hrow k e'.symm
  exact hn p hp e2
 rcases hown.2 with ⟨h1,h2⟩|⟨b,cap,cur,h1,_,h3,h4,h5,h6,h7⟩
 ·exact ⟨[],⟨hown.1,.inl ⟨h1,h2,O⟩⟩,⟨hg.os,hg.tape,hg.output,hg.size,hfr,fun _ _ h=>h,fun _ _ h=>.inl h,⟨hro,fun _ h=>(by cases h),fun _ h=>(by cases h),List.Pairwise.nil⟩,fun _ h=>(by cases h)⟩⟩
 ·refine ⟨[(b,.cells cur e (0,0))],⟨hown.1,.inr ⟨b,cap,cur,h1,O,h4,h5,h6,h7⟩⟩,⟨hg.os,hg.tape,hg.output,hg.size,hfr,fun _ _ h=>h,fun _ _ h=>.inl h,⟨hro,fun p hp=>?_,fun p hp=>?_,by simp⟩,fun p hp=>?_⟩⟩
  ·rw [uP.1 hp];exact h3
  ·rw [uP.1 hp]
   cases hgb:G b with
   | none=>rfl
   | some o =>
    exfalso
    rw [h1] at hb
    rcases hb with hb|hb
    ·obtain ⟨p',hp',e2⟩:=hrow b (by rw [<- hb];rfl)
     have:=ho.sep p' hp'
     rw [e2,hgb] at this;cases this
    ·simp only [Value.ownBlock,kZ] at hb
     have:=lt_of_heap (ho.ro b o hgb)
     omega
  ·rw [uP.1 hp]
   rw [h1] at hb
   rcases hb with hb|hb
   ·obtain ⟨p',hp',e2⟩:=hrow b (by rw [<- hb];rfl)
    exact .inr ⟨p',hp',e2⟩
   ·simp only [Value.ownBlock,kZ] at hb
    exact .inl (by simp only;omega)
theorem dX {t e:TypeId} {sz bytes:Nat} {zero:List ak} {agg:Bool} (hs:P.underlying t=some (.slice e)) (ht:Ty P e sz bytes zero agg) (hz:Nat.beq zero.length sz=true) (hsz:Nat.blt 0 sz=true) {x y:Operand} {v:ak} {n m c b2 o2:Nat} {xs news:List ak} (H:St N D w0 F G0 G (Li++Lo) T a w)
  (hw:Region.wanted ⟨some d,.call { callee:=.builtin .append,args:=#[x,y],argTypes:=#[t,t] },ty,pos,aM,g⟩ (yielded ops a.tmps)=true) (hx:ev T x=some v) (hy:ev T y=some (.slice (some ⟨b2,o2,none⟩) m c)) (hrow:aW e sz v n xs Lo)
  (hn:news.length=m*sz) (hc:∀ j u,news[j]?=some u->w.cell? ⟨b2,o2+j,none⟩=some u) (h1:news.all Value.oneCell'=true) (h63:n+m<=maxLen) (hb:(n+m)*bytes<=140737488355328) (hd:Nat.blt d N=true)
  (k:∀ v' jg a' w',aW e sz v' (n+m) (xs++news) jg->St N D w0 F G0 G (Li++jg) ((d,v') :: T) a' w'->WL r P ops Q rest a' w') :
  WL r P ops Q (⟨some d,.call { callee:=.builtin .append,args:=#[x,y],argTypes:=#[t,t] },ty,pos,aM,g⟩ :: rest) a w:=by
 obtain ⟨i,z,hi,hi1,hi2,hi3,hi4⟩:=ht.parts
 obtain ⟨v',w2,hrun,r1,r2,_,r4⟩:=run_append_own_at (P:=P) w 0 t ty e i z sz bytes hs hi hi3 hi1 hi2 (by rw [hi4];simpa using vQ hz) (Eq.mp Nat.blt_eq hsz) v n xs (hrow.owns H.hp) ⟨b2,o2,none⟩ m c news hn (fun j u hj=>by rw [add_lit];exact hc j u hj) (fun u hu=>gW.1 h1 u hu) h63 hb (fC _)
 obtain ⟨jg,hr,hch⟩:=Sg hrow H.hp.owns r1 r2 r4
 refine dZ (v:=v') (w':=w2) hw O ?_ (k v' jg _ w2 hr (H.put hd v' (H.hp.change hch)))
 simp [execOp,resolve,invoke,builtin,H.ev hx,H.ev hy,dB,hrun]
theorem KC {t e:TypeId} {sz bytes:Nat} {zero:List ak} {agg:Bool} (hs:P.underlying t=some (.slice e)) (ht:Ty P e sz bytes zero agg) {x y:Operand} {A B:Option Addr} {n c c':Nat} (H:St N D w0 F G0 G L T a w)
  (hw:Region.wanted ⟨some d,.call { callee:=.builtin .append,args:=#[x,y],argTypes:=#[t,t] },ty,pos,aM,g⟩ (yielded ops a.tmps)=true) (hx:ev T x=some (.slice A n c)) (hy:ev T y=some (.slice B 0 c')) (hnc:n<=c) (hd:Nat.blt d N=true)
  (k:∀ a',St N D w0 F G0 G L ((d,.slice A n c) :: T) a' w->WL r P ops Q rest a' w) :
  WL r P ops Q (⟨some d,.call { callee:=.builtin .append,args:=#[x,y],argTypes:=#[t,t] },ty,pos,aM,g⟩ :: rest) a w:=by
 refine dZ (v:=.slice A n c) (w':=w) hw O ?_ (k _ (H.put hd _ H.hp))
 have h1:∀ w,(Builtin.firstCells sz 0 (.slice B 0 c')).run P w=.ok #[] w:=by intro w;cases B <;> simp [Builtin.firstCells,loadCells,loadCellsFrom]
 have hle:n+0<=c:=by omega
 cases A <;> simp [execOp,resolve,invoke,builtin,H.ev hx,H.ev hy,dB,Builtin.append_,lF hs,ht.wC,Builtin.lenOf,hnc,h1,storeCells]
theorem Px {t u:TypeId} {e:TypeId} (hs:P.underlying t=some (.slice e)) {x:Operand} {A:Option Addr} {n c:Nat} (H:St N D w0 F G0 G L T a w) (hw:Region.wanted ⟨some d,.binOp .eql t x (.const (.slice none 0 0)) u,ty,pos,aM,g⟩ (yielded ops a.tmps)=true) (hx:ev T x=some (.slice A n c)) (hd:Nat.blt d N=true)
  (k:∀ a',St N D w0 F G0 G L ((d,.bool A.isNone) :: T) a' w->WL r P ops Q rest a' w):WL r P ops Q (⟨some d,.binOp .eql t x (.const (.slice none 0 0)) u,ty,pos,aM,g⟩ :: rest) a w:=by
 refine dZ (v:=.bool A.isNone) (w':=w) hw O ?_ (k _ (H.put hd _ H.hp))
 have h1:(Op.equal t (.slice A n c) (.slice none 0 0)).run P w=.ok A.isNone w:=by
  show (Op.equalIn (9999+1) t (.slice A n c) (.slice none 0 0)).run P w=_
  rw [Op.equalIn.eq_2,dB,lF hs]
  cases A <;> rfl
 have h2:(do eqGuard .eql t x (.const (.slice none 0 0)) (.slice A n c) (.slice none 0 0);binOp .eql t (.slice A n c) (.slice none 0 0):Sem ak).run P w=.ok (.bool A.isNone) w:=by
  have e:(do eqGuard .eql t x (.const (.slice none 0 0)) (.slice A n c) (.slice none 0 0);binOp .eql t (.slice A n c) (.slice none 0 0):Sem ak)=(do pure (.bool (<- Op.equal t (.slice A n c) (.slice none 0 0))):Sem ak):=rfl
  rw [e,dB,h1];rfl
 have e0:execOp a.eval ⟨some d,.binOp .eql t x (.const (.slice none 0 0)) u,ty,pos,aM,g⟩=(do pure (.value (<- (do eqGuard .eql t x (.const (.slice none 0 0)) (.slice A n c) (.slice none 0 0);binOp .eql t (.slice A n c) (.slice none 0 0):Sem ak))):Sem Next):=by
  simp only [execOp,H.ev hx];rfl
 rw [e0,dB,h2]
 rfl
theorem Pw {t e:TypeId} {sz bytes:Nat} {zero:List ak} {agg:Bool} (hs:P.underlying t=some (.slice e)) (ht:Ty P e sz bytes zero agg) (H:St N D w0 F G0 G L T a w) (hw:Region.wanted ⟨some d,.buildSlice t 0 #[],ty,pos,aM,g⟩ (yielded ops a.tmps)=true) (hd:Nat.blt d N=true)
  (k:∀ b a' w',w0.heap.size<=b->St N D w0 F G0 G ((b,.cells #[] e (0,0)) :: L) ((d,.slice (some ⟨b,0,none⟩) 0 0) :: T) a' w'->WL r P ops Q rest a' w'):WL r P ops Q (⟨some d,.buildSlice t 0 #[],ty,pos,aM,g⟩ :: rest) a w:=by
 refine dZ (v:=.slice (some ⟨w.heap.size,0,none⟩) 0 0) (w':=w.alloc (.cells #[] e (0,0))) hw O ?_ (k _ _ _ H.hp.size (H.put hd _ (H.hp.alloc _)))
 have h0:¬ (0*sz > 2 ^ 24):=by simp
 simp [execOp,Instr.buildSlice,dB,lF hs,ht.wC,Instr.fill,newRow,newObj,Sem.run]
 congr 2
 apply Array.eq_empty_of_size_eq_zero
 simp
theorem aW.empty {e sz b:Nat}:aW e sz (.slice (some ⟨b,0,none⟩) 0 0) 0 [] [(b,.cells #[] e (0,0))] :=
 ⟨by simp,.inr ⟨b,0,#[],O,O,bS _,by simp [maxLen],by simp,by simp⟩⟩
theorem yV {x:Operand} {fv:ak} {xs:List Operand} {vs:List ak} {ts:Array TypeId} {R:ak->GH->Prop} (H:St N D w0 F G0 G L T a w) (hw:Region.wanted ⟨some d,.call { callee:=.value x,args:=xs.toArray,argTypes:=ts },ty,pos,aM,g⟩ (yielded ops a.tmps)=true)
  (hf:ev T x=some fv) (hx:evs T xs=some vs) (hc:uK P fv vs w (bQ w G R)) (hd:Nat.blt d N=true)
  (k:∀ v G' a' w',R v G'->(∀ k o,G k=some o->G' k=some o)->St N D w0 F G0 G' L ((d,v) :: T) a' w'->WL r P ops Q rest a' w'):WL r P ops Q (⟨some d,.call { callee:=.value x,args:=xs.toArray,argTypes:=ts },ty,pos,aM,g⟩ :: rest) a w:=by
 refine Qz (nx:=_) (R:=bQ w G R) hw O O ?_ ?_
 ·have h1:=H.evs hx
  have e:(execOp a.eval ⟨some d,.call { callee:=.value x,args:=xs.toArray,argTypes:=ts },ty,pos,aM,g⟩)=(do let d <- Deferred.ofValue fv vs.toArray;invoke d.target d.args:Sem Next):=by
   simp only [execOp,resolve,H.ev hf,List.map_toArray,h1]
  rw [e]
  exact hc.go
 ·rintro e w' ⟨v,G',rfl,hb,hx,hR⟩
  exact ⟨v,O,k v G' _ w' hR hx.1 (H.put hd v (H.hp.RF hb hx))⟩
end
def cO (G:GH) (sz:Nat) (rows:List (List Dat)) (xs:List ak):Prop :=
 ∃ css:List (List ak),xs=css.flatten∧css.length=rows.length∧∀ (j:Nat) (r:List Dat) (cs:List ak),rows[j]?=some r->css[j]?=some cs->aY G r cs∧cs.length=sz
theorem cO.nil {G:GH} {sz:Nat}:cO G sz [] []:=⟨[],O,O,fun j r cs h=>by simp at h⟩
theorem cO.mono {G G':GH} (hm:∀ k o,G k=some o->G' k=some o) {sz:Nat} {rows:List (List Dat)} {xs:List ak} (h:cO G sz rows xs):cO G' sz rows xs:=by
 obtain ⟨css,h1,h2,h3⟩:=h
 exact ⟨css,h1,h2,fun j r cs hr hc=>⟨(h3 j r cs hr hc).1.mono hm,(h3 j r cs hr hc).2⟩⟩
theorem cO.snoc {G:GH} {sz:Nat} {rows:List (List Dat)} {xs:List ak} (h:cO G sz rows xs) {q:List Dat} {cs:List ak} (hr:aY G q cs) (hl:cs.length=sz):cO G sz (rows++[q]) (xs++cs):=by
 obtain ⟨css,h1,h2,h3⟩:=h
 refine ⟨css++[cs],by simp [h1],by simp [h2],fun j r c hj hc=>?_⟩
 by_cases hlt:j < rows.length
 ·rw [rH hlt] at hj
  rw [rH V] at hc
  exact h3 j r c hj hc
 ·have N7:j=rows.length:=by
   have:=(gN.1 hj).1
   simp at this;omega
  subst N7
  rw [sG (bS _),Nat.sub_self] at hj
  rw [sG V,h2,Nat.sub_self] at hc
  simp only [zx,kZ] at hj hc
  subst hj;subst hc
  exact ⟨hr,hl⟩
theorem TT {sz:Nat}:∀ {css:List (List ak)} {j:Nat} {cs:List ak},(∀ (j:Nat) (cs:List ak),css[j]?=some cs->cs.length=sz)->css[j]?=some cs->∀ i,i < sz->css.flatten[j*sz+i]?=cs[i]?
 | [],_,_,_,h,_,_=>by simp at h
 | c :: css,0,cs,hl,h,i,hi=>by
  simp only [zx,kZ] at h
  subst h
  have:=hl 0 c O
  simp only [List.flatten_cons,Nat.zero_mul,eH]
  rw [rH V]
 | c :: css,j+1,cs,hl,h,i,hi=>by
  have hc:=hl 0 c O
  have ih:=TT (css:=css) (j:=j) (cs:=cs) (fun j cs hj=>hl (j+1) cs (by simpa using hj)) (by simpa using h) i hi
  simp only [List.flatten_cons]
  rw [sG (by rw [hc,Nat.succ_mul];omega),<- ih]
  congr 1
  rw [hc,Nat.succ_mul];omega
theorem lS.cat {G:GH} {sz b:Nat}:∀ {rows:List (List Dat)} {o:Nat},lS G sz b o rows->∃ xs:List ak,xs.length=rows.length*sz∧(∀ j u,xs[j]?=some u->aS G b (o+j)=some u)∧xs.all Value.oneCell'=true∧cO G sz rows xs
 | [],o,_=>⟨[],by simp,fun j u h=>by simp at h,O,cO.nil⟩
 | r :: rs,o,h=>by
  simp only [lS] at h
  obtain ⟨⟨cs,h1,h2,h3⟩,h4⟩:=h
  obtain ⟨xs,g1,g2,g3,css,g4,g5,g6⟩:=lS.cat h4
  refine ⟨cs++xs,by simp [h1,g1,Nat.succ_mul,Nat.add_comm],fun j u hj=>?_,by simp [h3.one,g3],cs :: css,by simp [g4],by simp [g5],fun j q c hj hc=>?_⟩
  ·by_cases hlt:j < cs.length
   ·rw [rH hlt] at hj;exact h2 j u hj
   ·rw [sG V] at hj
    rw [<- g2 _ u hj];congr 1;omega
  ·cases j with
   | zero=>simp only [zx,kZ] at hj hc;subst hj;subst hc;exact ⟨h3,h1⟩
   | succ j=>exact g6 j q c (by simpa using hj) (by simpa using hc)
theorem aF.cells {G:GH} {sz:Nat} {rows:List (List Dat)} {A:Option Addr} {n c:Nat} (h:aF G (.sl sz rows) (.slice A n c)):n=rows.length∧n<=c∧c<=maxLen∧(A=none->rows=[]) ∧
  (rows≠[]->∃ b o xs,A=some ⟨b,o,none⟩∧xs.length=n*sz∧(∀ j u,xs[j]?=some u->aS G b (o+j)=some u)∧xs.all Value.oneCell'=true∧cO G sz rows xs):=by
 simp only [aF] at h
 obtain ⟨A',c',h1,h2,h3,h4⟩:=h
 injection h1 with e1 e2 e3
 subst e1;subst e2;subst e3
 refine ⟨O,h2,h3,fun hn=>?_,fun hne=>?_⟩
 ·apply Classical.byContradiction
  intro hne
  obtain ⟨b,o,e,_⟩:=h4 hne
  rw [hn] at e;cases e
 ·obtain ⟨b,o,e,hr⟩:=h4 hne
  obtain ⟨xs,g1,g2,g3,g4⟩:=hr.cat
  exact ⟨b,o,xs,e,g1,g2,g3,g4⟩
theorem aF.lD {G:GH} {sz:Nat} {A:Option Addr} {n c:Nat} (h:n=0) (hc:c<=maxLen):aF G (.sl sz []) (.slice A n c):=by
 subst h
 simp only [aF]
 exact ⟨A,c,O,fC _,hc,fun h=>absurd O h⟩
theorem aF.rV {G:GH} {e sz n b cap:Nat} {cur:Array ak} {xs:List ak} {rows:List (List Dat)} (hb:G b=some (.cells cur e (0,0))) (hl:rows.length=n) (hc:n<=cap) (hm:cap<=maxLen) (ht:cur.toList.take (n*sz)=xs) (iq:cO G sz rows xs) :
  aF G (.sl sz rows) (.slice (some ⟨b,0,none⟩) n cap):=by
 obtain ⟨css,h1,h2,h3⟩:=iq
 simp only [aF]
 refine ⟨_,cap,by rw [hl],V,hm,fun _=>⟨b,0,O,lS.mk fun k q hk=>?_⟩⟩
 have hkl:k < css.length:=by rw [h2];exact (gN.1 hk).1
 have hcs:css[k]?=some css[k]:=iR hkl
 obtain ⟨g1,g2⟩:=h3 k q _ hk hcs
 refine ⟨css[k],g2,fun j u hj=>?_,g1⟩
 have hjs:j < sz:=by rw [<- g2];exact (gN.1 hj).1
 have hlen:∀ (j:Nat) (cs:List ak),css[j]?=some cs->cs.length=sz:=by
  intro j cs hj
  have hjl:j < rows.length:=by rw [<- h2];exact (gN.1 hj).1
  exact (h3 j _ cs (iR hjl) hj).2
 have hf:=TT hlen hcs j hjs
 rw [<- h1,<- ht,hj] at hf
 unfold aS
 rw [hb]
 simp only
 have hlt:k*sz+j < n*sz:=by
  have:(k+1)*sz<=n*sz:=Nat.mul_le_mul_right _ V
  rw [Nat.succ_mul] at this;omega
 rw [tX,aN hlt] at hf
 simpa using hf
theorem St.kF {N:Nat} {D:List Deferred} {w0:World} {F:Nat->Prop} {G0 G:GH} {Li Lo:OL} {T:List (Nat × ak)} {a:Act} {w:World} {e sz n:Nat} {v:ak} {xs:List ak} {rows:List (List Dat)} (H:St N D w0 F G0 G (Li++Lo) T a w)
  (hrow:aW e sz v n xs Lo) (hl:rows.length=n) (iq:cO G sz rows xs):∃ G',(∀ k o,G k=some o->G' k=some o)∧aF G' (.sl sz rows) v∧St N D w0 F G0 G' Li T a w:=by
 rcases hrow.2 with ⟨rfl,h2,rfl⟩|⟨b,cap,cur,rfl,rfl,h3,h4,h5,h6⟩
 ·refine ⟨G,fun _ _ h=>h,?_,by simpa using H⟩
  have:rows=[]:=List.eq_nil_of_length_eq_zero V
  subst this
  simp only [aF]
  exact ⟨none,0,by simp,by simp,by simp [maxLen],fun h=>absurd O h⟩
 ·have hi:(Li++[(b,Obj.cells cur e (0,0))])[Li.length]?=some (b,.cells cur e (0,0)):=by simp
  have hn:=H.Ue _ hi
  have hm:∀ k o,G k=some o->(G.add b (.cells cur e (0,0))) k=some o:=fun k o h=>GH.Iw G hn k o h
  refine ⟨_,hm,aF.rV (GH.Mc G b _) hl h3 h4 h6 (iq.mono hm),?_⟩
  have:=H.giveUp _ hi
  rwa [List.eraseIdx_append_of_length_le (bS _),Nat.sub_self,List.eraseIdx_zero,List.tail_cons,lU] at this
theorem St.kE {N:Nat} {D:List Deferred} {w0:World} {F:Nat->Prop} {G0 G:GH} {L:OL} {T:List (Nat × ak)} {a:Act} {w:World} {b:Nat} {o:Obj} (H:St N D w0 F G0 G ((b,o) :: L) T a w) :
  ∃ G',(∀ k o,G k=some o->G' k=some o)∧G' b=some o∧St N D w0 F G0 G' L T a w :=
 ⟨G.add b o,GH.Iw G (H.Ue 0 rfl),GH.Mc G b o,H.giveUp 0 rfl⟩
theorem St.nu {N:Nat} {D:List Deferred} {w0:World} {F:Nat->Prop} {G0 G:GH} {L:OL} {T:List (Nat × ak)} {a:Act} {w:World} {b e sz:Nat} {cs:List ak} {d:List Dat} (H:St N D w0 F G0 G ((b,.cells cs.toArray e (0,0)) :: L) T a w) (hl:cs.length=sz) (hr:aY G d cs) :
  ∃ G',(∀ k o,G k=some o->G' k=some o)∧aF G' (.sl sz [d]) (.slice (some ⟨b,0,none⟩) 1 1)∧St N D w0 F G0 G' L T a w:=by
 obtain ⟨G',hm,hb,H⟩:=H.kE
 exact ⟨G',hm,aF.rV (xs:=cs) hb O (bS _) Y (by simp [<- hl]) (by simpa using (cO.nil (sz:=sz)).snoc (hr.mono hm) hl),H⟩
structure Now {α:Type} (xs:List AP) (P:α->AP) (J:Nat->GH->OL->Prop) (je j:Nat) (A:List α) (g:GH) (L:OL):Prop where
 now:J j g L
 rem:∀ i a,A[i]?=some a->xs[j+i]?=some (P a)
 len:j+A.length=je
theorem Now.head {α:Type} {xs:List AP} {P:α->AP} {J:Nat->GH->OL->Prop} {je j:Nat} {x:α} {A:List α} {g:GH} {L:OL} (h:Now xs P J je j (x :: A) g L):xs[j]?=some (P x):=h.rem 0 x O
theorem Now.step {α:Type} {xs:List AP} {P:α->AP} {J:Nat->GH->OL->Prop} {je j:Nat} {x:α} {A:List α} {g g':GH} {L L':OL} (h:Now xs P J je j (x :: A) g L) (hJ:J (j+1) g' L'):Now xs P J je (j+1) A g' L' :=
 ⟨hJ,fun i a hi=>by rw [show j+1+i=j+(i+1) by omega];exact h.rem (i+1) a (by simpa using hi),by have:=h.len;simp only [ko] at this;omega⟩
theorem Now.part {α:Type} {xs:List AP} {P:α->AP} {J:Nat->GH->OL->Prop} {je j:Nat} {A B:List α} {g:GH} {L:OL} (h:Now xs P J je j (A++B) g L):∀ i a,A[i]?=some a->xs[j+i]?=some (P a):=fun i a hi=>h.rem i a (by rw [rH (gN.1 hi).1];exact hi)
theorem Now.jump {α:Type} {xs:List AP} {P:α->AP} {J:Nat->GH->OL->Prop} {je j:Nat} {A B:List α} {g g':GH} {L L':OL} (h:Now xs P J je j (A++B) g L) (hJ:J (j+A.length) g' L'):Now xs P J je (j+A.length) B g' L' :=
 ⟨hJ,fun i a hi=>by rw [Nat.add_assoc];exact h.rem (A.length+i) a (by rw [sG (Nat.le_add_right _ _),Mg];exact hi),by have:=h.len;simp only [fQ] at this;omega⟩
theorem Hp.fK {R:ak->GH->OL->Prop} {v:ak} {w0 w:World} {G0 G:GH} {L0 L L':OL} (h:Hp w0 (Fr w0 L0) G0 G L w) (hs:L'.Sublist L) (hR:R v G L'):jO w0 G0 L0 R (.returned v) w:=(h.drop hs).dP hR
section
variable {N:Nat} {D:List Deferred} {w0:World} {F:Nat->Prop} {G0 G:GH} {L Li Lo:OL} {T:List (Nat × ak)}
variable {r:Option Nat} {P:Program} {ops:Array Oper} {Q:Exit->Act->World->Prop} {rest:List Oper} {a:Act} {w:World}
variable {d:Nat} {ty:TypeId} {pos:String} {aM:Array Edge} {g:Option (Nat × Bool)}
theorem WI {t e:TypeId} {sz bytes:Nat} {zero:List ak} {agg:Bool} (hs:P.underlying t=some (.slice e)) (ht:Ty P e sz bytes zero agg) (hz:Nat.beq zero.length sz=true) (hsz:Nat.blt 0 sz=true) {x y:Operand} {v:ak} {n m c:Nat} {A:Option Addr} {xs:List ak} {rows:List (List Dat)} (H:St N D w0 F G0 G (Li++Lo) T a w)
  (hw:Region.wanted ⟨some d,.call { callee:=.builtin .append,args:=#[x,y],argTypes:=#[t,t] },ty,pos,aM,g⟩ (yielded ops a.tmps)=true) (hx:ev T x=some v) (hy:ev T y=some (.slice A m c)) (hrow:aW e sz v n xs Lo)
  (hrep:aF G (.sl sz rows) (.slice A m c)) (h63:n+m<=maxLen) (hb:(n+m)*bytes<=140737488355328) (hd:Nat.blt d N=true)
  (k:∀ v' jg news a' w',aW e sz v' (n+m) (xs++news) jg->cO G sz rows news->St N D w0 F G0 G (Li++jg) ((d,v') :: T) a' w'->WL r P ops Q rest a' w') :
  WL r P ops Q (⟨some d,.call { callee:=.builtin .append,args:=#[x,y],argTypes:=#[t,t] },ty,pos,aM,g⟩ :: rest) a w:=by
 obtain ⟨hn,hc1,hc2,hnil,JZ⟩:=hrep.cells
 by_cases hr0:rows=[]
 ·have hm0:m=0:=by rw [hn,hr0];rfl
  subst hm0
  obtain ⟨A',c',rfl,h1,h2⟩:=hrow.shape
  refine KC hs ht H hw hx hy h1 hd fun a' H'=>?_
  exact k _ Lo [] a' w (by simpa using hrow) (by rw [hr0];exact cO.nil) H'
 ·obtain ⟨b,o,news,rfl,hxl,hxc,hx1,iq⟩:=JZ hr0
  exact dX hs ht hz hsz H hw hx hy hrow hxl (fun j u hj=>H.hp.aS (hxc j u hj)) hx1 h63 hb hd fun v' jg a' w' hr' H'=>k v' jg news a' w' hr' iq H'
theorem WU {t e:TypeId} {sz bytes:Nat} {zero:List ak} {agg:Bool} (hs:P.underlying t=some (.slice e)) (ht:Ty P e sz bytes zero agg) {x y z:Operand} {A:Option Addr} {n c:Nat} (lo hi:Nat) {p q:Int} (H:St N D w0 F G0 G L T a w)
  (hw:Region.wanted ⟨some d,.slice t x (some y) (some z) none,ty,pos,aM,g⟩ (yielded ops a.tmps)=true) (hx:ev T x=some (.slice A n c)) (hy:ev T y=some (.int .i64 p)) (hz:ev T z=some (.int .i64 q)) (hp:p=(lo:Int)) (hq:q=(hi:Int)) (h1:lo<=hi) (h2:hi<=c) (hd:Nat.blt d N=true)
  (k:∀ a',St N D w0 F G0 G L ((d,.slice (if c=lo then A else A.map (·.add (lo*sz))) (hi - lo) (c - lo)) :: T) a' w->WL r P ops Q rest a' w):WL r P ops Q (⟨some d,.slice t x (some y) (some z) none,ty,pos,aM,g⟩ :: rest) a w:=by
 subst hp;subst hq
 refine dZ (v:=.slice (if c=lo then A else A.map (·.add (lo*sz))) (hi - lo) (c - lo)) (w':=w) hw O ?_ (k _ (H.put hd _ H.hp))
 simp [execOp,H.ev hx,H.ev hy,H.ev hz,Instr.sliceAt,Instr.slice,Instr.sliceBounds,Instr.sliceBound,dB,lF hs,ht.wC,asIntOf,h1,h2]
end
theorem aF.part {G:GH} {sz:Nat} {rows:List (List Dat)} {A:Option Addr} {n c:Nat} (h:aF G (.sl sz rows) (.slice A n c)) (lo hi:Nat) (h1:lo<=hi) (h2:hi<=rows.length) :
  aF G (.sl sz ((rows.drop lo).take (hi - lo))) (.slice (if c=lo then A else A.map (·.add (lo*sz))) (hi - lo) (c - lo)):=by
 obtain ⟨A',c',he,hc1,hc2,hg⟩:=h.slice
 injection he with e1 e2 e3
 subst e1;subst e3
 have hl:((rows.drop lo).take (hi - lo)).length=hi - lo:=by simp;omega
 simp only [aF]
 refine ⟨_,_,by rw [hl],by rw [hl];omega,V,fun hn=>?_⟩
 have hlt:lo < hi:=by
  rcases Nat.lt_or_ge lo hi with h|h
  ·exact h
  ·exact absurd (List.eq_nil_of_length_eq_zero (by rw [hl];omega)) hn
 obtain ⟨b,o,cs,hA,-⟩:=hg lo rows[lo] (by simp)
 subst hA
 refine ⟨b,o+lo*sz,by rw [aL V,rJ,add_lit],lS.mk fun k r hk=>?_⟩
 rw [tX] at hk
 split at hk
 ·rw [List.getElem?_drop] at hk
  obtain ⟨b',o',cs,hA,g1,g2,g3⟩:=hg (lo+k) r hk
  obtain ⟨rfl,rfl⟩:b=b'∧o=o':=by simpa using hA
  exact ⟨cs,g1,fun j u hj=>by rw [<- g2 j u hj];congr 1;rw [Nat.add_mul];omega,g3⟩
 ·cases hk
theorem cO.append {G:GH} {sz:Nat} {r1 r2:List (List Dat)} {x1 x2:List ak} (h1:cO G sz r1 x1) (h2:cO G sz r2 x2):cO G sz (r1++r2) (x1++x2):=by
 obtain ⟨c1,rfl,e1,f1⟩:=h1
 obtain ⟨c2,rfl,e2,f2⟩:=h2
 refine ⟨c1++c2,by simp,by simp [e1,e2],fun j r cs hr hc=>?_⟩
 by_cases hj:j < r1.length
 ·exact f1 j r cs (by rwa [rH hj] at hr) (by rwa [rH V] at hc)
 ·exact f2 (j - r1.length) r cs (by rwa [sG V] at hr) (by rwa [sG V,e1] at hc)
end
theorem hmx:prog.follows .mixedOrders=true:=by kernel_rfl
theorem pq:gL prog 58 0 0:=⟨Z⟩
theorem aC:Ty prog 3 1 8 [.int .i64 0] false:=⟨Z,Z⟩
theorem A9:gL prog 58 3 3:=⟨Z⟩
theorem iW:Ty prog 9 1 16 [.string ⟨#[]⟩] false:=⟨Z,Z⟩
theorem abH:bL 63:=bN func63 O
theorem iB:prog.underlying 22=some (.slice 58):=by kernel_rfl
theorem fB:Ty prog 58 11 176 [.int .i64 0,.int .i64 0,.int .i64 0,.string ⟨#[]⟩,.slice none 0 0,.int .i64 0,.int .i64 0,.slice none 0 0,.slice none 0 0,.slice none 0 0,.slice none 0 0] true:=⟨Z,Z⟩
theorem I9:bL 43:=bN func43 O
theorem wK:prog.underlying 49=some (.slice 215):=by kernel_rfl
theorem Dc:Ty prog 215 2 16 [.int .i64 0,.int .i64 0] true:=⟨Z,Z⟩
theorem wL:prog.underlying 50=some (.slice 218):=by kernel_rfl
theorem Df:Ty prog 218 2 16 [.int .i64 0,.int .i64 0] true:=⟨Z,Z⟩
theorem wM:prog.underlying 51=some (.slice 221):=by kernel_rfl
theorem Dg:Ty prog 221 4 32 [.int .i64 0,.int .i64 0,.int .i64 0,.bool false] true:=⟨Z,Z⟩
theorem wJ:Ty prog 55 5 88 [.slice none 0 0,.int .i64 0,.int .i64 0,.slice none 0 0,.slice none 0 0] true:=⟨Z,Z⟩
theorem Ci:gL prog 55 0 0:=⟨Z⟩
theorem Dh:Ty prog 49 1 24 [.slice none 0 0] false:=⟨Z,Z⟩
theorem aaQ:bL 111:=bN func111 O
theorem pW:gL prog 55 1 1:=⟨Z⟩
theorem Cg:gL prog 53 2 2:=⟨Z⟩
theorem Di:Ty prog 50 1 24 [.slice none 0 0] false:=⟨Z,Z⟩
theorem aaR:bL 112:=bN func112 O
theorem Ch:gL prog 53 3 3:=⟨Z⟩
theorem Dj:Ty prog 51 1 24 [.slice none 0 0] false:=⟨Z,Z⟩
theorem aaS:bL 113:=bN func113 O
theorem mK:prog.underlying 56=some (.slice 63):=by kernel_rfl
theorem jo:Ty prog 63 6 112 [.slice none 0 0,.int .i64 0,.int .i64 0,.slice none 0 0,.slice none 0 0,.slice none 0 0] true:=⟨Z,Z⟩
theorem qx:prog.underlying 61=some (.slice 80):=by kernel_rfl
theorem mY:Ty prog 80 7 120 [.int .i64 0,.slice none 0 0,.int .i64 0,.int .i64 0,.slice none 0 0,.slice none 0 0,.slice none 0 0] true:=⟨Z,Z⟩
def lH (x:aD):Nat:=if x.kind=1 then oW x.text else 1
def xX (x:aD):Int:=if x.kind=1 then EX x.text else 0
theorem KY (G:GH) (w0:World) (hG:Hold G w0) (x:aD) (i2 i3:Int) (p i5 i6 d l f r:ak) (hs:x.text.size < 4611686018427387904) :
  Calls prog 43 #[.agg #[vi x.kind,vi i2,vi i3,.string x.text,p,i5,i6,d,l,f,r]] w0 (bQ w0 G fun v G'=>v=.tuple #[vi (lH x),vi (xX x)]∧G=G'):=by
 refine eN [(0,_)] func43 O ntmps43 O O hG ?_;intro a H;refine gU (fun _ K1=>?_);refine jQ (cs:=[_,_,_,_,_,_,_,_,_,_,_]) H wn O O O ?_;clear H;intro b1 a w hb1 H;refine kH H (Ra O (av K1 O (SQ fun _ K2=>SR fun _ K3=>fG pq aC 0 O O (Rc O (Kz K3 (Cd O ?_ ?_)))))) <;> clear H K1 K3
 ·intro h6 a H
  try have p6:=dT h6
  refine kP H (SR fun _ K4=>Ra O (av K4 O ?_));clear H K4;intro a H;refine aU ?_;refine (bK H results43 (.cons (aG H O) (.cons (aG H O) .nil)) ?_).1;exact H.rt ⟨by simp only [lH,xX,aL p6];rfl,rfl⟩
 intro h6 a H
 try have p6:=dF h6
 refine kP H (Kc K2 (SR fun _ K5=>fG A9 iW 0 O O ?_));clear H K2;intro a H;refine s_call abH H wn O (aaq _ _ H.ro _ hs) O ?_;clear H;rintro v9 _ a w ⟨rfl,rfl⟩ - H;(iterate 2 refine eZ H wn O O O ?_;clear H;intro a H);refine kH H (Ra O (av K5 O ?_));clear H K5;intro a H;refine aU ?_;refine (bK H results43 (.cons (aG H O) (.cons (aG H O) .nil)) ?_).1;exact H.rt ⟨by rw [DC] at p6;simp only [lH,xX,aN p6],O⟩
def oC (l:List aD):Bool:=l.all fun x=>decide (xX x=0)
def gD:List aD->Nat
 | []=>0
 | x :: l=>lH x+gD l
def qd (l:List aD):Int:=if oC l then gD l else 0
def jW (l:List aD):Int:=if oC l then 0 else 12
def kC:List aD->Nat
 | []=>0
 | x :: l=>x.text.size+1+kC l
theorem KL:∀ l:List aD,gD l<=kC l
 | []=>bS _
 | x :: l=>by
  have:=KL l;have h2:=MK x.text
  simp only [gD,kC,lH];split <;> omega
theorem Qm {x:aD}:∀ {l:List aD},x∈l->x.text.size < kC l
 | [],h=>by cases h
 | y :: l,h=>by
  simp only [kC]
  rcases nT.1 h with rfl|h
  ·omega
  have:=Qm h;omega
theorem ahQ (l m:List aD):gD (l++m)=gD l+gD m:=by
 induction l with
 | nil=>simp [gD]
 | cons x l ih=>simp [gD,ih];omega
theorem ahR {l:List aD} {k:Nat} (h:k < l.length):gD (l.take (k+1))=gD (l.take k)+lH l[k]:=by
 rw [jq h,ahQ];simp [gD]
theorem Da (l m:List aD):kC (l++m)=kC l+kC m:=by
 induction l with
 | nil=>simp [kC]
 | cons x l ih=>simp [kC,ih];omega
theorem Qn (l:List aD) (k:Nat):kC (l.take k)<=kC l:=by
 have:=Da (l.take k) (l.drop k);rw [List.take_append_drop] at this;omega
theorem zL {G:GH} {l:List aD} {A:Option Addr} {k:Nat} (hk:k < l.length) (hg:∀ k r,(l.map aD.dat)[k]?=some r->∃ b o cs,A=some ⟨b,o,none⟩∧cs.length=11∧(∀ j u,cs[j]?=some u->aS G b (o+k*11+j)=some u)∧aY G r cs) :
  ∃ b o pA pn pc dA dn dc yA yn yc fA fn fc rA rn rc,A=some ⟨b,o,none⟩∧(∀ j u,[vi l[k].kind,vi l[k].code,vi l[k].id,.string l[k].text,.slice pA pn pc,vi l[k].head.marks.ins,vi l[k].head.marks.move,.slice dA dn dc,.slice yA yn yc,.slice fA fn fc,.slice rA rn rc][j]?=some u->aS G b (o+k*11+j)=some u) ∧
   og G l[k].head (.slice pA pn pc) (.slice dA dn dc) (.slice yA yn yc)∧aF G (.sl 11 (l[k].flow.map aD.dat)) (.slice fA fn fc)∧aF G (.sl 6 (l[k].rows.map dQ.dat)) (.slice rA rn rc):=by
 obtain ⟨b,o,cs,h1,h2,h3,h4⟩:=hg k l[k].dat (by simp [hk]);obtain ⟨pA,pn,pc,dA,dn,dc,yA,yn,yc,fA,fn,fc,rA,rn,rc,rfl,h5,h6,h7⟩:=h4.item;exact ⟨b,o,pA,pn,pc,dA,dn,dc,yA,yn,yc,fA,fn,fc,rA,rn,rc,h1,h3,h5,h6,h7⟩
theorem aaz {l:List aD} {k:Nat} (h:k < l.length):oC (l.take (k+1))=(oC (l.take k) && decide (xX l[k]=0)):=by
 unfold oC
 rw [jq h,List.all_append];simp
theorem aay {l:List aD} {k:Nat} (h:k < l.length) (hn:¬ xX l[k]=0):oC l=false:=by
 unfold oC
 rw [List.all_eq_false];exact ⟨l[k],dV h,by simpa using hn⟩
theorem J7:∀ l:List aD,l.length<=kC l
 | []=>bS _
 | x :: l=>by have:=J7 l;simp only [ko,kC];omega
theorem ES:∀ l:List aD,kC l<=cK l
 | []=>bS _
 | x :: l=>by
  have:=ES l;have h2:=oO x
  simp only [kC,cK,gV,fM] at *;omega
theorem Hl (G:GH) (w0:World) (hG:Hold G w0) (l:List aD) (v:ak) (hv:aF G (.sl 11 (l.map aD.dat)) v) (hz:cK l<=4294967296) :
  Calls prog 28 #[v] w0 (bQ w0 G fun v G'=>v=.tuple #[vi (qd l),vi (jW l)]∧G=G'):=by
 obtain ⟨A,c,rfl,hc1,hc2,hg⟩:=hv.slice;rw [bJ] at *;have hll:=J7 l;have htz:=ES l;refine eN [(0,_)] func28 O ntmps28 O O hG ?_;intro a H;refine kP H (SR fun _ K1=>Ra O (av K1 O (SR fun _ K2=>av K2 O (SQ fun _ K3=>SR fun _ K4=>Rm O (Rl iB O (Rm O (Kz K4 (SB ?_))))))));clear H K1 K2 K4;intro a H;skip;refine dY (ι:=Nat) (Tc:=[(9,_),(10,_)]) (Lc:=[]) (fun gh=>[(4,vi (gD (l.take gh))),(11,vi gh)]) (fun gh=>[]) (fun gh=>G) (fun gh=>gh<=l.length∧oC (l.take gh)=true) (fun gh=>l.length - gh) (0) (by exact H.sub ⟨O,O,O,O,aI⟩) ?_ ?_
 ·exact ⟨V,by simp [oC]⟩
 clear H;intro k a w hI H;obtain ⟨hk,hd⟩:=hI;dsimp only [lca,bW] at H;refine kP H (SR fun _ K5=>Rc O (Kz K5 (SQ fun _ K6=>Cd O ?_ ?_))) <;> clear H K5
 ·intro h12 a H
  try have oJ:=dT h12
  have hk2:k < l.length:=by omega
  obtain ⟨b,o,pA,pn,pc,dA,dn,dc,yA,yn,yc,fA,fn,fc,rA,rn,rc,rfl,hrow,-⟩:=zL hk2 hg;have hsm:=ahR hk2;have hle:=KL (l.take (k+1));have hle2:=Qn l (k+1);refine kP H (Kc K6 (SQ fun _ K7=>SB (SR fun _ K8=>Ri iB fB O O ?_)));clear H K6;intro a H;refine bV fB (cs:=[_,_,_,_,_,_,_,_,_,_,_]) H wn O O (fun j v hj=>H.hp.aS (hrow j v hj)) O ?_;clear H;intro a H;refine gX fB H wn O ?_;clear H;intro b6 a w hb6 H;refine bg fB 0 (vs:=[_,_,_,_,_,_,_,_,_,_,_]) H wn O ?_;clear H;intro w H;refine K8 _ _ ?_;clear K8;refine gU (fun _ K9=>?_);refine bV fB (cs:=[_,_,_,_,_,_,_,_,_,_,_]) H wn O O (H.hp.bR 0 O O) O ?_;clear H;intro a H;refine s_call I9 H wn O (KY _ _ H.ro _ _ _ _ _ _ _ _ _ _ (by have:=Qm (dV hk2);omega)) rfl ?_;clear H;rintro v17 _ a w ⟨rfl,rfl⟩ - H;refine kH H (Rm O ?_);clear H;intro a H;(iterate 2 refine eZ H wn O O O ?_;clear H;intro a H);refine kH H (Ra O (av K9 O (SQ fun _ aP=>SR fun _ aT=>Rm O (Rc O (Kz aT (Cd O ?_ ?_)))))) <;> clear H K9 aT
  ·intro h21 a H
   try have mH:=dT h21
   refine kP H (SR fun _ bH=>Ra O (av bH O ?_));clear H bH;intro a H;refine aU ?_;refine (bK H results28 (.cons (aG H O) (.cons (aG H O) .nil)) ?_).1;exact H.rt ⟨by simp [qd,jW,aay hk2 mH],O⟩
  intro h21 a H
  try have mH:=dF h21
  refine kP H (Kc aP (SC (Rm O (Rm O (Rd O ?_)))));clear H aP;intro a H;rw [<- Int.natCast_add,<- hsm] at H;refine kH H (bO K7 O (SC (Rd O (Rm O ?_))));clear H K7;intro a H;refine aj ?_;refine bE ((k+1)) (by exact (H.dz (Pl:=[_]) (bZ:=[]) [] Y O).sub ⟨O,O,O,O,aI⟩) ?_
  exact ⟨V,by rw [aaz hk2,hd];simpa using mH⟩
 intro h12 a H
 try have oJ:=dF h12
 refine dJ ?_;refine K3 _ _ ?_;clear K3;refine kP H (SR fun _ bG=>Rm O (Ra O (av bG O ?_)));clear H bG;intro a H;refine aU ?_;refine (bK H results28 (.cons (aG H O) (.cons (aG H O) .nil)) ?_).1;exact H.rt ⟨by rw [show l.take k=l from gG V] at hd |-;simp [qd,jW,hd],O⟩
theorem aac (G:GH) (w0:World) (hG:Hold G w0) (rows:List (List Dat)) (A:Option Addr) (n c:Nat) (hv:aF G (.sl 2 rows) (.slice A n c)) (hz:rows.length<=4294967296) :
  Calls prog 111 #[.slice A n c] w0 (bQ w0 G fun v G'=>aF G' (.sl 2 rows) v):=by
 obtain ⟨hn,hc1,hc2,hnil,hx⟩:=hv.cells;refine eN [(0,_)] func111 O ntmps111 O O hG ?_;intro a H;refine kP H (SR fun _ K1=>av K1 O (SQ fun _ K2=>SR fun _ K3=>Rm O ?_));clear H K1;intro a H;refine Px wK H wn O O ?_;clear H;intro a H;refine K3 _ _ ?_;clear K3;refine ou H O ?_ ?_
 ·intro h4
  exact kP H (SR fun _ K4=>av K4 O (LR results111 O fun H=>H.rt (by rw [hnil (by simpa using h4)];exact aF.lD O (by simp [maxLen]))))
 intro h4
 try have p4:=dF h4
 refine lV ?_;refine K2 _ _ ?_;clear K2;refine gy (fun _ K5=>?_)
 have hA:¬ A=none:=by intro e;rw [e] at h4;cases h4
 refine rP ?_;refine Pw wK Dc H wn O ?_;clear H;intro b5 a w hb5 H;refine kH H (Rm O ?_);clear H;intro a H
 by_cases hr0:rows=[]
 ·have hn0:n=0:=by rw [hn,hr0];rfl
  subst hn0;refine KC wK Dc H wn O O (bS _) O ?_;clear H;intro a H;exact kH H (bO K5 O (LR results111 O fun H=>H.rt (by rw [hr0];exact aF.lD O (by simp [maxLen]))))
 obtain ⟨b,o,xs,rfl,hxl,hxc,hx1,iq⟩:=hx hr0;refine dX (Li:=[]) (Lo:=[_]) (news:=xs) wK Dc O O H wn O O aW.empty hxl (fun j u hj=>H.hp.aS (hxc j u hj)) hx1 V V O ?_;clear H;intro v7 Lo a w hrow H;obtain ⟨G',hm,hrep,H⟩:=H.kF hrow (rows:=rows) V (by simpa using iq)
 try clear hG
 obtain ⟨G2,hG2⟩:∃ g,g=G':=⟨_,O⟩;subst hG2;exact kH H (bO K5 O (LR results111 O fun H=>H.rt hrep))
theorem Z8 (G:GH) (w0:World) (hG:Hold G w0) (rows:List (List Dat)) (A:Option Addr) (n c:Nat) (hv:aF G (.sl 2 rows) (.slice A n c)) (hz:rows.length<=4294967296) :
  Calls prog 112 #[.slice A n c] w0 (bQ w0 G fun v G'=>aF G' (.sl 2 rows) v):=by
 obtain ⟨hn,hc1,hc2,hnil,hx⟩:=hv.cells;refine eN [(0,_)] func112 O ntmps112 O O hG ?_;intro a H;refine kP H (SR fun _ K1=>av K1 O (SQ fun _ K2=>SR fun _ K3=>Rm O ?_));clear H K1;intro a H;refine Px wL H wn O O ?_;clear H;intro a H;refine K3 _ _ ?_;clear K3;refine ou H O ?_ ?_
 ·intro h4
  exact kP H (SR fun _ K4=>av K4 O (LR results112 O fun H=>H.rt (by rw [hnil (by simpa using h4)];exact aF.lD O (by simp [maxLen]))))
 intro h4
 try have p4:=dF h4
 refine lV ?_;refine K2 _ _ ?_;clear K2;refine gy (fun _ K5=>?_)
 have hA:¬ A=none:=by intro e;rw [e] at h4;cases h4
 refine rP ?_;refine Pw wL Df H wn O ?_;clear H;intro b5 a w hb5 H;refine kH H (Rm O ?_);clear H;intro a H
 by_cases hr0:rows=[]
 ·have hn0:n=0:=by rw [hn,hr0];rfl
  subst hn0;refine KC wL Df H wn O O (bS _) O ?_;clear H;intro a H;exact kH H (bO K5 O (LR results112 O fun H=>H.rt (by rw [hr0];exact aF.lD O (by simp [maxLen]))))
 obtain ⟨b,o,xs,rfl,hxl,hxc,hx1,iq⟩:=hx hr0;refine dX (Li:=[]) (Lo:=[_]) (news:=xs) wL Df O O H wn O O aW.empty hxl (fun j u hj=>H.hp.aS (hxc j u hj)) hx1 V V O ?_;clear H;intro v7 Lo a w hrow H;obtain ⟨G',hm,hrep,H⟩:=H.kF hrow (rows:=rows) V (by simpa using iq)
 try clear hG
 obtain ⟨G2,hG2⟩:∃ g,g=G':=⟨_,O⟩;subst hG2;exact kH H (bO K5 O (LR results112 O fun H=>H.rt hrep))
theorem Z9 (G:GH) (w0:World) (hG:Hold G w0) (rows:List (List Dat)) (A:Option Addr) (n c:Nat) (hv:aF G (.sl 4 rows) (.slice A n c)) (hz:rows.length<=4294967296) :
  Calls prog 113 #[.slice A n c] w0 (bQ w0 G fun v G'=>aF G' (.sl 4 rows) v):=by
 obtain ⟨hn,hc1,hc2,hnil,hx⟩:=hv.cells;refine eN [(0,_)] func113 O ntmps113 O O hG ?_;intro a H;refine kP H (SR fun _ K1=>av K1 O (SQ fun _ K2=>SR fun _ K3=>Rm O ?_));clear H K1;intro a H;refine Px wM H wn O O ?_;clear H;intro a H;refine K3 _ _ ?_;clear K3;refine ou H O ?_ ?_
 ·intro h4
  exact kP H (SR fun _ K4=>av K4 O (LR results113 O fun H=>H.rt (by rw [hnil (by simpa using h4)];exact aF.lD O (by simp [maxLen]))))
 intro h4
 try have p4:=dF h4
 refine lV ?_;refine K2 _ _ ?_;clear K2;refine gy (fun _ K5=>?_)
 have hA:¬ A=none:=by intro e;rw [e] at h4;cases h4
 refine rP ?_;refine Pw wM Dg H wn O ?_;clear H;intro b5 a w hb5 H;refine kH H (Rm O ?_);clear H;intro a H
 by_cases hr0:rows=[]
 ·have hn0:n=0:=by rw [hn,hr0];rfl
  subst hn0;refine KC wM Dg H wn O O (bS _) O ?_;clear H;intro a H;exact kH H (bO K5 O (LR results113 O fun H=>H.rt (by rw [hr0];exact aF.lD O (by simp [maxLen]))))
 obtain ⟨b,o,xs,rfl,hxl,hxc,hx1,iq⟩:=hx hr0;refine dX (Li:=[]) (Lo:=[_]) (news:=xs) wM Dg O O H wn O O aW.empty hxl (fun j u hj=>H.hp.aS (hxc j u hj)) hx1 V V O ?_;clear H;intro v7 Lo a w hrow H;obtain ⟨G',hm,hrep,H⟩:=H.kF hrow (rows:=rows) V (by simpa using iq)
 try clear hG
 obtain ⟨G2,hG2⟩:∃ g,g=G':=⟨_,O⟩;subst hG2;exact kH H (bO K5 O (LR results113 O fun H=>H.rt hrep))
theorem MJ (G:GH) (w0:World) (hG:Hold G w0) (h:jZ) (pA dA yA:Option Addr) (pn pc dn dc yn yc:Nat) (hv:og G h (.slice pA pn pc) (.slice dA dn dc) (.slice yA yn yc)) (hz:wO h<=4294967296) :
  Calls prog 97 #[.agg #[.slice pA pn pc,vi h.marks.ins,vi h.marks.move,.slice dA dn dc,.slice yA yn yc]] w0 (bQ w0 G fun v G'=>∃ p d l,v=.agg #[p,vi h.marks.ins,vi h.marks.move,d,l]∧og G' h p d l):=by
 have he:=QC h;have h1:=yZ (h.props.map mg.dat);have h2:=yZ (h.marks.ni.map lI.dat);have h3:=yZ (h.marks.layers.map lQ.dat);refine eN [(0,_)] func97 O ntmps97 O O hG ?_;intro a H;refine gU (fun _ K1=>?_);refine jQ (cs:=[_,_,_,_,_]) H wn O O O ?_;clear H;intro b1 a w hb1 H;refine gX wJ H wn O ?_;clear H;intro b2 a w hb2 H;refine K1 _ _ ?_;clear K1;refine kP H (SR fun _ K2=>fG Ci Dh 1 O O ?_);clear H;intro a H;refine s_call aaQ H wn O (aac _ _ H.ro _ _ _ _ hv.props V) O ?_;clear H;rintro v5 G5 a w CB JL H;obtain ⟨A5,n5,c5,rfl⟩:=CB.form;refine kH H (Rf Ci O ?_);clear H;intro a H;refine bg Dh 1 (vs:=[_]) H wn O ?_;clear H;intro w H;refine K2 _ _ ?_;clear K2;refine gy (fun _ K3=>?_);obtain ⟨hvp,hvd,hvy⟩:=hv.mono JL;clear hv
 have xL:LW (fun (jV:Nat) (v:ak) (G:GH)=>match jV with|0=>v=.pointer (some ⟨b1,1,none⟩)|1=>v=.pointer (some ⟨b1,3,none⟩)|2=>v=.slice dA dn dc|3=>aF G (.sl 2 (h.marks.ni.map lI.dat)) v|4=>v=.pointer (some ⟨b1,1,none⟩)|5=>v=.pointer (some ⟨b1,4,none⟩)|6=>v=.slice yA yn yc|7=>aF G (.sl 4 (h.marks.layers.map lQ.dat)) v|8=>v=.pointer (some ⟨b1,1,none⟩)|9=>v=.pointer (some ⟨b1,3,none⟩)|_=>True):=by intro jV v G G' hm h;(iterate 14 (rcases jV with _|jV;(first|exact h|exact aF.mono hm h)));exact trivial
 refine IU (hmx) [[],[0],[0,1],[0,1,2],[],[4],[4,5],ra 0 7,ra 0 7,(ra 0 7++[8]),ra 0 10,ra 0 11,ra 0 12,ra 0 13] (ra 10 4) Z Z _ xL H ?_ ?_
 ·clear H;refine aH ?_ ?_ ?_ ?_ (aH ?_ ?_ ?_ ?_ (aH ?_ ?_ (fT O) (fT O) (eB (fT O) (eB (fT O) fD))))
  ·refine kS [] O trivial Z xL O O ?_;intro ay a w G1 hG HT H fin;exact kH H (Rf pW O fun _ H=>fin H iJ O)
  ·refine kS [(0,7,_)] O ⟨fun _ _ h=>h,aI⟩ Z xL O O ?_;intro ay a w G1 hG HT H fin;exact kH H (Rf Cg O fun _ H=>fin H iJ O)
  ·refine kS [(1,8,_)] O ⟨fun _ _ h=>h,aI⟩ Z xL O O ?_;intro ay a w G1 hG HT H fin;exact kH H (Ro Di 1 O fun _ H=>fin H iJ O)
  ·refine kS [(2,9,_)] O ⟨fun _ _ h=>h,aI⟩ Z xL O O ?_;intro ay a w G1 hG HT H fin;refine s_call aaR H wn O (Z8 _ _ H.ro _ _ _ _ (hvd.mono hG) V) O ?_;clear H;rintro v10 vL a w xK yM H;exact fin H yM (xK)
  ·refine kS [] O trivial Z xL O O ?_;intro ay a w G1 hG HT H fin;exact kH H (Rf pW O fun _ H=>fin H iJ O)
  ·refine kS [(4,11,_)] O ⟨fun _ _ h=>h,aI⟩ Z xL O O ?_;intro ay a w G1 hG HT H fin;exact kH H (Rf Ch O fun _ H=>fin H iJ O)
  ·refine kS [(5,12,_)] O ⟨fun _ _ h=>h,aI⟩ Z xL O O ?_;intro ay a w G1 hG HT H fin;exact kH H (Ro Dj 1 O fun _ H=>fin H iJ O)
  ·refine kS [(6,13,_)] O ⟨fun _ _ h=>h,aI⟩ Z xL O O ?_;intro ay a w G1 hG HT H fin;refine s_call aaS H wn O (Z9 _ _ H.ro _ _ _ _ (hvy.mono hG) V) O ?_;clear H;rintro v14 Ik a w GI Ju H;exact fin H Ju (GI)
  ·refine kS [] O trivial Z xL O O ?_;intro ay a w G1 hG HT H fin;exact kH H (Rf pW O fun _ H=>fin H iJ O)
  refine kS [(8,15,_)] O ⟨fun _ _ h=>h,aI⟩ Z xL O O ?_;intro ay a w G1 hG HT H fin;exact kH H (Rf Cg O fun _ H=>fin H iJ O)
 clear H;intro a w G Ea H hv;obtain ⟨u10,Oz,xK⟩:=hv 3 10 Y O;(try dsimp only at xK);obtain ⟨Yn,n10,c10,rfl⟩:=xK.form;have H:=H.eP Oz;obtain ⟨u14,aeO,GI⟩:=hv 7 14 Y O;(try dsimp only at GI);obtain ⟨Yo,n14,c14,rfl⟩:=GI.form;have H:=H.eP aeO;have H:=H.au (hv 9 16 O O) O;clear hv;refine bg Di 1 (vs:=[_]) H wn O ?_;clear H;intro w H;refine kH H (Rf pW O (Rf Ch O ?_));clear H;intro a H;refine bg Dj 1 (vs:=[_]) H wn O ?_;clear H;intro w H;refine aj ⟨O,?_⟩;refine K3 _ _ ?_;clear K3;refine gU (fun _ K4=>?_);refine bV wJ (cs:=[_,_,_,_,_]) H wn O O (H.hp.bR 1 O O) O ?_;clear H;intro a H;refine bg wJ 0 (vs:=[_,_,_,_,_]) H wn O ?_;clear H;intro w H;refine K4 _ _ ?_;clear K4;refine aU ?_;refine (leave1 H results97 (.cons (Kw wJ (cs:=[_,_,_,_,_]) H O O (H.hp.bR 0 O O)) .nil) ?_).1;exact H.rt ⟨_,_,_,O,CB.mono Ea,xK,GI⟩
theorem VX {G:GH} {w:World} (h:Hold G w):jN G [] w:=⟨h,fun _ h=>(by cases h),fun _ h=>(by cases h),List.Pairwise.nil⟩
theorem ZJ {P:Program} {f:FuncId} {args:Array ak} {w0:World} {G:GH} {e sz n:Nat} {rows:List (List Dat)} (hG:Hold G w0) (h:Calls P f args w0 (jO w0 G [] fun u G' L'=>∃ xs,aW e sz u n xs L'∧cO G' sz rows xs)) (hl:rows.length=n) :
  Calls P f args w0 (bQ w0 G fun u G'=>aF G' (.sl sz rows) u):=by
 intro cs;obtain ⟨e1,w',fr,⟨v,G',L',rfl,hch,xs,hrow,iq⟩,h2,h3,h4⟩:=h cs;have hp0:Hp w0 (fun k=>k < w0.heap.size) G G ([]++[]) w0:=⟨O,O,O,bS _,fun _ h=>h,fun _ _=>rfl,hG,fun _ _ h=>h,fun _ _ h=>.inl h,fun _ h=>(by cases h),fun _ h=>(by cases h),fun _ h=>(by cases h),List.Pairwise.nil⟩;have hp1:=hp0.change hch;rw [uN] at hp1;refine ⟨_,w',fr,?_,h2,h3,h4⟩
 rcases hrow.2 with ⟨rfl,h5,rfl⟩|⟨b,cap,cur,rfl,rfl,h5,h6,h7,h8⟩
 ·refine hp1.ret ?_;have:rows=[]:=List.eq_nil_of_length_eq_zero V;subst this
  simp only [aF]
  exact ⟨none,0,by simp,by simp,by simp [maxLen],fun h=>absurd O h⟩
 have hn:=hp1.qV (b,.cells cur e (0,0)) (by simp);exact (hp1.giveUp 0 O).ret (aF.rV (GH.Mc G' b _) hl h5 h6 h8 (iq.mono fun k o h=>GH.Iw G' hn k o h))
def Fa (fv:ak) (w0:World) (G:GH) (d d':List Dat):Prop:=∀ (G1:GH) (w1:World) (cs:List ak),(∀ b o,G b=some o->G1 b=some o)->Hold G1 w1->aY G1 d cs ->
 uK prog fv [.agg cs.toArray] w1 (bQ w1 G1 fun u G'=>∃ cs',u=.agg cs'.toArray∧aY G' d' cs')
theorem aaH (φ:dQ->dQ) (G:GH) (w0:World) (hO:jN G [] w0) (l:List dQ) (v fv:ak) (hv:aF G (.sl 6 (l.map dQ.dat)) v) (hz:l.length<=4294967296) (hf:∀ x∈l,Fa fv w0 G x.dat (φ x).dat) :
  Calls prog 99 #[v,fv] w0 (jO w0 G [] fun u G' L'=>∃ xs,aW 63 6 u l.length xs L'∧cO G' 6 (l.map fun x=>(φ x).dat) xs):=by
 obtain ⟨A,c,rfl,hc1,hc2,hg⟩:=hv.slice
 have hml:4294967297<=maxLen:=by decide
 rw [bJ] at *;refine mP (N:=22) (T:=[(0,_),(1,_)]) func99 O ntmps99 O O hO ?_;intro a H;refine kP H (SR fun _ K1=>av K1 O (SR fun _ K2=>av K2 O (SQ fun _ K3=>SR fun _ K4=>Rm O (Rl mK O (Rm O (Kz K4 (SB ?_)))))));clear H K1 K2 K4;intro a H;skip;refine dY (ι:=Nat × ak × List ak × OL × GH) (Tc:=[(1,_),(8,_),(9,_)]) (Lc:=[]) (fun gh=>[(5,gh.2.1),(10,vi gh.1)]) (fun gh=>[]++gh.2.2.2.1) (fun gh=>gh.2.2.2.2) (fun gh=>gh.1<=l.length∧aW 63 6 gh.2.1 gh.1 gh.2.2.1 gh.2.2.2.1∧cO gh.2.2.2.2 6 ((l.map fun x=>(φ x).dat).take gh.1) gh.2.2.1∧(∀ b o,G b=some o->gh.2.2.2.2 b=some o)) (fun gh=>l.length - gh.1) ((0,.slice none 0 0,[],[],G)) (by exact H.sub ⟨O,O,O,O,O,aI⟩) ?_ ?_
 ·exact ⟨V,aW.nil,by simpa using cO.nil,fun _ _ h=>h⟩
 clear H;rintro ⟨k,v,xs,Lo,g⟩ a w hI H;dsimp only at hI H;obtain ⟨hk,hrw,iq,hgm⟩:=hI;dsimp only [lca,bW] at H;refine kP H (SR fun _ K5=>Rc O (Kz K5 (SQ fun _ K6=>Cd O ?_ ?_))) <;> clear H K5
 ·intro h11 a H
  try have oI:=dT h11
  have hk2:k < l.length:=by omega
  obtain ⟨b,o,cs,rfl,hcl,hrow,hrep⟩:=hg k l[k].dat (by simp [hk2]);obtain ⟨pA,pn,pc,dA,dn,dc,yA,yn,yc,fA,fn,fc,rfl,-⟩:=hrep.row;replace hrow:=fun j u hj=>aK hgm (hrow j u hj);refine kP H (Kc K6 (SQ fun _ K7=>SB (SR fun _ K8=>Ri mK jo O O ?_)));clear H K6;intro a H;refine bV jo (cs:=[_,_,_,_,_,_]) H wn O O (fun j v hj=>H.hp.aS (hrow j v hj)) O ?_;clear H;intro a H;refine gX jo H wn O ?_;clear H;intro b7 a w Ed H;refine bg jo 0 (vs:=[_,_,_,_,_,_]) H wn O ?_;clear H;intro w H;refine K8 _ _ ?_;clear K8;refine kP H (SC (Rm O (Rm O ?_)));clear H;intro a H;refine bV jo (cs:=[_,_,_,_,_,_]) H wn O O (H.hp.bR 0 O O) O ?_;clear H;intro a H;refine yV H wn O O (hf _ (dV hk2) _ _ _ hgm H.ro (hrep.mono hgm)) O ?_;clear H;rintro v17 vM a w ⟨BZ,rfl,eO⟩ mE H;obtain ⟨cs,hcs⟩:∃ cs,cs=BZ:=⟨_,O⟩;obtain ⟨pA,pn,pc,dA,dn,dc,yA,yn,yc,fA,fn,fc,zQ,-⟩:=eO.row;rw [zQ] at H;refine eU mK jo [_,_,_,_,_,_] [_,_,_,_,_,_] H wn O O O O O (by intro i q h;match i,h with|0,h=>exact h|n+1,h=>simp at h) O O ?_;clear H;intro b18 a w Jy H;refine dX (Li:=[_,_]) (Lo:=Lo) (news:=BZ) mK jo O O H wn O O hrw (by rw [zQ];rfl) (by rw [zQ];exact H.hp.bR 0 O O) eO.one V V O ?_;clear H;intro v19 LM a w Ow H;refine kH H (bO K7 O (SC (Rd O (Rm O ?_))));clear H K7;intro a H;refine aj ?_;refine bE ((k+1,v19,xs++BZ,LM,vM)) (by exact (H.dz (Pl:=[_,_]) (bZ:=[]) [] Y O).sub ⟨O,O,O,O,O,aI⟩) ?_
  (try dsimp only);refine ⟨V,Ow,?_,fun b o h=>mE b o (hgm b o h)⟩;rw [jq (by simpa using hk2)];exact (iq.mono mE).snoc (by simpa using eO) (by rw [zQ];rfl)
 intro h11 a H
 try have oI:=dF h11
 refine dJ ?_;refine K3 _ _ ?_;clear K3;refine kP H (SR fun _ K9=>Rm O (av K9 O ?_));clear H K9;intro a H;refine lr H results99 O ?_
 obtain rfl:k=l.length:=by omega
 exact H.hp.dP ⟨_,hrw,by rw [gG (by simp)] at iq;exact iq⟩
theorem aaG (φ:dO->dO) (G:GH) (w0:World) (hO:jN G [] w0) (l:List dO) (v fv:ak) (hv:aF G (.sl 7 (l.map dO.dat)) v) (hz:l.length<=4294967296) (hf:∀ x∈l,Fa fv w0 G x.dat (φ x).dat) :
  Calls prog 115 #[v,fv] w0 (jO w0 G [] fun u G' L'=>∃ xs,aW 80 7 u l.length xs L'∧cO G' 7 (l.map fun x=>(φ x).dat) xs):=by
 obtain ⟨A,c,rfl,hc1,hc2,hg⟩:=hv.slice
 have hml:4294967297<=maxLen:=by decide
 rw [bJ] at *;refine mP (N:=22) (T:=[(0,_),(1,_)]) func115 O ntmps115 O O hO ?_;intro a H;refine kP H (SR fun _ K1=>av K1 O (SR fun _ K2=>av K2 O (SQ fun _ K3=>SR fun _ K4=>Rm O (Rl qx O (Rm O (Kz K4 (SB ?_)))))));clear H K1 K2 K4;intro a H;skip;refine dY (ι:=Nat × ak × List ak × OL × GH) (Tc:=[(1,_),(8,_),(9,_)]) (Lc:=[]) (fun gh=>[(5,gh.2.1),(10,vi gh.1)]) (fun gh=>[]++gh.2.2.2.1) (fun gh=>gh.2.2.2.2) (fun gh=>gh.1<=l.length∧aW 80 7 gh.2.1 gh.1 gh.2.2.1 gh.2.2.2.1∧cO gh.2.2.2.2 7 ((l.map fun x=>(φ x).dat).take gh.1) gh.2.2.1∧(∀ b o,G b=some o->gh.2.2.2.2 b=some o)) (fun gh=>l.length - gh.1) ((0,.slice none 0 0,[],[],G)) (by exact H.sub ⟨O,O,O,O,O,aI⟩) ?_ ?_
 ·exact ⟨V,aW.nil,by simpa using cO.nil,fun _ _ h=>h⟩
 clear H;rintro ⟨k,v,xs,Lo,g⟩ a w hI H;dsimp only at hI H;obtain ⟨hk,hrw,iq,hgm⟩:=hI;dsimp only [lca,bW] at H;refine kP H (SR fun _ K5=>Rc O (Kz K5 (SQ fun _ K6=>Cd O ?_ ?_))) <;> clear H K5
 ·intro h11 a H
  try have oI:=dT h11
  have hk2:k < l.length:=by omega
  obtain ⟨b,o,cs,rfl,hcl,hrow,hrep⟩:=hg k l[k].dat (by simp [hk2]);obtain ⟨pA,pn,pc,dA,dn,dc,yA,yn,yc,fA,fn,fc,rfl,-⟩:=hrep.cell;replace hrow:=fun j u hj=>aK hgm (hrow j u hj);refine kP H (Kc K6 (SQ fun _ K7=>SB (SR fun _ K8=>Ri qx mY O O ?_)));clear H K6;intro a H;refine bV mY (cs:=[_,_,_,_,_,_,_]) H wn O O (fun j v hj=>H.hp.aS (hrow j v hj)) O ?_;clear H;intro a H;refine gX mY H wn O ?_;clear H;intro b7 a w Ed H;refine bg mY 0 (vs:=[_,_,_,_,_,_,_]) H wn O ?_;clear H;intro w H;refine K8 _ _ ?_;clear K8;refine kP H (SC (Rm O (Rm O ?_)));clear H;intro a H;refine bV mY (cs:=[_,_,_,_,_,_,_]) H wn O O (H.hp.bR 0 O O) O ?_;clear H;intro a H;refine yV H wn O O (hf _ (dV hk2) _ _ _ hgm H.ro (hrep.mono hgm)) O ?_;clear H;rintro v17 vM a w ⟨BZ,rfl,eO⟩ mE H;obtain ⟨cs,hcs⟩:∃ cs,cs=BZ:=⟨_,O⟩;obtain ⟨pA,pn,pc,dA,dn,dc,yA,yn,yc,fA,fn,fc,zQ,-⟩:=eO.cell;rw [zQ] at H;refine eU qx mY [_,_,_,_,_,_,_] [_,_,_,_,_,_,_] H wn O O O O O (by intro i q h;match i,h with|0,h=>exact h|n+1,h=>simp at h) O O ?_;clear H;intro b18 a w Jy H;refine dX (Li:=[_,_]) (Lo:=Lo) (news:=BZ) qx mY O O H wn O O hrw (by rw [zQ];rfl) (by rw [zQ];exact H.hp.bR 0 O O) eO.one V V O ?_;clear H;intro v19 LM a w Ow H;refine kH H (bO K7 O (SC (Rd O (Rm O ?_))));clear H K7;intro a H;refine aj ?_;refine bE ((k+1,v19,xs++BZ,LM,vM)) (by exact (H.dz (Pl:=[_,_]) (bZ:=[]) [] Y O).sub ⟨O,O,O,O,O,aI⟩) ?_
  (try dsimp only);refine ⟨V,Ow,?_,fun b o h=>mE b o (hgm b o h)⟩;rw [jq (by simpa using hk2)];exact (iq.mono mE).snoc (by simpa using eO) (by rw [zQ];rfl)
 intro h11 a H
 try have oI:=dF h11
 refine dJ ?_;refine K3 _ _ ?_;clear K3;refine kP H (SR fun _ K9=>Rm O (av K9 O ?_));clear H K9;intro a H;refine lr H results115 O ?_
 obtain rfl:k=l.length:=by omega
 exact H.hp.dP ⟨_,hrw,by rw [gG (by simp)] at iq;exact iq⟩
theorem aaI (φ:dO->dO) (G:GH) (w0:World) (hG:Hold G w0) (l:List dO) (v fv:ak) (hv:aF G (.sl 7 (l.map dO.dat)) v) (hz:l.length<=4294967296) (hf:∀ x∈l,Fa fv w0 G x.dat (φ x).dat) :
  Calls prog 115 #[v,fv] w0 (bQ w0 G fun u G'=>aF G' (.sl 7 (l.map fun x=>(φ x).dat)) u):=ZJ hG (aaG φ G w0 (VX hG) l v fv hv hz hf) (by simp)
section
section
variable {P:Program} {N:Nat} {D:List Deferred} {w0 w w':World} {F:Nat->Prop} {G0 G G':GH} {L L' Li Lo:OL} {T:List (Nat × ak)} {a a':Act} {Q:Exit->Act->World->Prop}
theorem St.cast (h:St N D w0 F G0 G L T a w) (e:L=L'):St N D w0 F G0 G L' T a w:=e ▸ h
theorem St.assoc {A B C:OL} (h:St N D w0 F G0 G ((A++B)++C) T a w):St N D w0 F G0 G (A++(B++C)) T a w:=h.cast (oU _ _ _)
theorem St.un {A B C:OL} (h:St N D w0 F G0 G (A++(B++C)) T a w):St N D w0 F G0 G ((A++B)++C) T a w:=h.cast (oU _ _ _).symm
theorem St.VP {A B:OL} (h:St N D w0 F G0 G (A++B) T a w):St N D w0 F G0 G (A++(B++[])) T a w:=h.cast (by rw [lU])
theorem IV {ι κ:Type} {Lc:OL} {xC:Operand} {ps:List Nat} {assign body:Code} {gf:FuncId} {caps:List ak} {xs:List AP} {Gi:GH}
  (Lv:Nat->ι->OL) (Lt:Nat->ι->OL) (inv:Nat->ι->GH->Prop) (cx:κ->Code) (Lx BL:κ->OL) (xP:κ->GH->Prop) (i0:ι)
  (H:St N D w0 F G0 G (Lc++Lv 0 i0++Lt 0 i0) T a w) (hg:ev T xC=some (.func (.func gf) #[] caps.toArray)) (en:∀ args w,(callFunc gf args).run P w=.ok (.enter gf args) w) (hit:Iter P Gi (.func (.func gf) #[] caps.toArray) xs) (hGi:∀ b o,Gi b=some o->G b=some o)
  (hps:ps.all (Nat.blt · N)=true) (hlen:∀ k args g,uJ xs k args g->args.length=ps.length) (hinv:∀ k i (G G':GH),(∀ b o,G b=some o->G' b=some o)->inv k i G->inv k i G') (NZ:∀ x (G G':GH),(∀ b o,G b=some o->G' b=some o)->xP x G->xP x G') (h0:inv 0 i0 G)
  (round:∀ (l:Nat) (yT vU:Obj) (bk:OL) (k:Nat) (args:List ak) (i:ι) (G1:GH) (w1:World) (F1:Nat->Prop) (B1:Code->Exit->Act->World->Prop) (a1:Act),uJ xs k args G1->(∀ b o,G b=some o->G1 b=some o)->inv k i G1 ->
   (∀ T' G2 L2 a2 w2 c,St N [] w1 F1 G1 G2 ((l,yT) :: L2) T' a2 w2->(∀ w3,St N [] w1 F1 G1 G2 ((l,vU) :: L2) T' a2 w3->WP (some l) P c (B1 c) a2 w3)->Exit.then (fun a2 w2=>∃ w3,(Instr.beginRound l).run P w2=.ok () w3∧c.wpIn (FW (some l)) 0 P (B1 c) a2 w3) (fun _ _ _=>False) .normal a2 w2) ->
   (∀ i' T' G2 a2 w2 c,St N [] w1 F1 G1 G2 ((l,vU) :: (Lc++Lv (k+1) i'++(bk++Lt (k+1) i'))) T' a2 w2->inv (k+1) i' G2->B1 c .normal a2 w2) ->
   (∀ x T' G2 a2 w2 c,St N [] w1 F1 G1 G2 ((l,vU) :: (Lc++Lx x++(bk++BL x))) T' a2 w2->xP x G2->(cx x=.ret->B1 c .ret a2 w2)∧∀ n,cx x=.exit n->B1 c (.exit n) a2 w2) ->
   St N [] w1 F1 G1 G1 ((l,yT) :: (Lc++Lv k i++(bk++Lt k i))) (uQ ps args T) a1 w1 ->
   WP (some l) P assign (Exit.then (fun a2 w2=>∃ w3,(Instr.beginRound l).run P w2=.ok () w3∧body.wpIn (FW (some l)) 0 P (B1 body) a2 w3) (fun _ _ _=>False)) a1 w1)
  (hdone:∀ Dk i G1 a1 w1,(∀ b o,G b=some o->G1 b=some o)->inv xs.length i G1->St N ({ target:=.collected Dk,args:=#[] } :: D) w0 F G0 G1 ((Dk,.deferred (some [])) :: (Lc++Lv xs.length i++Lt xs.length i)) T a1 w1->Q .normal a1 w1)
  (hstop:∀ Dk x G1 a1 w1,(∀ b o,G b=some o->G1 b=some o)->xP x G1->St N ({ target:=.collected Dk,args:=#[] } :: D) w0 F G0 G1 ((Dk,.deferred (some [])) :: (Lc++Lx x++BL x)) T a1 w1->WP none P (cx x) Q a1 w1) :
  WP none P (.rangeFunc xC ps.toArray assign body) Q a w:=by
 refine ZG (J:=fun k g L=>∃ i,L=Lc++Lv k i++Lt k i∧inv k i g) (Jx:=fun c g L=>∃ x,c=cx x∧L=Lc++Lx x++BL x∧xP x g) H hg en hit hGi hps hlen (fun k G G' L hm ⟨i,e,h⟩=>⟨i,e,hinv k i G G' hm h⟩) (fun c G G' L hm ⟨x,e1,e2,h⟩=>⟨x,e1,e2,NZ x G G' hm h⟩) ⟨i0,O,h0⟩ ?_ ?_ ?_
 ·rintro l q bk k args G1 L1 w1 a1 hk hm ⟨i,rfl,hi⟩ H1
  have pm:∀ A B:OL,(bk++(A++B)).Perm (A++(bk++B)):=fun A B=>by
   rw [<- oU,<- oU]
   exact List.Perm.append_right B List.perm_append_comm
  refine round l (q.at .ready none) (q.at .busy none) bk k args i G1 w1 _ (fun _=>roundPost P l _) a1 hk hm hi ?_ ?_ ?_ (H1.perm (List.Perm.cons _ (pm _ _)))
  ·intro T' G2 L2 a2 w2 c H2 h
   exact R7 H2 h
  ·intro i' T' G2 a2 w2 c H2 h2
   exact Ey none (H2.perm (List.Perm.cons _ (pm _ _).symm)) ⟨_,O,i',O,h2⟩
  ·intro x T' G2 a2 w2 c H2 h2
   have H3:=H2.perm (List.Perm.cons _ (pm _ _).symm)
   refine ⟨fun e=>?_,fun n e=>?_⟩
   ·exact Ey (some .ret) H3 ⟨_,_,O,x,e.symm,O,h2⟩
   ·exact Ey (some (.exit n)) H3 ⟨_,_,O,x,e.symm,O,h2⟩
 ·rintro Dk G1 L1 a1 w1 hm ⟨i,rfl,hi⟩ H1
  exact hdone Dk i G1 a1 w1 hm hi H1
 ·rintro Dk c G1 L1 a1 w1 hm ⟨x,rfl,rfl,hx⟩ H1
  exact hstop Dk x G1 a1 w1 hm hx H1
end
end
def n1 (x:aD):Nat:=if xX x=0 then lH x else 0
theorem afi (x:aD):qd [x]=n1 x:=by
 simp only [qd,oC,n1,gD,List.all_cons,List.all_nil,Bool.and_true,dU]
 split <;> simp_all
theorem afC (x:aD):n1 x < iy x.dat:=by
 have h1:=oO x;have h2:=MK x.text
 unfold n1 lH;split <;> (try split) <;> omega
theorem aF.len {G:GH} {sz:Nat} {rows:List (List Dat)} {A:Option Addr} {n c:Nat} (h:aF G (.sl sz rows) (.slice A n c)):n=rows.length:=h.cells.1
theorem aF.at_ {G:GH} {sz:Nat} {rows:List (List Dat)} {A:Option Addr} {n c:Nat} (h:aF G (.sl sz rows) (.slice A n c)):∀ k r,rows[k]?=some r->∃ b o cs,A=some ⟨b,o,none⟩∧cs.length=sz∧(∀ j u,cs[j]?=some u->aS G b (o+k*sz+j)=some u)∧aY G r cs:=by
 obtain ⟨A2,c2,e,_,_,hg⟩:=h.slice
 cases e;exact hg
structure QH where
 (f p d y r s1 s2 s3 s4:Option Addr × Nat × Nat)
 (ins move:Int)
abbrev Aj (x:Option Addr × Nat × Nat):ak:=.slice x.1 x.2.1 x.2.2
abbrev QH.cells (D:QH):List ak:=[Aj D.f,Aj D.p,vi D.ins,vi D.move,Aj D.d,Aj D.y,Aj D.r,Aj D.s1,Aj D.s2,Aj D.s3,Aj D.s4]


section
abbrev aJ (b o : Nat) : Value := .pointer (some ⟨b, o, none⟩)
end
end Go.Proofs.YtomebajfpcjoeaaGreatDoor
