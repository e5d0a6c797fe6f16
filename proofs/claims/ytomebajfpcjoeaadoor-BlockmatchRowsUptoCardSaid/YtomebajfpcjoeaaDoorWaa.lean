/-
  What the claim stands on, part 1: Lg Op Oq Cb Rep Dr Sq Cp Row Dy Bd Ut Utf Utf2 Mk.
-/
import Derived.Test.YtomebajfpcjoeaaDoorProg
import Derived.CallsIn
import Derived.TacticsIn
import Derived.RangeFuncIn
import Derived.RangeFuncLeaves
import Derived.RangeFuncRecord
import Derived.Below
import Derived.KernelRfl
import Derived.Maps.AppendAt
import Derived.IntWalk
import Derived.OrdersIn
import Derived.Test.YtomebajfpcjoeaaDoorRows
import Derived.Lib.Builder
import Derived.Lib.UnsafeStr
import Derived.Lib.AppendStr
import Derived.Laws.Externs
import Derived.Lib.OthersKept
import Derived.Laws.IdiomStrings
import Derived.Laws.Cover4
import Derived.Laws.Slices
import Derived.Laws.Strings2
import Derived.Lib.MapLaws
import Derived.Lib.ValidLaws
import Derived.Lib.RuneBytes
import Derived.Lib.TrimUEq
import Derived.Laws.MakeOwn
namespace Go.Proofs.YtomebajfpcjoeaaDoor
set_option linter.all false
open Go.Proofs.Tryd
theorem O.{u} {α:Sort u} {a:α}:a=a:=rfl
theorem V {p:Prop} (h:p:=by omega):p:=h
theorem Z {p:Prop} (h:p:=by kernel_rfl):p:=h
theorem Y {p:Prop} (h:p:=by decide):p:=h
section
theorem aH:True:=trivial
theorem aL.{u}:∀ {c:Prop} {h:Decidable c},¬c->∀ {α:Sort u} {t e:α},(if c then t else e)=e:=@if_neg
theorem aM.{u}:∀ {c:Prop} {h:Decidable c},c->∀ {α:Sort u} {t e:α},(if c then t else e)=t:=@if_pos
theorem aV:∀ (n:Nat),n<=n:=@Nat.le_refl
theorem bE:∀ {α β:Type} (P:Go.Program) (w:Go.World) (x:Go.Sem α) (f:α->Go.Sem β),   Go.Sem.run P (x >>= f) w=Go.Result.andThen (Go.Sem.run P x w) fun a w'=>Go.Sem.run P (f a) w':=@Go.Sem.run_bind
theorem bG.{u_1,u_2}:∀ {α:Type u_1} {β:Type u_2} {xs:List α} (f:α->β),List.length (List.map f xs)=List.length xs:=@List.length_map
theorem dK.{u_1}:∀ {α:Type u_1} {l:List α} {n:Nat} (h:n < List.length l),l[n]∈l:=@List.getElem_mem
theorem dO:∀ (n:Nat),0<=n:=@Nat.zero_le
theorem dX.{u,v}:∀ {α:Type u} {β:Type v} (fst:α) (snd:β) (QO:α) (Ul:β),   ((fst,snd)=(QO,Ul))=(fst=QO∧snd=Ul):=@Prod.mk.injEq
theorem eP:∀ (n:Nat),0+n=n:=@Nat.zero_add
theorem fM.{u_1}:∀ {α:Type u_1} {p:α->Bool} {l:List α},List.all l p=true↔∀ (x:α),x∈l->p x=true:=@List.all_eq_true
theorem fV.{u_1}:∀ {α:Type u_1} {i:Nat} {a:α} {l:List α},l[i]?=some a↔∃ h,l[i]=a:=@List.getElem?_eq_some_iff
theorem gq:∀ (a b:Bool),((a && b)=true)=(a=true∧b=true):=@Bool.and_eq_true
theorem gG:∀ {p:Prop} [inst:Decidable p],(decide p=true)=p:=@decide_eq_true_eq
theorem gJ:∀ {α β:Type} (a:α) (w:Go.World) (f:α->Go.World->Go.Result β),Go.Result.andThen (Go.Result.ok a w) f=f a w:=@Go.Result.andThen_ok
theorem gU.{u_1}:∀ {α:Type u_1} {l:List α} {i:Nat} (h:i < List.length l),l[i]?=some l[i]:=@List.getElem?_eq_getElem
theorem gV.{u,v}:∀ {α:Type u} {β:Type v} {f:α->β} {a:α} {l:List α},List.map f (a :: l)=f a :: List.map f l:=@List.map_cons
theorem gW.{u}:∀ {α:Type u} {xs bs:List α},List.length (xs++bs)=List.length xs+List.length bs:=@List.length_append
theorem gX.{u_1}:∀ {α:Type u_1} {i:Nat} {l:List α},List.length l<=i->List.take i l=l:=@List.take_of_length_le
theorem iU.{u_1}:∀ {α:Type u_1} {l:List α} {i:Nat} {a:α},l[i]?=some a->a∈l:=@List.mem_of_getElem?
theorem jB.{u}:∀ {α:Type u} {a:α} {xs:List α},List.length (a :: xs)=List.length xs+1:=@List.length_cons
theorem jC:∀ {α:Type} (P:Go.Program) (w:Go.World) (a:α),Go.Sem.run P (pure a) w=Go.Result.ok a w:=@Go.Sem.run_pure
theorem jL.{u}:∀ {α:Type u} (val Va:α),(some val=some Va)=(val=Va):=@Option.some.injEq
theorem kg.{u_1}:∀ {α:Type u_1} {i:Nat} {l:List α} (h:i < List.length l),List.take (i+1) l=List.take i l++[l[i]]:=@List.take_succ_eq_append_getElem
theorem ko.{u,v}:∀ {α:Sort u} {β:Sort v} {a₁ a₂:α} (f:α->β),a₁=a₂->f a₁=f a₂:=@congrArg
theorem kr.{u}:∀ {α:Type u} (xs:List α),xs++[]=xs:=@List.append_nil
theorem ku.{u_1,u_2}:∀ {α:Type u_1} {β:Type u_2} {f:α->β} {l₁ l₂:List α},List.map f (l₁++l₂)=List.map f l₁++List.map f l₂:=@List.map_append
theorem kR.{u_1,u_2}:∀ {α:Type u_1} {b:α} {Vr:Type u_2} {x:Option Vr} {f:Vr->α},   Option.map f x=some b↔∃ a,x=some a∧f a=b:=@Option.map_eq_some_iff
theorem lJ.{u}:∀ {α:Type u} {a:α} {xs bs:List α},a :: xs++bs=a :: (xs++bs):=@List.cons_append
theorem lK.{u}:∀ {α:Type u} (xs bs cs:List α),xs++bs++cs=xs++(bs++cs):=@List.append_assoc
theorem mq.{u_1}:∀ {α:Type u_1} {b:α} {l:List α} {a:α},a∈b :: l↔a=b∨a∈l:=@List.mem_cons
theorem ng:∀ {p:Prop} {x:Decidable p},decide p=false↔¬p:=@decide_eq_false_iff_not
theorem nP.{u_1}:∀ {α:Type u_1} {a:α} {l:List α},a∈a :: l:=@List.mem_cons_self
theorem nQ:∀ {m n:Nat},m∈List.range n↔m < n:=@List.mem_range
theorem oC.{u}:∀ {α:Type u} {R:α->α->Prop} {a:α} {l:List α},   List.Pairwise R (a :: l)↔(∀ (a':α),a'∈l->R a a')∧List.Pairwise R l:=@List.pairwise_cons
theorem oD.{u_1,u_2}:∀ {α:Type u_1} {β:Type u_2} {f:α->β} {l:List α} {i:Nat},(List.map f l)[i]?=Option.map f l[i]?:=@List.getElem?_map
theorem oF.{u_1,u_2}:∀ {α:Type u_1} {β:Type u_2} (a:α) (f:α->β),Option.map f (some a)=some (f a):=@Option.map_some
theorem oZ.{u_1}:∀ {α:Type u_1} {l:List α} {i j:Nat},(List.take i l)[j]?=if j < i then l[j]? else none:=@List.getElem?_take
theorem pq.{u_1}:∀ {α:Type u_1} [inst:BEq α] [LawfulBEq α] {a:α} {xs:List α},List.contains xs a=true↔a∈xs:=@List.contains_iff_mem
theorem pz.{u_1}:∀ {α:Type u_1} {l:List α},List.take (List.length l) l=l:=@List.take_length
theorem qm:∀ (n:Nat),n+0=n:=@Nat.add_zero
theorem qo:∀ {p:Prop} [inst:Decidable p],decide p=true->p:=@of_decide_eq_true
theorem qY:∀ {n m:Nat},Nat.beq n m=true->n=m:=@Nat.eq_of_beq_eq_true
theorem sI.{u_1}:∀ {α:Type u_1} {a:α} {s t:List α},a∈s++t↔a∈s∨a∈t:=@List.mem_append
theorem sJ.{u_1}:∀ {α:Type u_1} {a b:α},a∈[b]↔a=b:=@List.mem_singleton
theorem sK.{u_1}:∀ {α:Type u_1} {l₁ l₂:List α} {i:Nat},i < List.length l₁->(l₁++l₂)[i]?=l₁[i]?:=@List.getElem?_append_left
theorem sM.{u,v}:∀ {α:Type u} {β:Type v} {f:α->β},List.map f []=[]:=@List.map_nil
theorem uH.{u_1}:∀ {α:Type u_1} {a:α} {l:List α},(a :: l)[0]?=some a:=@List.getElem?_cons_zero
theorem uI.{u}:∀ {α:Type u} (xs:List α),[]++xs=xs:=@List.nil_append
theorem uJ.{u_1}:∀ {α:Type u_1} {l₁ l₂:List α} {i:Nat},List.length l₁<=i->(l₁++l₂)[i]?=l₂[i - List.length l₁]?:=@List.getElem?_append_right
theorem xM:(false=true)=False:=@Bool.false_eq_true
theorem xO:∀ {p:Prop} [Decidable p],¬¬p↔p:=@Decidable.not_not
abbrev aj := Value
theorem nT {a b:Bool} (h:a=b):Value.bool a=Value.bool b:=congrArg _ h
end
abbrev bD (f : FuncId) : Prop := ∀ (args : Array Value) (w : World), (callFunc f args).run Tryd.prog w = .ok (.enter f args) w
open Go.RowKit
section
def FW (r:Option Nat):Fence:={ Fence.wide with round:=r }
theorem Cx (r:Option Nat):(FW r).depth.isSome=true->1<=(0:Nat):=by intro h;cases h
abbrev WP (r:Option Nat) (P:Program) (c:Code) (Q:Exit->Act->World->Prop) (a:Act) (w:World):Prop:=c.wpIn (FW r) 0 P Q a w
abbrev WL (r:Option Nat) (P:Program) (ops:Array Oper) (Q:Exit->Act->World->Prop) (l:List Oper) (a:Act) (w:World):Prop:=wpListIn (FW r) 0 P ops Q l a w
theorem GL {r:Option Nat} {n:Nat} {P:Program} {f:FuncId} {args:Array aj} {w:World} {R:Ending->World->Prop} (h:Calls P f args w R):CallsIn (FW r) n P f args w R:=callsIn_wide.2 h
theorem Xn {r:Option Nat} {n:Nat} {P:Program} {f:FuncId} {args:Array aj} {w:World} {R:Ending->World->Prop} (h:CallsIn (FW r) n P f args w R):Calls P f args w R:=callsIn_wide.1 h
def lk:List (Nat × aj)->Nat->Option aj
 | [],_=>none
 | (s,v) :: r,t=>bif Nat.beq s t then some v else lk r t
theorem nW (t:Nat) (v:aj) (T:List (Nat × aj)):lk ((t,v) :: T) t=some v:=by simp [lk]
theorem mM {s t:Nat} (h:s≠t) (v:aj) (T:List (Nat × aj)):lk ((s,v) :: T) t=lk T t:=by
 have:Nat.beq s t=false:=by
  cases h':Nat.beq s t with
  | false=>rfl
  | true=>exact absurd (qY h') h
 simp [lk,this]
def ev (T:List (Nat × aj)):Operand->Option aj
 | .tmp t=>lk T t
 | .const v=>some v
 | .global g=>some (.pointer (some ⟨g,0,none⟩))
 | .func f=>some (.func (.func f) #[] #[])
def evs (T:List (Nat × aj)):List Operand->Option (List aj)
 | []=>some []
 | x :: r=>match ev T x,evs T r with|some v,some vs=>some (v :: vs)|_,_=>none
abbrev GH:=Nat->Option Obj
structure Hp (w0:World) (F:Nat->Prop) (G0 G:GH) (L:List (Nat × Obj)) (w:World):Prop where
 os:w.os=w0.os
 tape:w.tape=w0.tape
 output:w.output=w0.output
 size:w0.heap.size<=w.heap.size
 nk:∀ k,F k->k < w0.heap.size
 fr:∀ k,F k->w.heap[k]?=w0.heap[k]?
 ro:∀ k o,G k=some o->w.heap[k]?=some o
 gm:∀ k o,G0 k=some o->G k=some o
 gx:∀ k o,G k=some o->G0 k=some o∨¬ F k
 own:∀ p∈L,w.heap[p.1]?=some p.2
 mR:∀ p∈L,G p.1=none
 lX:∀ p∈L,¬ F p.1
 nd:L.Pairwise fun p q=>p.1≠q.1
structure St (N:Nat) (D:List Deferred) (w0:World) (F:Nat->Prop) (G0 G:GH) (L:List (Nat × Obj)) (T:List (Nat × aj)) (a:Act) (w:World):Prop where
 iD:a.tmps.size=N
 get:∀ t v,lk T t=some v->a.tmps[t]?=some v
 kK:a.defers=D
 hp:Hp w0 F G0 G L w
theorem lt_of_heap {w:World} {k:Nat} {o:Obj} (h:w.heap[k]?=some o):k < w.heap.size:=(Array.getElem?_eq_some_iff.1 h).1
structure mZ (b:Nat) (o:Obj) (w w':World):Prop where
 os:w'.os=w.os
 tape:w'.tape=w.tape
 output:w'.output=w.output
 size:w'.heap.size=w.heap.size
 this:w'.heap[b]?=some o
 others:∀ k,k≠b->w'.heap[k]?=w.heap[k]?
section
variable {N:Nat} {D:List Deferred} {w0 w w':World} {F:Nat->Prop} {G0 G G':GH} {L L':List (Nat × Obj)} {T:List (Nat × aj)} {a:Act} {b:Nat} {o o':Obj}
theorem Hp.lt (h:Hp w0 F G0 G L w) {p:Nat × Obj} (hp:p∈L):p.1 < w.heap.size:=lt_of_heap (h.own p hp)
theorem Hp.alloc (h:Hp w0 F G0 G L w) (o:Obj):Hp w0 F G0 G ((w.heap.size,o) :: L) (w.alloc o):=by
 have hold:∀ k,k < w.heap.size->(w.alloc o).heap[k]?=w.heap[k]?:=fun k hk=>Below.heap_alloc w o k hk
 refine ⟨h.os,h.tape,h.output,by simp;exact Nat.le_succ_of_le h.size,h.nk,fun k hk=>(hold k (Nat.lt_of_lt_of_le (h.nk k hk) h.size)).trans (h.fr k hk),fun k o' hk=>(hold k (lt_of_heap (h.ro k o' hk))).trans (h.ro k o' hk),h.gm,h.gx,?_,?_,?_,?_⟩
 ·intro p hp
  rcases mq.1 hp with rfl|hp
  ·show (w.heap.push o)[w.heap.size]?=some o;simp
  ·exact (hold _ (h.lt hp)).trans (h.own p hp)
 ·intro p hp
  rcases mq.1 hp with rfl|hp
  ·cases hg:G w.heap.size with
   | none=>rfl
   | some o'=>exact absurd (lt_of_heap (h.ro _ _ hg)) (Nat.lt_irrefl _)
  ·exact h.mR p hp
 ·intro p hp
  rcases mq.1 hp with rfl|hp
  ·intro hf;exact absurd (Nat.lt_of_lt_of_le (h.nk _ hf) h.size) (Nat.lt_irrefl _)
  ·exact h.lX p hp
 ·refine oC.2 ⟨fun q hq=>?_,h.nd⟩
  have:=h.lt hq
  simp only;omega
theorem Hp.below (h:Hp w0 F G0 G L w) (hb:Below w.heap.size w w'):Hp w0 F G0 G L w':=by
 refine ⟨hb.os.trans h.os,hb.tape.trans h.tape,hb.output.trans h.output,Nat.le_trans h.size hb.size,h.nk,fun k hk=>(hb.block k (Nat.lt_of_lt_of_le (h.nk k hk) h.size)).trans (h.fr k hk),fun k o hk=>(hb.block k (lt_of_heap (h.ro k o hk))).trans (h.ro k o hk),h.gm,h.gx,fun p hp=>(hb.block _ (h.lt hp)).trans (h.own p hp),h.mR,h.lX,h.nd⟩
def Ext (n1:Nat) (G G':GH) (w':World):Prop:=(∀ k o,G k=some o->G' k=some o)∧(∀ k o,G' k=some o->G k=some o∨n1<=k)∧(∀ k o,G' k=some o->w'.heap[k]?=some o)
theorem Hp.Md (h:Hp w0 F G0 G L w) (hb:Below w.heap.size w w') (hx:Ext w.heap.size G G' w'):Hp w0 F G0 G' L w':=by
 have h':=h.below hb
 refine ⟨h'.os,h'.tape,h'.output,h'.size,h'.nk,h'.fr,hx.2.2,fun k o hk=>hx.1 k o (h.gm k o hk),fun k o hk=>?_,h'.own,fun p hp=>?_,h'.lX,h'.nd⟩
 ·rcases hx.2.1 k o hk with hk|hk
  ·exact h.gx k o hk
  ·exact .inr fun hf=>absurd (Nat.lt_of_lt_of_le (h.nk k hf) h.size) V
 ·cases hg:G' p.1 with
  | none=>rfl
  | some o =>
   rcases hx.2.1 _ _ hg with hk|hk
   ·rw [h.mR p hp] at hk;cases hk
   ·exact absurd (h.lt hp) V
theorem JN:∀ {L:List (Nat × Obj)} {i b:Nat} {o o':Obj},L.Pairwise (fun p q=>p.1≠q.1)->L[i]?=some (b,o)->(L.set i (b,o')).Pairwise fun p q=>p.1≠q.1
 | [],_,_,_,_,h,_=>h
 | p :: L,0,b,o,o',h,hi=>by
  simp only [uH,jL] at hi
  subst hi
  exact oC.2 ⟨(oC.1 h).1,(oC.1 h).2⟩
 | p :: L,i+1,b,o,o',h,hi=>by
  simp only [List.getElem?_cons_succ] at hi
  refine oC.2 ⟨fun q hq=>?_,JN (oC.1 h).2 hi⟩
  rcases List.mem_or_eq_of_mem_set hq with hq|rfl
  ·exact (oC.1 h).1 q hq
  ·exact (oC.1 h).1 (b,o) (iU hi)
theorem JD:∀ {L:List (Nat × Obj)} {i:Nat} {p q:Nat × Obj},L.Pairwise (fun p q=>p.1≠q.1)->L[i]?=some p->q∈L->q.1=p.1->q=p
 | [],_,_,_,_,h,_,_=>by simp at h
 | x :: L,0,p,q,h,hi,hq,e=>by
  simp only [uH,jL] at hi
  subst hi
  rcases mq.1 hq with rfl|hq
  ·rfl
  ·exact absurd e.symm ((oC.1 h).1 q hq)
 | x :: L,i+1,p,q,h,hi,hq,e=>by
  simp only [List.getElem?_cons_succ] at hi
  rcases mq.1 hq with rfl|hq
  ·exact absurd e ((oC.1 h).1 p (iU hi))
  ·exact JD (oC.1 h).2 hi hq e
theorem Hp.upd (h:Hp w0 F G0 G L w) {i:Nat} (hi:L[i]?=some (b,o)) (hu:mZ b o' w w'):Hp w0 F G0 G (L.set i (b,o')) w':=by
 have hm:(b,o)∈L:=iU hi
 refine ⟨hu.os.trans h.os,hu.tape.trans h.tape,hu.output.trans h.output,hu.size ▸ h.size,h.nk,fun k hk=>?_,fun k o hk=>?_,h.gm,h.gx,fun p hp=>?_,fun p hp=>?_,fun p hp=>?_,JN h.nd hi⟩
 ·exact (hu.others k (fun e=>h.lX _ hm (e ▸ hk))).trans (h.fr k hk)
 ·refine (hu.others k (fun e=>?_)).trans (h.ro k o hk)
  have:=h.mR _ hm
  rw [<- e,hk] at this;cases this
 ·by_cases e:p.1=b
  ·rcases List.mem_or_eq_of_mem_set hp with hp'|rfl
   ·obtain ⟨j,hj⟩:=List.getElem?_of_mem hp
    have hib:i < L.length:=(fV.1 hi).1
    have hset:(L.set i (b,o'))[i]?=some (b,o'):=by simp [hib]
    have:=JD (JN (o':=o') h.nd hi) hset hp e
    rw [this];exact hu.this
   ·exact hu.this
  ·rcases List.mem_or_eq_of_mem_set hp with hp|rfl
   ·exact (hu.others _ e).trans (h.own p hp)
   ·exact absurd O e
 ·rcases List.mem_or_eq_of_mem_set hp with hp|rfl
  ·exact h.mR p hp
  ·exact (h.mR (b,o) hm:G b=none)
 ·rcases List.mem_or_eq_of_mem_set hp with hp|rfl
  ·exact h.lX p hp
  ·exact (h.lX (b,o) hm:¬ F b)
theorem Hp.drew (h:Hp w0 F G0 G L w):Hp w0 F G0 G L w.drew:=⟨h.os,h.tape,h.output,h.size,h.nk,h.fr,h.ro,h.gm,h.gx,h.own,h.mR,h.lX,h.nd⟩
theorem Hp.drop (h:Hp w0 F G0 G L w) (hs:L'.Sublist L):Hp w0 F G0 G L' w:=⟨h.os,h.tape,h.output,h.size,h.nk,h.fr,h.ro,h.gm,h.gx,fun p hp=>h.own p (hs.subset hp),fun p hp=>h.mR p (hs.subset hp),fun p hp=>h.lX p (hs.subset hp),h.nd.sublist hs⟩
theorem Hp.dB {Pl bS Lo:List (Nat × Obj)} (h:Hp w0 F G0 G (Pl++Lo) w) (idx:List Nat) (hi:idx.Nodup) (hL:idx.map (fun i=>Pl[i]?)=bS.map some):Hp w0 F G0 G (bS++Lo) w:=by
 have hget:∀ (j:Nat) (p:Nat × Obj),bS[j]?=some p->∃ i:Nat,idx[j]?=some i∧Pl[i]?=some p:=by
  intro j p hp
  have h1:(idx.map (fun i=>Pl[i]?))[j]?=some (some p):=by rw [hL];simp [hp]
  rw [oD] at h1
  obtain ⟨i,hi1,hi2⟩:=kR.1 h1
  exact ⟨i,hi1,hi2⟩
 have hmem:∀ p∈bS++Lo,p∈Pl++Lo:=by
  intro p hp
  rcases sI.1 hp with hp|hp
  ·obtain ⟨j,hj⟩:=List.getElem?_of_mem hp
   obtain ⟨i,_,hi2⟩:=hget j p hj
   exact List.mem_append_left _ (iU hi2)
  ·exact List.mem_append_right _ hp
 have hnd:=List.pairwise_append.1 h.nd
 refine ⟨h.os,h.tape,h.output,h.size,h.nk,h.fr,h.ro,h.gm,h.gx,fun p hp=>h.own p (hmem p hp),fun p hp=>h.mR p (hmem p hp),fun p hp=>h.lX p (hmem p hp),List.pairwise_append.2 ⟨?_,hnd.2.1,fun p hp q hq=>?_⟩⟩
 ·refine List.pairwise_iff_getElem.2 fun x y hx hy hxy=>?_
  obtain ⟨i,hi1,hi2⟩:=hget x _ (gU hx)
  obtain ⟨j,hj1,hj2⟩:=hget y _ (gU hy)
  have hij:i≠j:=by
   intro e
   subst e
   obtain ⟨hx1,hx2⟩:=fV.1 hi1
   obtain ⟨hy1,hy2⟩:=fV.1 hj1
   exact (List.pairwise_iff_getElem.1 hi x y hx1 hy1 hxy) (by rw [hx2,hy2])
  obtain ⟨hi3,hi4⟩:=fV.1 hi2
  obtain ⟨hj3,Rp⟩:=fV.1 hj2
  rcases Nat.lt_or_ge i j with hlt|hge
  ·rw [<- hi4,<- Rp];exact List.pairwise_iff_getElem.1 hnd.1 i j hi3 hj3 hlt
  ·rw [<- hi4,<- Rp];exact Ne.symm (List.pairwise_iff_getElem.1 hnd.1 j i hj3 hi3 V)
 ·obtain ⟨j,hj⟩:=List.getElem?_of_mem hp
  obtain ⟨i,_,hi2⟩:=hget j p hj
  exact hnd.2.2 p (iU hi2) q hq
def GH.add (G:GH) (b:Nat) (o:Obj):GH:=fun k=>if k=b then some o else G k
theorem GH.FN (G:GH) {b:Nat} {o:Obj} (hn:G b=none) (k:Nat) (o':Obj) (h:G k=some o'):(G.add b o) k=some o':=by
 unfold GH.add;rw [aL (fun e=>by subst e;rw [hn] at h;cases h)];exact h
theorem GH.LX (G:GH) (b:Nat) (o:Obj):(G.add b o) b=some o:=by simp [GH.add]
theorem Hp.giveUp (h:Hp w0 F G0 G L w) (i:Nat) (hi:L[i]?=some (b,o)):Hp w0 F G0 (G.add b o) (L.eraseIdx i) w:=by
 have hm:(b,o)∈L:=iU hi
 have hsub:(L.eraseIdx i).Sublist L:=List.eraseIdx_sublist L i
 have hne:∀ p∈L.eraseIdx i,p.1≠b:=by
  intro p hp e
  have h1:=JD h.nd hi (hsub.subset hp) e
  subst h1
  obtain ⟨j,hj,hjp⟩:=List.mem_eraseIdx_iff_getElem?.1 hp
  have hnd:=h.nd
  have hij:j≠i:=hj
  have hlt1:j < L.length:=(fV.1 hjp).1
  have hlt2:i < L.length:=(fV.1 hi).1
  have e1:=(fV.1 hjp).2
  have e2:=(fV.1 hi).2
  rcases Nat.lt_or_ge j i with hlt|hge
  ·exact (List.pairwise_iff_getElem.1 hnd j i hlt1 hlt2 hlt) (by rw [e1,e2])
  ·exact (List.pairwise_iff_getElem.1 hnd i j hlt2 hlt1 V) (by rw [e1,e2])
 refine ⟨h.os,h.tape,h.output,h.size,h.nk,h.fr,fun k o' hk=>?_,fun k o' hk=>GH.FN G (h.mR _ hm) k o' (h.gm k o' hk),fun k o' hk=>?_,fun p hp=>h.own p (hsub.subset hp),fun p hp=>?_,fun p hp=>h.lX p (hsub.subset hp),h.nd.sublist hsub⟩
 ·unfold GH.add at hk
  split at hk
  ·rename_i e;subst e;cases hk;exact h.own _ hm
  ·exact h.ro k o' hk
 ·unfold GH.add at hk
  split at hk
  ·rename_i e;subst e;exact .inr (h.lX _ hm)
  ·exact h.gx k o' hk
 ·unfold GH.add
  rw [aL (hne p hp)]
  exact h.mR p (hsub.subset hp)
theorem St.ev (h:St N D w0 F G0 G L T a w) {x:Operand} {v:aj} (hx:Proofs.YtomebajfpcjoeaaDoor.ev T x=some v):a.eval x=v:=by
 cases x with
 | tmp t =>
  have:=h.get t v hx
  simp only [Act.eval,Array.getD_eq_getD_getElem?,this,Option.getD_some]
 | const u=>simp only [Proofs.YtomebajfpcjoeaaDoor.ev,jL] at hx;subst hx;rfl
 | global g=>simpa [Proofs.YtomebajfpcjoeaaDoor.ev,Act.eval] using hx
 | func f=>simpa [Proofs.YtomebajfpcjoeaaDoor.ev,Act.eval] using hx
theorem St.evs (h:St N D w0 F G0 G L T a w):∀ {xs:List Operand} {vs:List aj},Proofs.YtomebajfpcjoeaaDoor.evs T xs=some vs->xs.map a.eval=vs
 | [],vs,hx=>by simp [Proofs.YtomebajfpcjoeaaDoor.evs] at hx;subst hx;rfl
 | x :: xs,vs,hx=>by
  unfold Proofs.YtomebajfpcjoeaaDoor.evs at hx
  split at hx
  ·rename_i v vs' h1 h2
   simp only [jL] at hx
   subst hx
   rw [gV,h.ev h1,h.evs h2]
  ·cases hx
theorem St.put (h:St N D w0 F G0 G L T a w) {d:Nat} (hd:Nat.blt d N=true) (v:aj) (H':Hp w0 F G0 G' L' w'):St N D w0 F G0 G' L' ((d,v) :: T) (a.put (some d) v) w':=by
 have hlt:d < a.tmps.size:=by rw [h.iD];exact Eq.mp Nat.blt_eq hd
 refine ⟨by simp [Act.put,h.iD],fun t u ht=>?_,h.kK,H'⟩
 simp only [Act.put,Array.getElem?_setIfInBounds]
 by_cases e:d=t
 ·subst e
  rw [nW] at ht
  simp [hlt];simpa using ht
 ·rw [mM e] at ht
  simp [e];exact h.get t u ht
theorem St.move (h:St N D w0 F G0 G L T a w) (H':Hp w0 F G0 G' L' w'):St N D w0 F G0 G' L' T a w':=⟨h.iD,h.get,h.kK,H'⟩
def Km (T:List (Nat × aj)):List (Nat × aj)->Prop
 | []=>True
 | (t,v) :: r=>lk T t=some v∧Km T r
theorem Ux {T:List (Nat × aj)}:∀ {T':List (Nat × aj)},Km T T'->∀ {t v},lk T' t=some v->lk T t=some v
 | [],_,_,_,h=>by simp [lk] at h
 | (s,u) :: r,hs,t,v,h=>by
  by_cases e:s=t
  ·subst e;rw [nW] at h;exact h ▸ hs.1
  ·rw [mM e] at h;exact Ux hs.2 h
theorem St.sub (h:St N D w0 F G0 G L T a w) {T':List (Nat × aj)} (hs:Km T T'):St N D w0 F G0 G L T' a w:=⟨h.iD,fun t v ht=>h.get t v (Ux hs ht),h.kK,h.hp⟩
theorem St.dB {Pl bS Lo:List (Nat × Obj)} (h:St N D w0 F G0 G (Pl++Lo) T a w) (idx:List Nat) (hi:idx.Nodup) (hL:idx.map (fun i=>Pl[i]?)=bS.map some):St N D w0 F G0 G (bS++Lo) T a w:=⟨h.iD,h.get,h.kK,h.hp.dB idx hi hL⟩
end
end
section
section base
variable {r:Option Nat} {P:Program} {ops:Array Oper} {Q:Exit->Act->World->Prop} {rest:List Oper} {a:Act} {w w':World} {o:Oper}
def Ew:Op->Bool
 | .defer _=>false
 | _=>true
theorem J8 {o:Oper} {ro:Option Nat} {ρ:Operand->aj} (h:Ew o.op=true):o.semAt ro ρ=execOp ρ o :=
 Oper.semAt_eq ro ρ o fun c e=>by rw [e] at h;cases h
theorem aB (h:Q .normal a w):WL r P ops Q [] a w:=wpListIn_nil h
theorem KZ (hw:Region.wanted o (yielded ops a.tmps)=true) (h:o.wpIn (FW r) 0 P a w (WL r P ops Q rest) Q):WL r P ops Q (o :: rest) a w:=by
 show wpListIn (FW r) 0 P ops Q (o :: rest) a w
 unfold wpListIn
 rw [aM hw]
 exact h
theorem Vk (hw:Region.wanted o (yielded ops a.tmps)=false) (h:WL r P ops Q rest (a.put o.dst undef) w):WL r P ops Q (o :: rest) a w:=by
 show wpListIn (FW r) 0 P ops Q (o :: rest) a w
 unfold wpListIn
 rw [aL (by simp [hw])]
 exact ⟨fun _ _=>trivial,h⟩
theorem bX {v:aj} (hw:Region.wanted o (yielded ops a.tmps)=true) (hd:Ew o.op=true) (h:(execOp a.eval o).run P w=.ok (.value v) w')
  (k:WL r P ops Q rest (a.put o.dst v) w'):WL r P ops Q (o :: rest) a w:=by
 refine KZ hw ⟨fun _ _=>trivial,?_⟩
 rw [J8 hd,h]
 exact k
theorem Vm (hw:Region.wanted o (yielded ops a.tmps)=true) (hd:Ew o.op=true) (h:(execOp a.eval o).run P w=.ok .skip w')
  (k:WL r P ops Q rest (a.put o.dst undef) w'):WL r P ops Q (o :: rest) a w:=by
 refine KZ hw ⟨fun _ _=>trivial,?_⟩
 rw [J8 hd,h]
 exact k
def After (P:Program) (nx:Result Next) (R:Ending->World->Prop):Prop :=
 match nx with
 | .ok (.enter f args) w'=>Calls P f args w' R
 | .ok (.round l f tmps assign body) w'=>RoundIn (FW none) 0 P l f tmps assign body w' R
 | _=>False
structure qV (P:Program) (fv:aj) (args:List aj) (w:World) (R:Ending->World->Prop):Prop where
 go:After P ((do let d <- Deferred.ofValue fv args.toArray;invoke d.target d.args:Sem Next).run P w) R
theorem KY {nx:Result Next} {R:Ending->World->Prop} (hw:Region.wanted o (yielded ops a.tmps)=true) (hd:Ew o.op=true) (h:(execOp a.eval o).run P w=nx) (hc:After P nx R)
  (k:∀ e w',R e w'->∃ v,e=.returned v∧WL r P ops Q rest (a.put o.dst v) w'):WL r P ops Q (o :: rest) a w:=by
 refine KZ hw ⟨fun _ _=>trivial,?_⟩
 rw [J8 hd,h]
 cases nx with
 | halt x y=>exact hc.elim
 | ok x w1 =>
  cases x with
  | enter f args =>
   refine ⟨Cx r,(GL hc).mono fun e w2 hR=>?_⟩
   obtain ⟨v,rfl,hk⟩:=k e w2 hR
   exact hk
  | round l f tmps assign body =>
   have hc':RoundIn (FW none) 0 P l f tmps assign body w1 R:=hc
   refine ⟨Cx r,?_⟩
   have h2:RoundIn (FW r) (0 - 1) P l f tmps assign body w1 R:=⟨aH,fun c cs hr=>hc'.2 c cs (room_wide _)⟩
   exact h2.mono fun e w2 hR=>by obtain ⟨v,rfl,hk⟩:=k e w2 hR;exact hk
  | _=>exact hc.elim
end base
section steps
variable {N:Nat} {D:List Deferred} {w0:World} {F:Nat->Prop} {G0 G:GH} {L:List (Nat × Obj)} {T:List (Nat × aj)}
variable {r:Option Nat} {P:Program} {ops:Array Oper} {Q:Exit->Act->World->Prop} {rest:List Oper} {a:Act} {w:World}
variable {d:Nat} {ty:TypeId} {pos:String} {aC:Array Edge} {g:Option (Nat × Bool)}
theorem wn {op:Op} {dst:Option Tmp} {y:Nat->Option Bool}:Region.wanted ⟨dst,op,ty,pos,aC,none⟩ y=true:=rfl
theorem Vq (H:St N D w0 F G0 G L T a w) {j t:Nat} {b:Bool} (hj:(ops[j]?).bind (·.dst)=some t) (ht:lk T t=some (.bool b)):yielded ops a.tmps j=some b:=by
 unfold yielded
 rw [hj]
 simp [H.get t _ ht]
theorem wg (H:St N D w0 F G0 G L T a w) {op:Op} {dst:Option Tmp} {j t:Nat} {want b:Bool} (hj:(ops[j]?).bind (·.dst)=some t) (ht:lk T t=some (.bool b)) (hb:b=want) :
  Region.wanted ⟨dst,op,ty,pos,aC,some (j,want)⟩ (yielded ops a.tmps)=true:=by
 simp [Region.wanted,Vq H hj ht,hb]
theorem T9 (H:St N D w0 F G0 G L T a w) {op:Op} {j t:Nat} {want b:Bool} (hj:(ops[j]?).bind (·.dst)=some t) (ht:lk T t=some (.bool b)) (hb:b=!want) (hd:Nat.blt d N=true)
  (k:∀ a',St N D w0 F G0 G L ((d,undef) :: T) a' w->WL r P ops Q rest a' w):WL r P ops Q (⟨some d,op,ty,pos,aC,some (j,want)⟩ :: rest) a w:=by
 refine Vk ?_ (k _ (H.put hd undef H.hp))
 simp only [Region.wanted,Vq H hj ht,hb]
 cases want <;> rfl
theorem adU (H:St N D w0 F G0 G L T a w) {op:Op} {j t:Nat} {want:Bool} (hj:(ops[j]?).bind (·.dst)=some t) (ht:lk T t=some undef) (hd:Nat.blt d N=true)
  (k:∀ a',St N D w0 F G0 G L ((d,undef) :: T) a' w->WL r P ops Q rest a' w):WL r P ops Q (⟨some d,op,ty,pos,aC,some (j,want)⟩ :: rest) a w:=by
 refine Vk ?_ (k _ (H.put hd undef H.hp))
 have h:yielded ops a.tmps j=none:=by
  unfold yielded
  rw [hj]
  simp [H.get t _ ht,undef]
 simp only [Region.wanted,h]
 cases want <;> rfl
theorem adY (_H:St N D w0 F G0 G L T a w) (t:Nat) {b:Bool} {X:Prop} (_ht:lk T t=some (.bool b)) (h1:b=true->X) (h0:b=false->X):X:=by cases b <;> simp_all
theorem zI {x:Operand} {v:aj} (H:St N D w0 F G0 G L T a w) (hw:Region.wanted ⟨some d,.move x,ty,pos,aC,g⟩ (yielded ops a.tmps)=true) (hx:ev T x=some v) (hd:Nat.blt d N=true)
  (k:∀ a',St N D w0 F G0 G L ((d,v) :: T) a' w->WL r P ops Q rest a' w):WL r P ops Q (⟨some d,.move x,ty,pos,aC,g⟩ :: rest) a w :=
 bX (v:=v) (w':=w) hw O (by simp [execOp,H.ev hx]) (k _ (H.put hd v H.hp))
theorem adB {x:Operand} {v:aj} (H:St N D w0 F G0 G L T a w) (hw:Region.wanted ⟨some d,.assign x,ty,pos,aC,g⟩ (yielded ops a.tmps)=true) (hx:ev T x=some v) (hd:Nat.blt d N=true)
  (k:∀ a',St N D w0 F G0 G L ((d,v) :: T) a' w->WL r P ops Q rest a' w):WL r P ops Q (⟨some d,.assign x,ty,pos,aC,g⟩ :: rest) a w :=
 bX (v:=v) (w':=w) hw O (by simp [execOp,H.ev hx]) (k _ (H.put hd v H.hp))
theorem TW {c x y:Operand} {b:Bool} {v:aj} (H:St N D w0 F G0 G L T a w) (hw:Region.wanted ⟨some d,.pick c x y,ty,pos,aC,g⟩ (yielded ops a.tmps)=true) (hc:ev T c=some (.bool b)) (hb:b=true) (hx:ev T x=some v) (hd:Nat.blt d N=true)
  (k:∀ a',St N D w0 F G0 G L ((d,v) :: T) a' w->WL r P ops Q rest a' w):WL r P ops Q (⟨some d,.pick c x y,ty,pos,aC,g⟩ :: rest) a w :=
 bX (v:=v) (w':=w) hw O (by simp [execOp,H.ev hx,H.ev hc,asBool,hb]) (k _ (H.put hd v H.hp))
theorem TV {c x y:Operand} {b:Bool} {v:aj} (H:St N D w0 F G0 G L T a w) (hw:Region.wanted ⟨some d,.pick c x y,ty,pos,aC,g⟩ (yielded ops a.tmps)=true) (hc:ev T c=some (.bool b)) (hb:b=false) (hx:ev T y=some v) (hd:Nat.blt d N=true)
  (k:∀ a',St N D w0 F G0 G L ((d,v) :: T) a' w->WL r P ops Q rest a' w):WL r P ops Q (⟨some d,.pick c x y,ty,pos,aC,g⟩ :: rest) a w :=
 bX (v:=v) (w':=w) hw O (by simp [execOp,H.ev hx,H.ev hc,asBool,hb]) (k _ (H.put hd v H.hp))
class Und (P:Program) (t:TypeId) (d:outParam TypeDesc):Prop where
 h:P.underlying t=some d
class Ty (P:Program) (t:TypeId) (sz bytes:outParam Nat) (zero:outParam (List aj)) (agg:outParam Bool):Prop where
 info:(P.info? t).map (fun i=>(i.size,i.bytes,i.zero.map fun z=>z.cells.toList))=some (sz,bytes,some zero)
 ag:(P.underlying t).map (fun|.struct _=>true|.array _ _=>true|_=>false)=some agg
theorem Ty.parts {t:TypeId} {sz bytes:Nat} {zero:List aj} {agg:Bool} (h:Ty P t sz bytes zero agg):∃ i z,P.info? t=some i∧i.size=sz∧i.bytes=bytes∧i.zero=some z∧z.cells=zero.toArray:=by
 obtain ⟨i,hi,hx⟩:=kR.1 h.info
 simp only [dX] at hx
 obtain ⟨z,hz,hzz⟩:=kR.1 hx.2.2
 exact ⟨i,z,hi,hx.1,hx.2.1,hz,by rw [<- hzz]⟩
theorem wR {t:TypeId} {i:TypeInfo} (h:P.info? t=some i) (w:World):(typeInfo t).run P w=.ok i w:=by simp [typeInfo,program,Sem.run,bE,h]
theorem Ty.qO {t:TypeId} {sz bytes:Nat} {zero:List aj} {agg:Bool} (h:Ty P t sz bytes zero agg) (w:World):(sizeOf t).run P w=.ok sz w:=by
 obtain ⟨i,z,hi,h1,-,-,-⟩:=h.parts
 simp [sizeOf,bE,wR hi,h1]
theorem Ty.TM {t:TypeId} {sz bytes:Nat} {zero:List aj} {agg:Bool} (h:Ty P t sz bytes zero agg) (w:World):∃ z,(zeroValue t).run P w=.ok z w∧z.cells=zero.toArray:=by
 obtain ⟨i,z,hi,-,-,h1,h2⟩:=h.parts
 exact ⟨z,by simp [zeroValue,bE,wR hi,h1],h2⟩
theorem jK {t:TypeId} {u:TypeDesc} (h:P.underlying t=some u) (w:World):(underlying t).run P w=.ok u w:=by simp [underlying,program,Sem.run,bE,h]
theorem Ty.JY {t:TypeId} {sz bytes:Nat} {zero:List aj} {agg:Bool} (h:Ty P t sz bytes zero agg) (w:World):(isAgg t).run P w=.ok agg w:=by
 obtain ⟨u,hu,hx⟩:=kR.1 h.ag
 unfold isAgg
 simp only [bE,jK hu,gJ]
 cases u <;> simp_all
theorem jv {elem:TypeId} {sz bytes:Nat} {zero:List aj} {agg:Bool} (ht:Ty P elem sz bytes zero agg) (H:St N D w0 F G0 G L T a w) (hw:Region.wanted ⟨some d,.alloc elem,ty,pos,aC,g⟩ (yielded ops a.tmps)=true) (hd:Nat.blt d N=true)
  (k:∀ b a' w',w0.heap.size<=b->St N D w0 F G0 G ((b,.cells zero.toArray elem (0,0)) :: L) ((d,.pointer (some ⟨b,0,none⟩)) :: T) a' w'->WL r P ops Q rest a' w'):WL r P ops Q (⟨some d,.alloc elem,ty,pos,aC,g⟩ :: rest) a w:=by
 obtain ⟨z,hz,hzc⟩:=ht.TM w
 refine bX (v:=.pointer (some ⟨w.heap.size,0,none⟩)) (w':=w.alloc (.cells zero.toArray elem (0,0))) hw O ?_ (k _ _ _ H.hp.size (H.put hd _ (H.hp.alloc _)))
 simp [execOp,Instr.alloc,bE,hz,newVar,newRow,newObj,Sem.run,hzc]
theorem lV {elem:TypeId} {x:Operand} {v:aj} {cs:List aj} (H:St N D w0 F G0 G L T a w) (hw:Region.wanted ⟨some d,.box elem x,ty,pos,aC,g⟩ (yielded ops a.tmps)=true) (hx:ev T x=some v) (hc:v.cells=cs.toArray) (hd:Nat.blt d N=true)
  (k:∀ b a' w',w0.heap.size<=b->St N D w0 F G0 G ((b,.cells cs.toArray elem (0,0)) :: L) ((d,.pointer (some ⟨b,0,none⟩)) :: T) a' w'->WL r P ops Q rest a' w'):WL r P ops Q (⟨some d,.box elem x,ty,pos,aC,g⟩ :: rest) a w:=by
 refine bX (v:=.pointer (some ⟨w.heap.size,0,none⟩)) (w':=w.alloc (.cells cs.toArray elem (0,0))) hw O ?_ (k _ _ _ H.hp.size (H.put hd _ (H.hp.alloc _)))
 simp [execOp,Instr.box,bE,newVar,newRow,newObj,Sem.run,H.ev hx,hc]
def aQ (G:GH) (b o:Nat):Option aj:=match G b with|some (.cells c _ _)=>c[o]?|_=>none
theorem Hp.aQ (h:Hp w0 F G0 G L w) {b o:Nat} {v:aj} (hg:Proofs.YtomebajfpcjoeaaDoor.aQ G b o=some v):w.cell? ⟨b,o,none⟩=some v:=by
 unfold Proofs.YtomebajfpcjoeaaDoor.aQ at hg
 split at hg
 ·rename_i c e f he
  simp only [World.cell?,h.ro b _ he]
  exact hg
 ·cases hg
theorem Hp.jh (h:Hp w0 F G0 G L w) (i:Nat) {b o:Nat} {c:Array aj} {e:TypeId} {fz:Nat × Nat} {v:aj} (hi:L[i]?=some (b,.cells c e fz)) (hv:c[o]?=some v):w.cell? ⟨b,o,none⟩=some v:=by
 have:=h.own _ (iU hi)
 simp only [World.cell?] at *
 rw [this]
 exact hv
theorem add_lit (b o n:Nat):(⟨b,o,none⟩:Addr).add n=⟨b,o+n,none⟩:=by
 unfold Addr.add
 split
 ·rename_i h;subst h;rfl
 ·rfl
theorem TJ {b o:Nat} {v:aj} (h:w.cell? ⟨b,o,none⟩=some v):(load ⟨b,o,none⟩).run P w=.ok v w:=by simp [load,Sem.run,h]
theorem run_loadCells (b:Nat) (w:World):∀ (cs:List aj) (o i:Nat) (acc:Array aj),(∀ j v,cs[j]?=some v->w.cell? ⟨b,o+i+j,none⟩=some v) ->
  (loadCellsFrom ⟨b,o,none⟩ i cs.length acc).run P w=.ok (acc++cs.toArray) w
 | [],o,i,acc,_=>by simp [loadCellsFrom,Sem.run]
 | c :: cs,o,i,acc,h=>by
  have h0:=h 0 c O
  have ih:=run_loadCells b w cs o (i+1) (acc.push c) (fun j v hj=>by have:=h (j+1) v (by simpa using hj);rw [<- this];congr 2;omega)
  simp only [loadCellsFrom,jB,bE,add_lit,TJ (P:=P) (by simpa using h0),gJ,ih]
  congr 1
  apply Array.ext'
  simp
theorem iF {t:TypeId} {sz bytes:Nat} {zero:List aj} (ht:Ty P t sz bytes zero false) {x:Operand} {b o:Nat} {v:aj} (H:St N D w0 F G0 G L T a w) (hw:Region.wanted ⟨some d,.load t x,ty,pos,aC,g⟩ (yielded ops a.tmps)=true)
  (hx:ev T x=some (.pointer (some ⟨b,o,none⟩))) (hc:w.cell? ⟨b,o,none⟩=some v) (hd:Nat.blt d N=true)
  (k:∀ a',St N D w0 F G0 G L ((d,v) :: T) a' w->WL r P ops Q rest a' w):WL r P ops Q (⟨some d,.load t x,ty,pos,aC,g⟩ :: rest) a w:=by
 refine bX (v:=v) (w':=w) hw O ?_ (k _ (H.put hd v H.hp))
 simp only [execOp,Instr.loadAt,Instr.sureAddr,loadVar,bE,H.ev hx,ht.JY,gJ,jC,xM,if_false,TJ hc]
theorem dL {t:TypeId} {sz bytes:Nat} {zero:List aj} (ht:Ty P t sz bytes zero true) {x:Operand} {b o:Nat} {cs:List aj} (H:St N D w0 F G0 G L T a w) (hw:Region.wanted ⟨some d,.load t x,ty,pos,aC,g⟩ (yielded ops a.tmps)=true)
  (hx:ev T x=some (.pointer (some ⟨b,o,none⟩))) (hl:cs.length=sz) (hc:∀ j v,cs[j]?=some v->w.cell? ⟨b,o+j,none⟩=some v) (hd:Nat.blt d N=true)
  (k:∀ a',St N D w0 F G0 G L ((d,.agg cs.toArray) :: T) a' w->WL r P ops Q rest a' w):WL r P ops Q (⟨some d,.load t x,ty,pos,aC,g⟩ :: rest) a w:=by
 refine bX (v:=.agg cs.toArray) (w':=w) hw O ?_ (k _ (H.put hd _ H.hp))
 have h1:=run_loadCells (P:=P) b w cs o 0 #[] (fun j v hj=>by simpa using hc j v hj)
 simp only [Array.empty_append,hl] at h1
 simp [execOp,Instr.loadAt,Instr.sureAddr,loadVar,bE,H.ev hx,ht.JY,ht.qO,loadCells,h1]
theorem Hp.dw (h:Hp w0 F G0 G L w) (i:Nat) {b o:Nat} {c:List aj} {e:TypeId} {fz:Nat × Nat} {cs:List aj} (hi:L[i]?=some (b,.cells c.toArray e fz)) (hv:(c.drop o).take cs.length=cs):∀ j v,cs[j]?=some v->w.cell? ⟨b,o+j,none⟩=some v:=by
 intro j v hj
 refine h.jh i hi ?_
 rw [<- hv,oZ] at hj
 split at hj
 ·rw [List.getElem?_drop] at hj
  simpa using hj
 ·cases hj
theorem afy {b o:Nat} {c:Array aj} {e:TypeId} {fz:Nat × Nat} (h:w.heap[b]?=some (.cells c e fz)) (v:aj):mZ b (.cells (c.setIfInBounds o v) e fz) w (w.setCell ⟨b,o,none⟩ v):=by
 refine ⟨O,O,O,by simp,?_,fun k hk=>Below.heap_setCell w _ v k hk⟩
 simp [World.setCell,Array.getElem?_modify,h]
theorem mZ.trans {b:Nat} {o1 o2:Obj} {w1 w2 w3:World} (h:mZ b o1 w1 w2) (k:mZ b o2 w2 w3):mZ b o2 w1 w3 :=
 ⟨k.os.trans h.os,k.tape.trans h.tape,k.output.trans h.output,k.size.trans h.size,k.this,fun j hj=>(k.others j hj).trans (h.others j hj)⟩
theorem mZ.refl {b:Nat} {o:Obj} {w:World} (h:w.heap[b]?=some o):mZ b o w w:=⟨O,O,O,O,h,fun _ _=>rfl⟩
def oneCell':aj->Bool
 | .agg _|.tuple _=>false
 | _=>true
def setRow (c:List aj):Nat->List aj->List aj
 | _,[]=>c
 | o,v :: vs=>setRow (c.set o v) (o+1) vs
theorem adt {b o:Nat} {c:Array aj} {e:TypeId} {v:aj} (hb:w.heap[b]?=some (.cells c e (0,0))) (ho:o < c.size) (hv:oneCell' v=true) :
  (store ⟨b,o,none⟩ v).run P w=.ok () (w.setCell ⟨b,o,none⟩ v):=by
 have h1:w.cell? ⟨b,o,none⟩=some c[o]:=by simp [World.cell?,hb,ho]
 have h2:w.frozen? ⟨b,o,none⟩=false:=by simp [World.frozen?,hb]
 unfold store
 cases v <;> first|(simp [oneCell'] at hv;done)|(simp only [Sem.run,h1,h2];rfl)
theorem TL (b:Nat) (e:TypeId) (o0:Nat):∀ (vs:List aj) (i:Nat) (c:List aj) (w:World),w.heap[b]?=some (.cells c.toArray e (0,0))->o0+i+vs.length<=c.length->(∀ v∈vs,oneCell' v=true) ->
  ∃ w',(storeCells ⟨b,o0,none⟩ vs i).run P w=.ok () w'∧mZ b (.cells (setRow c (o0+i) vs).toArray e (0,0)) w w'
 | [],i,c,w,hb,_,_=>⟨w,by simp [storeCells,Sem.run],mZ.refl hb⟩
 | v :: vs,i,c,w,hb,hl,hv=>by
  simp only [jB] at hl
  have hr:=adt (P:=P) (o:=o0+i) (v:=v) hb (by simp;omega) (hv v (by simp))
  have hu:=afy (o:=o0+i) hb v
  have hb':=hu.this
  simp only [List.setIfInBounds_toArray] at hb' hu
  obtain ⟨w2,h2,u2⟩:=TL b e o0 vs (i+1) (c.set (o0+i) v) _ hb' (by simp;omega) (fun u hu=>hv u (by simp [hu]))
  refine ⟨w2,?_,?_⟩
  ·simp only [storeCells,bE,add_lit,hr,gJ,h2]
  ·exact hu.trans u2
theorem nI {t:TypeId} {sz bytes:Nat} {zero:List aj} {agg:Bool} (ht:Ty P t sz bytes zero agg) {x y:Operand} (i:Nat) {b o:Nat} {c:List aj} {e:TypeId} {v:aj} {vs:List aj} (c':List aj) (H:St N D w0 F G0 G L T a w) (hw:Region.wanted ⟨none,.store t x y,ty,pos,aC,g⟩ (yielded ops a.tmps)=true)
  (hx:ev T x=some (.pointer (some ⟨b,o,none⟩))) (hi:L[i]?=some (b,.cells c.toArray e (0,0))) (hy:ev T y=some v) (hvs:v.cells=vs.toArray) (hl:Nat.beq vs.length sz=true) (h1:vs.all oneCell'=true) (hle:Nat.ble (o+vs.length) c.length=true) (hset:setRow c o vs=c')
  (k:∀ w',St N D w0 F G0 G (L.set i (b,.cells c'.toArray e (0,0))) T a w'->WL r P ops Q rest a w'):WL r P ops Q (⟨none,.store t x y,ty,pos,aC,g⟩ :: rest) a w:=by
 have hb:=H.hp.own _ (iU hi)
 obtain ⟨w2,h2,u2⟩:=TL (P:=P) b e o vs 0 c w hb (by simpa using Nat.le_of_ble_eq_true hle) (fun u hu=>fM.1 h1 u hu)
 simp only [qm,hset] at u2
 refine Vm (w':=w2) hw O ?_ (k w2 (H.move (H.hp.upd hi u2)))
 have hl':vs.length=sz:=qY hl
 simp [execOp,Instr.storeAt,Instr.sureAddr,storeVar,bE,H.ev hx,H.ev hy,ht.qO,hvs,hl',h2]
class fu (P:Program) (s n:Nat) (off:outParam Nat):Prop where
 h:(match P.underlying s with|some (.struct fs)=>(fs[n]?).bind fun f=>(P.info? f.type).map fun i=>(f.offset,i.size == 0)|_=>none)=some (off,false)
theorem fu.parts {s n off:Nat} (h:fu P s n off):∃ fs fl i,P.underlying s=some (.struct fs)∧fs[n]?=some fl∧P.info? fl.type=some i∧fl.offset=off∧i.size≠0:=by
 obtain ⟨h⟩:=h
 split at h
 ·rename_i fs hs
  obtain ⟨fl,hf,h2⟩:=Option.bind_eq_some_iff.1 h
  obtain ⟨i,hi,h3⟩:=kR.1 h2
  simp only [dX,beq_eq_false_iff_ne] at h3
  exact ⟨fs,fl,i,hs,hf,hi,h3.1,h3.2⟩
 ·cases h
theorem EM {s:TypeId} {x:Operand} {n b o off:Nat} (hs:fu P s n off) (H:St N D w0 F G0 G L T a w) (hw:Region.wanted ⟨some d,.fieldAddr s x n,ty,pos,aC,g⟩ (yielded ops a.tmps)=true)
  (hx:ev T x=some (.pointer (some ⟨b,o,none⟩))) (hd:Nat.blt d N=true)
  (k:∀ a',St N D w0 F G0 G L ((d,.pointer (some ⟨b,o+off,none⟩)) :: T) a' w->WL r P ops Q rest a' w):WL r P ops Q (⟨some d,.fieldAddr s x n,ty,pos,aC,g⟩ :: rest) a w:=by
 obtain ⟨fs,fl,i,h1,h2,h3,h4,h5⟩:=hs.parts
 refine bX (v:=.pointer (some ⟨b,o+off,none⟩)) (w':=w) hw O ?_ (k _ (H.put hd _ H.hp))
 simp only [execOp,Instr.fieldAt,Instr.sureAddr,bE,H.ev hx,jK h1,h2,gJ,jC,fieldPlace,sizeOf,wR h3,aL h5,add_lit,h4]
theorem bO {s e:TypeId} {sz bytes:Nat} {zero:List aj} {agg:Bool} (hs:P.underlying s=some (.slice e)) (ht:Ty P e sz bytes zero agg) {x y:Operand} {b o n c:Nat} {kd:IntKind} {z:Int} (i:Nat) (H:St N D w0 F G0 G L T a w) (hw:Region.wanted ⟨some d,.indexAddr s x y,ty,pos,aC,g⟩ (yielded ops a.tmps)=true)
  (hx:ev T x=some (.slice (some ⟨b,o,none⟩) n c)) (hy:ev T y=some (.int kd z)) (hz:z=(i:Int)) (hn:i < n) (hd:Nat.blt d N=true)
  (k:∀ a',St N D w0 F G0 G L ((d,.pointer (some ⟨b,o+i*sz,none⟩)) :: T) a' w->WL r P ops Q rest a' w):WL r P ops Q (⟨some d,.indexAddr s x y,ty,pos,aC,g⟩ :: rest) a w:=by
 subst hz
 refine bX (v:=.pointer (some ⟨b,o+i*sz,none⟩)) (w':=w) hw O ?_ (k _ (H.put hd _ H.hp))
 have hr:(0:Int)<=i∧(i:Int) < (n:Int):=by omega
 simp only [execOp,Instr.indexAt,asIntOf,bE,H.ev hx,H.ev hy,jK hs,gJ,jC,aM hr,ht.qO,add_lit,Int.toNat_natCast]
theorem fG {x:Operand} {n:Nat} {vs:List aj} {v:aj} (H:St N D w0 F G0 G L T a w) (hw:Region.wanted ⟨some d,.extract x n,ty,pos,aC,g⟩ (yielded ops a.tmps)=true) (hx:ev T x=some (.tuple vs.toArray)) (hv:vs[n]?=some v) (hd:Nat.blt d N=true)
  (k:∀ a',St N D w0 F G0 G L ((d,v) :: T) a' w->WL r P ops Q rest a' w):WL r P ops Q (⟨some d,.extract x n,ty,pos,aC,g⟩ :: rest) a w :=
 bX (v:=v) (w':=w) hw O (by simp [execOp,Instr.extract,H.ev hx,hv]) (k _ (H.put hd _ H.hp))
theorem wW {x:Operand} {p:Addr} (H:St N D w0 F G0 G L T a w) (hw:Region.wanted ⟨some d,.nilCheck x,ty,pos,aC,g⟩ (yielded ops a.tmps)=true) (hx:ev T x=some (.pointer (some p))) (hd:Nat.blt d N=true)
  (k:∀ a',St N D w0 F G0 G L ((d,.pointer (some p)) :: T) a' w->WL r P ops Q rest a' w):WL r P ops Q (⟨some d,.nilCheck x,ty,pos,aC,g⟩ :: rest) a w :=
 bX (v:=.pointer (some p)) (w':=w) hw O (by simp [execOp,H.ev hx]) (k _ (H.put hd _ H.hp))
theorem Cc {fn:Fn} {xs:List Operand} {vs:List aj} (H:St N D w0 F G0 G L T a w) (hw:Region.wanted ⟨some d,.makeFunc fn #[] xs.toArray,ty,pos,aC,g⟩ (yielded ops a.tmps)=true) (hx:evs T xs=some vs) (hd:Nat.blt d N=true)
  (k:∀ a',St N D w0 F G0 G L ((d,.func fn #[] vs.toArray) :: T) a' w->WL r P ops Q rest a' w):WL r P ops Q (⟨some d,.makeFunc fn #[] xs.toArray,ty,pos,aC,g⟩ :: rest) a w :=
 bX (v:=.func fn #[] vs.toArray) (w':=w) hw O (by simp [execOp,Instr.makeFunc,H.evs hx]) (k _ (H.put hd _ H.hp))
def qz (pl:List (Nat × Nat)):List aj->List (Nat × List aj)->Option (List aj)
 | c,[]=>some c
 | c,(i,vs) :: rest=>match pl[i]? with
  | none=>none
  | some (off,size)=>bif Nat.beq vs.length size && Nat.ble (off+vs.length) c.length then qz pl (setRow c off vs) rest else none
theorem QL (off:Nat):∀ (vs:List aj) (j:Nat) (c:List aj),
  ((vs.zipIdx j).toArray).foldl (fun cs (x:aj × Nat)=>cs.setIfInBounds (off+x.2) x.1) c.toArray=(setRow c (off+j) vs).toArray
 | [],j,c=>by simp [setRow]
 | v :: vs,j,c=>by
  have ih:=QL off vs (j+1) (c.set (off+j) v)
  simp only [List.zipIdx_cons,List.foldl_toArray'] at *
  simp only [List.foldl_cons,List.setIfInBounds_toArray]
  exact ih
theorem fill_eq (place:Nat->Option (Nat × Nat)) (pl:List (Nat × Nat)) (hp:∀ i q,pl[i]?=some q->place i=some q):∀ (parts:List (Nat × aj)) (ED:List (Nat × List aj)) (c c':List aj),
  parts.map (fun x=>(x.1,x.2.cells.toList))=ED->qz pl c ED=some c'->Instr.fill place c.toArray parts=some c'.toArray
 | [],ED,c,c',hm,h=>by subst hm;simp [qz] at h;subst h;rfl
 | (i,v) :: parts,ED,c,c',hm,h=>by
  subst hm
  simp only [gV,qz] at h
  split at h
  ·cases h
  ·rename_i off size hq
   cases hcond:(Nat.beq v.cells.toList.length size && Nat.ble (off+v.cells.toList.length) c.length) with
   | false=>rw [hcond] at h;cases h
   | true =>
    rw [hcond] at h
    simp only [gq] at hcond
    have e1:=qY hcond.1
    have e2:=Nat.le_of_ble_eq_true hcond.2
    have ih:=fill_eq place pl hp parts _ (setRow c off v.cells.toList) c' O h
    have hf:=QL off v.cells.toList 0 c
    simp only [qm] at hf
    simp only [Array.length_toList] at e1 e2
    unfold Instr.fill
    rw [hp i _ hq]
    have hz:(v.cells.zipIdx:Array (aj × Nat))=((v.cells.toList.zipIdx 0).toArray):=by
     apply Array.ext';simp
    simp only [e1,ne_eq,not_true_eq_false,xM,decide_false,Bool.false_or,List.size_toArray]
    rw [aL (by simp;omega),hz,hf]
    exact ih
structure ow (P:Program) (t:TypeId) (pl:List (Nat × Nat)) (zero:List aj):Prop where
 h:(match P.underlying t with|some (.struct fs)=>some (fs.toList.map fun f=>(f.offset,(P.info? f.type).map (·.size)))|_=>none)=some (pl.map fun q=>(q.1,some q.2))
 z:(P.info? t).map (fun i=>i.zero.map fun z=>z.cells.toList)=some (some zero)
end steps
end
section
section steps
variable {N:Nat} {D:List Deferred} {w0:World} {F:Nat->Prop} {G0 G:GH} {L:List (Nat × Obj)} {T:List (Nat × aj)}
variable {r:Option Nat} {P:Program} {ops:Array Oper} {Q:Exit->Act->World->Prop} {rest:List Oper} {a:Act} {w:World}
variable {d:Nat} {ty:TypeId} {pos:String} {aC:Array Edge} {g:Option (Nat × Bool)}
theorem ow.parts {t:TypeId} {pl:List (Nat × Nat)} {zero:List aj} (h:ow P t pl zero):∃ fs i z,P.underlying t=some (.struct fs)∧P.info? t=some i∧i.zero=some z∧z.cells=zero.toArray ∧
  fs.toList.map (fun f=>(f.offset,(P.info? f.type).map (·.size)))=pl.map fun q=>(q.1,some q.2):=by
 obtain ⟨h,hz⟩:=h
 obtain ⟨i,hi,hx⟩:=kR.1 hz
 obtain ⟨z,hz1,hz2⟩:=kR.1 hx
 split at h
 ·rename_i fs hs
  exact ⟨fs,i,z,hs,hi,hz1,by rw [<- hz2],by simpa using h⟩
 ·cases h
theorem TK (w:World):∀ (fs:List Field) (pl:List (Nat × Nat)),fs.map (fun f=>(f.offset,(P.info? f.type).map (·.size)))=pl.map (fun q=>(q.1,some q.2)) ->
  (fs.mapM (fun f=>(do pure (f.offset,<- sizeOf f.type):Sem (Nat × Nat)))).run P w=.ok pl w
 | [],[],_=>by simp [Sem.run]
 | [],q :: pl,h=>by simp at h
 | f :: fs,[],h=>by simp at h
 | f :: fs,q :: pl,h=>by
  simp only [gV,List.cons.injEq,dX] at h
  obtain ⟨⟨h1,h2⟩,h3⟩:=h
  obtain ⟨i,hi,hs⟩:=kR.1 h2
  have ih:=TK w fs pl h3
  have hsz:(sizeOf f.type).run P w=.ok q.2 w:=by simp only [sizeOf,bE,wR hi,gJ,jC,hs]
  simp only [List.mapM_cons,bE,hsz,gJ,jC,ih,h1]
theorem run_build {t:TypeId} {pl:List (Nat × Nat)} {zero:List aj} (h:ow P t pl zero) {parts:Array (Nat × aj)} {cs:List aj}
  (hf:qz pl zero (parts.toList.map fun x=>(x.1,x.2.cells.toList))=some cs) (w:World):(Instr.build t parts).run P w=.ok (.agg cs.toArray) w:=by
 obtain ⟨fs,i,z,h1,h2,h3,h4,h5⟩:=h.parts
 have hm:=TK (P:=P) w fs.toList pl h5
 have hm':(fs.mapM (fun f=>(do pure (f.offset,<- sizeOf f.type):Sem (Nat × Nat)))).run P w=.ok pl.toArray w:=by
  rw [Array.mapM_eq_mapM_toList]
  simp only [map_eq_pure_bind,bE,hm,gJ,jC]
 have Bl:=fill_eq (fun i=>pl.toArray[i]?) pl (fun i q hq=>by simpa using hq) parts.toList _ zero cs O hf
 simp only [Instr.build,zeroValue,bE,wR h2,h3,gJ,jC,h4,jK h1,hm',Bl]
def pts (T:List (Nat × aj)):List (Nat × Operand)->Option (List (Nat × aj))
 | []=>some []
 | (i,x) :: q=>match ev T x,pts T q with|some v,some vs=>some ((i,v) :: vs)|_,_=>none
theorem St.pts (H:St N D w0 F G0 G L T a w):∀ {xs:List (Nat × Operand)} {vs:List (Nat × aj)},Proofs.YtomebajfpcjoeaaDoor.pts T xs=some vs->xs.map (fun x=>(x.1,a.eval x.2))=vs
 | [],vs,hx=>by simp [Proofs.YtomebajfpcjoeaaDoor.pts] at hx;subst hx;rfl
 | (i,x) :: xs,vs,hx=>by
  unfold Proofs.YtomebajfpcjoeaaDoor.pts at hx
  split at hx
  ·rename_i v vs' h1 h2
   simp only [jL] at hx
   subst hx
   rw [gV,H.ev h1,H.pts h2]
  ·cases hx
theorem jQ {t:TypeId} {pl:List (Nat × Nat)} {zero:List aj} (ht:ow P t pl zero) {xs:List (Nat × Operand)} {vs:List (Nat × aj)} {vs':List (Nat × List aj)} (cs:List aj) (H:St N D w0 F G0 G L T a w) (hw:Region.wanted ⟨some d,.build t xs.toArray,ty,pos,aC,g⟩ (yielded ops a.tmps)=true)
  (hx:pts T xs=some vs) (hv:vs.map (fun x=>(x.1,x.2.cells.toList))=vs') (hf:qz pl zero vs'=some cs) (hd:Nat.blt d N=true)
  (k:∀ a',St N D w0 F G0 G L ((d,.agg cs.toArray) :: T) a' w->WL r P ops Q rest a' w):WL r P ops Q (⟨some d,.build t xs.toArray,ty,pos,aC,g⟩ :: rest) a w:=by
 refine bX (v:=.agg cs.toArray) (w':=w) hw O ?_ (k _ (H.put hd _ H.hp))
 have h1:=run_build ht (parts:=(vs.toArray)) (cs:=cs) (by simpa [hv] using hf) w
 simp only [execOp,List.map_toArray,H.pts hx,bE,h1,gJ,jC]
theorem eU {t e:TypeId} {sz bytes:Nat} {zero:List aj} {agg:Bool} (hs:P.underlying t=some (.slice e)) (ht:Ty P e sz bytes zero agg) {n:Nat} {xs:List (Nat × Operand)} {vs:List (Nat × aj)} {vs':List (Nat × List aj)} (z:List aj) (cs:List aj) (H:St N D w0 F G0 G L T a w) (hw:Region.wanted ⟨some d,.buildSlice t n xs.toArray,ty,pos,aC,g⟩ (yielded ops a.tmps)=true)
  (hx:pts T xs=some vs) (hv:vs.map (fun x=>(x.1,x.2.cells.toList))=vs') (hn:Nat.ble (n*sz) 1000=true) (hn0:Nat.beq (n*sz) 0=false) (hz:(List.range (n*sz)).map (fun i=>zero[i % zero.length]!)=z) (hpl:∀ i q,((List.range n).map fun i=>(i*sz,sz))[i]?=some q->(some (i*sz,sz):Option (Nat × Nat))=some q)
  (hf:qz ((List.range n).map fun i=>(i*sz,sz)) z vs'=some cs) (hd:Nat.blt d N=true)
  (k:∀ b a' w',w0.heap.size<=b->St N D w0 F G0 G ((b,.cells cs.toArray e (0,0)) :: L) ((d,.slice (some ⟨b,0,none⟩) n n) :: T) a' w'->WL r P ops Q rest a' w'):WL r P ops Q (⟨some d,.buildSlice t n xs.toArray,ty,pos,aC,g⟩ :: rest) a w:=by
 refine bX (v:=.slice (some ⟨w.heap.size,0,none⟩) n n) (w':=w.alloc (.cells cs.toArray e (0,0))) hw O ?_ (k _ _ _ H.hp.size (H.put hd _ (H.hp.alloc _)))
 obtain ⟨z0,hz0,hzc⟩:=ht.TM w
 have h16:¬ n*sz > 2 ^ 24:=by have:=Nat.le_of_ble_eq_true hn;simp;omega
 have h0:¬ n*sz=0:=by intro e;rw [e] at hn0;cases hn0
 have Bl:=fill_eq (fun i=>some (i*sz,sz)) _ hpl vs vs' z cs hv hf
 have hz':(Array.range (n*sz)).map (fun x=>zero.toArray[x % zero.toArray.size]!)=z.toArray:=by
  rw [<- hz];apply Array.ext';simp
 simp only [execOp,List.map_toArray,H.pts hx,Instr.buildSlice,bE,jK hs,gJ,ht.qO,aL h16,aL h0,hz0,hzc,jC,hz',Bl,newRow,newObj,Sem.run]
 rfl
theorem tQ {z:Int} (h1:-9223372036854775808<=z) (h2:z < 9223372036854775808):IntKind.i64.wrap z=z:=by
 unfold IntKind.wrap
 have e:(2:Int) ^ 64=18446744073709551616:=by decide
 have e':(2:Int) ^ (64 - 1)=9223372036854775808:=by decide
 simp only [IntKind.bits,IntKind.signed,Bool.true_and,e,e',gG]
 split <;> omega
theorem rV {x y:Operand} {t yt:TypeId} {p q:Int} (z:Int) (H:St N D w0 F G0 G L T a w) (hw:Region.wanted ⟨some d,.binOp .add t x y yt,ty,pos,aC,g⟩ (yielded ops a.tmps)=true) (hx:ev T x=some (.int .i64 p)) (hy:ev T y=some (.int .i64 q)) (hz:p+q=z) (h1:-9223372036854775808<=z) (h2:z < 9223372036854775808) (hd:Nat.blt d N=true)
  (k:∀ a',St N D w0 F G0 G L ((d,.int .i64 z) :: T) a' w->WL r P ops Q rest a' w):WL r P ops Q (⟨some d,.binOp .add t x y yt,ty,pos,aC,g⟩ :: rest) a w :=
 bX (v:=.int .i64 z) (w':=w) hw O (by simp [execOp,eqGuard,binOp,Op.intArith,H.ev hx,H.ev hy,bE,hz,tQ h1 h2]) (k _ (H.put hd _ H.hp))
theorem ES {x y:Operand} {t yt:TypeId} {p q:Int} (z:Int) (H:St N D w0 F G0 G L T a w) (hw:Region.wanted ⟨some d,.binOp .sub t x y yt,ty,pos,aC,g⟩ (yielded ops a.tmps)=true) (hx:ev T x=some (.int .i64 p)) (hy:ev T y=some (.int .i64 q)) (hz:p - q=z) (h1:-9223372036854775808<=z) (h2:z < 9223372036854775808) (hd:Nat.blt d N=true)
  (k:∀ a',St N D w0 F G0 G L ((d,.int .i64 z) :: T) a' w->WL r P ops Q rest a' w):WL r P ops Q (⟨some d,.binOp .sub t x y yt,ty,pos,aC,g⟩ :: rest) a w :=
 bX (v:=.int .i64 z) (w':=w) hw O (by simp [execOp,eqGuard,binOp,Op.intArith,H.ev hx,H.ev hy,bE,hz,tQ h1 h2]) (k _ (H.put hd _ H.hp))
theorem wV {x y:Operand} {t yt:TypeId} {p q:Int} (z:Int) (H:St N D w0 F G0 G L T a w) (hw:Region.wanted ⟨some d,.binOp .mul t x y yt,ty,pos,aC,g⟩ (yielded ops a.tmps)=true) (hx:ev T x=some (.int .i64 p)) (hy:ev T y=some (.int .i64 q)) (hz:p*q=z) (h1:-9223372036854775808<=z) (h2:z < 9223372036854775808) (hd:Nat.blt d N=true)
  (k:∀ a',St N D w0 F G0 G L ((d,.int .i64 z) :: T) a' w->WL r P ops Q rest a' w):WL r P ops Q (⟨some d,.binOp .mul t x y yt,ty,pos,aC,g⟩ :: rest) a w :=
 bX (v:=.int .i64 z) (w':=w) hw O (by simp [execOp,eqGuard,binOp,Op.intArith,H.ev hx,H.ev hy,bE,hz,tQ h1 h2]) (k _ (H.put hd _ H.hp))
def AU:BinOp->Int->Int->Option Bool
 | .eql,x,y=>some (decide (x=y))
 | .neq,x,y=>some (decide (¬ x=y))
 | .lss,x,y=>some (decide (x < y))
 | .leq,x,y=>some (decide (x<=y))
 | .gtr,x,y=>some (decide (y < x))
 | .geq,x,y=>some (decide (y<=x))
 | _,_,_=>none
theorem ado {op:BinOp} {kd:IntKind} {x y:Int} {b:Bool} (h:AU op x y=some b) (t:TypeId) (X qq:Operand) (w:World):(do eqGuard op t X qq (.int kd x) (.int kd y);binOp op t (.int kd x) (.int kd y):Sem aj).run P w=.ok (.bool b) w:=by
 cases op <;> simp only [AU,jL,reduceCtorEq] at h <;> subst h <;> simp [eqGuard,binOp,Op.intCmp,bE]
 ·rfl
 ·rfl
theorem J4 {op:BinOp} {x y:Operand} {t yt:TypeId} {kd:IntKind} {p q:Int} {b:Bool} (H:St N D w0 F G0 G L T a w) (hw:Region.wanted ⟨some d,.binOp op t x y yt,ty,pos,aC,g⟩ (yielded ops a.tmps)=true) (hx:ev T x=some (.int kd p)) (hy:ev T y=some (.int kd q)) (hb:AU op p q=some b) (hd:Nat.blt d N=true)
  (k:∀ a',St N D w0 F G0 G L ((d,.bool b) :: T) a' w->WL r P ops Q rest a' w):WL r P ops Q (⟨some d,.binOp op t x y yt,ty,pos,aC,g⟩ :: rest) a w:=by
 refine bX (v:=.bool b) (w':=w) hw O ?_ (k _ (H.put hd _ H.hp))
 have h1:=ado (P:=P) (kd:=kd) hb t x y w
 simp only [execOp,H.ev hx,H.ev hy]
 rw [bE,h1]
 rfl
theorem EP {x:Operand} {t:TypeId} {b:Bool} (H:St N D w0 F G0 G L T a w) (hw:Region.wanted ⟨some d,.unOp .not t x,ty,pos,aC,g⟩ (yielded ops a.tmps)=true) (hx:ev T x=some (.bool b)) (hd:Nat.blt d N=true)
  (k:∀ a',St N D w0 F G0 G L ((d,.bool (!b)) :: T) a' w->WL r P ops Q rest a' w):WL r P ops Q (⟨some d,.unOp .not t x,ty,pos,aC,g⟩ :: rest) a w :=
 bX (v:=.bool (!b)) (w':=w) hw O (by simp [execOp,Op.unary,H.ev hx,bE]) (k _ (H.put hd _ H.hp))
def lM (op:BinOp) (k:IntKind) (x y:Int):Int :=
 let a:=BitVec.ofInt k.bits x
 let b:=BitVec.ofInt k.bits y
 k.wrap (match op with|.and=>(a &&& b).toNat|.or=>(a ||| b).toNat|.xor=>(a ^^^ b).toNat|_=>(a &&& ~~~b).toNat)
theorem EL {op:BinOp} {x y:Operand} {t yt:TypeId} {kd:IntKind} {p q:Int} (hop:(match op with|.and|.or|.xor|.andNot=>true|_=>false)=true) (H:St N D w0 F G0 G L T a w) (hw:Region.wanted ⟨some d,.binOp op t x y yt,ty,pos,aC,g⟩ (yielded ops a.tmps)=true) (hx:ev T x=some (.int kd p)) (hy:ev T y=some (.int kd q)) (hd:Nat.blt d N=true)
  (k:∀ a',St N D w0 F G0 G L ((d,.int kd (lM op kd p q)) :: T) a' w->WL r P ops Q rest a' w):WL r P ops Q (⟨some d,.binOp op t x y yt,ty,pos,aC,g⟩ :: rest) a w:=by
 refine bX (v:=.int kd (lM op kd p q)) (w':=w) hw O ?_ (k _ (H.put hd _ H.hp))
 cases op <;> simp only [xM] at hop <;> simp [execOp,eqGuard,binOp,Op.intBits,H.ev hx,H.ev hy,lM]
theorem adT {x y:Operand} {t yt:TypeId} {kd ky:IntKind} {p q:Int} (n:Nat) (H:St N D w0 F G0 G L T a w) (hw:Region.wanted ⟨some d,.binOp .shl t x y yt,ty,pos,aC,g⟩ (yielded ops a.tmps)=true) (hx:ev T x=some (.int kd p)) (hy:ev T y=some (.int ky q)) (hq:q=(n:Int)) (hn:n<=kd.bits) (hd:Nat.blt d N=true)
  (k:∀ a',St N D w0 F G0 G L ((d,.int kd (kd.wrap (p*2 ^ n))) :: T) a' w->WL r P ops Q rest a' w):WL r P ops Q (⟨some d,.binOp .shl t x y yt,ty,pos,aC,g⟩ :: rest) a w:=by
 subst hq
 refine bX (v:=.int kd (kd.wrap (p*2 ^ n))) (w':=w) hw O ?_ (k _ (H.put hd _ H.hp))
 have h0:¬ ((n:Int) < 0):=by omega
 have h1:min n kd.bits=n:=by omega
 simp [execOp,eqGuard,binOp,Op.shift,H.ev hx,H.ev hy,h0,h1]
theorem J5 {x y:Operand} {t yt:TypeId} {kd ky:IntKind} {p q:Int} (n:Nat) (H:St N D w0 F G0 G L T a w) (hw:Region.wanted ⟨some d,.binOp .shr t x y yt,ty,pos,aC,g⟩ (yielded ops a.tmps)=true) (hx:ev T x=some (.int kd p)) (hy:ev T y=some (.int ky q)) (hq:q=(n:Int)) (hn:n<=kd.bits) (hd:Nat.blt d N=true)
  (k:∀ a',St N D w0 F G0 G L ((d,.int kd (p.fdiv (2 ^ n))) :: T) a' w->WL r P ops Q rest a' w):WL r P ops Q (⟨some d,.binOp .shr t x y yt,ty,pos,aC,g⟩ :: rest) a w:=by
 subst hq
 refine bX (v:=.int kd (p.fdiv (2 ^ n))) (w':=w) hw O ?_ (k _ (H.put hd _ H.hp))
 have h0:¬ ((n:Int) < 0):=by omega
 have h1:min n kd.bits=n:=by omega
 simp [execOp,eqGuard,binOp,Op.shift,H.ev hx,H.ev hy,h0,h1]
theorem vD {x:Operand} {t u:TypeId} {kd ks:IntKind} {p:Int} {su:TypeDesc} (z:Int) (hu:P.underlying u=some (.int kd)) (ht:P.underlying t=some su) (H:St N D w0 F G0 G L T a w) (hw:Region.wanted ⟨some d,.convert t u x,ty,pos,aC,g⟩ (yielded ops a.tmps)=true) (hx:ev T x=some (.int ks p)) (hz:kd.wrap p=z) (hd:Nat.blt d N=true)
  (k:∀ a',St N D w0 F G0 G L ((d,.int kd z) :: T) a' w->WL r P ops Q rest a' w):WL r P ops Q (⟨some d,.convert t u x,ty,pos,aC,g⟩ :: rest) a w:=by
 refine bX (v:=.int kd z) (w':=w) hw O ?_ (k _ (H.put hd _ H.hp))
 simp [execOp,convert,jK hu,jK ht,H.ev hx,bE,Conv.intToInt,hz]
theorem wU {x y:Operand} {t:TypeId} {s:ByteArray} {kd:IntKind} {z:Int} (i:Nat) (ht:P.underlying t=some .string) (H:St N D w0 F G0 G L T a w) (hw:Region.wanted ⟨some d,.index t x y,ty,pos,aC,g⟩ (yielded ops a.tmps)=true) (hx:ev T x=some (.string s)) (hy:ev T y=some (.int kd z)) (hz:z=(i:Int)) (hi:i < s.size) (hd:Nat.blt d N=true)
  (k:∀ a',St N D w0 F G0 G L ((d,.int .u8 (s[i].toNat:Int)) :: T) a' w->WL r P ops Q rest a' w):WL r P ops Q (⟨some d,.index t x y,ty,pos,aC,g⟩ :: rest) a w:=by
 subst hz
 refine bX (v:=.int .u8 (s[i].toNat:Int)) (w':=w) hw O ?_ (k _ (H.put hd _ H.hp))
 simp [execOp,Instr.index,asIntOf,jK ht,H.ev hx,H.ev hy,bE,hi]
theorem zH {x:Operand} {t e:TypeId} {A:Option Addr} {n c:Nat} (hs:P.underlying t=some (.slice e)) (H:St N D w0 F G0 G L T a w) (hw:Region.wanted ⟨some d,.call { callee:=.builtin .len,args:=#[x],argTypes:=#[t] },ty,pos,aC,g⟩ (yielded ops a.tmps)=true) (hx:ev T x=some (.slice A n c)) (hd:Nat.blt d N=true)
  (k:∀ a',St N D w0 F G0 G L ((d,.int .i64 n) :: T) a' w->WL r P ops Q rest a' w):WL r P ops Q (⟨some d,.call { callee:=.builtin .len,args:=#[x],argTypes:=#[t] },ty,pos,aC,g⟩ :: rest) a w :=
 bX (v:=.int .i64 n) (w':=w) hw O (by simp [execOp,resolve,invoke,builtin,Builtin.len_,H.ev hx,bE,jK hs,goInt]) (k _ (H.put hd _ H.hp))
theorem adH {x:Operand} {t:TypeId} {s:ByteArray} (hs:P.underlying t=some .string) (H:St N D w0 F G0 G L T a w) (hw:Region.wanted ⟨some d,.call { callee:=.builtin .len,args:=#[x],argTypes:=#[t] },ty,pos,aC,g⟩ (yielded ops a.tmps)=true) (hx:ev T x=some (.string s)) (hd:Nat.blt d N=true)
  (k:∀ a',St N D w0 F G0 G L ((d,.int .i64 s.size) :: T) a' w->WL r P ops Q rest a' w):WL r P ops Q (⟨some d,.call { callee:=.builtin .len,args:=#[x],argTypes:=#[t] },ty,pos,aC,g⟩ :: rest) a w :=
 bX (v:=.int .i64 s.size) (w':=w) hw O (by simp [execOp,resolve,invoke,builtin,Builtin.len_,H.ev hx,bE,jK hs,goInt]) (k _ (H.put hd _ H.hp))
theorem EN {x y:Operand} {t t':TypeId} {kd:IntKind} {p q:Int} (H:St N D w0 F G0 G L T a w) (hw:Region.wanted ⟨some d,.call { callee:=.builtin .max,args:=#[x,y],argTypes:=#[t,t'] },ty,pos,aC,g⟩ (yielded ops a.tmps)=true) (hx:ev T x=some (.int kd p)) (hy:ev T y=some (.int kd q)) (hd:Nat.blt d N=true)
  (k:∀ a',St N D w0 F G0 G L ((d,.int kd (max p q)) :: T) a' w->WL r P ops Q rest a' w):WL r P ops Q (⟨some d,.call { callee:=.builtin .max,args:=#[x,y],argTypes:=#[t,t'] },ty,pos,aC,g⟩ :: rest) a w:=by
 refine bX (v:=.int kd (max p q)) (w':=w) hw O ?_ (k _ (H.put hd _ H.hp))
 have e:(if q > p then q else p)=max p q:=by omega
 simp [execOp,resolve,invoke,builtin,Builtin.max_,Builtin.max2,H.ev hx,H.ev hy,bE,e]
theorem EO {x y:Operand} {t t':TypeId} {kd:IntKind} {p q:Int} (H:St N D w0 F G0 G L T a w) (hw:Region.wanted ⟨some d,.call { callee:=.builtin .min,args:=#[x,y],argTypes:=#[t,t'] },ty,pos,aC,g⟩ (yielded ops a.tmps)=true) (hx:ev T x=some (.int kd p)) (hy:ev T y=some (.int kd q)) (hd:Nat.blt d N=true)
  (k:∀ a',St N D w0 F G0 G L ((d,.int kd (min p q)) :: T) a' w->WL r P ops Q rest a' w):WL r P ops Q (⟨some d,.call { callee:=.builtin .min,args:=#[x,y],argTypes:=#[t,t'] },ty,pos,aC,g⟩ :: rest) a w:=by
 refine bX (v:=.int kd (min p q)) (w':=w) hw O ?_ (k _ (H.put hd _ H.hp))
 have e:(if q < p then q else p)=min p q:=by omega
 simp [execOp,resolve,invoke,builtin,Builtin.min_,Builtin.min2,H.ev hx,H.ev hy,bE,e]
def bK (w:World) (G:GH) (R:aj->GH->Prop):Ending->World->Prop:=fun e w'=>∃ v G',e=.returned v∧Below w.heap.size w w'∧Ext w.heap.size G G' w'∧R v G'
def Hold (G:GH) (w:World):Prop:=∀ k o,G k=some o->w.heap[k]?=some o
theorem s_call {f:FuncId} {xs:List Operand} {vs:List aj} {ts:Array TypeId} {R:aj->GH->Prop} (en:∀ args w,(callFunc f args).run P w=.ok (.enter f args) w) (H:St N D w0 F G0 G L T a w) (hw:Region.wanted ⟨some d,.call { callee:=.value (.func f),args:=xs.toArray,argTypes:=ts },ty,pos,aC,g⟩ (yielded ops a.tmps)=true)
  (hx:evs T xs=some vs) (hc:Calls P f vs.toArray w (bK w G R)) (hd:Nat.blt d N=true)
  (k:∀ v G' a' w',R v G'->(∀ k o,G k=some o->G' k=some o)->St N D w0 F G0 G' L ((d,v) :: T) a' w'->WL r P ops Q rest a' w'):WL r P ops Q (⟨some d,.call { callee:=.value (.func f),args:=xs.toArray,argTypes:=ts },ty,pos,aC,g⟩ :: rest) a w:=by
 refine KY (nx:=.ok (.enter f vs.toArray) w) (R:=bK w G R) hw O ?_ hc ?_
 ·have h1:=H.evs hx
  simp [execOp,resolve,Act.eval,Deferred.ofValue,invoke,bE,h1,en]
 ·rintro e w' ⟨v,G',rfl,hb,hX,hR⟩
  exact ⟨v,O,k v G' _ w' hR hX.1 (H.put hd v (H.hp.Md hb hX))⟩
theorem fT {x y:Code} (h:∀ K:Act->World->Prop,(∀ a w,WP r P y Q a w->K a w)->WP r P x (Exit.then K Q) a w):WP r P (.seq x y) Q a w:=wpIn_seq_k h
theorem qw {id:Nat} {l:List Oper} (h:WL r P l.toArray Q l a w):WP r P (.region id l.toArray false) Q a w:=wpIn_region_lit h
theorem iV {id:Nat} {l:List Oper} {y:Code} (h:∀ K:Act->World->Prop,(∀ a w,WP r P y Q a w->WL r P l.toArray (Exit.then K Q) [] a w)->WL r P l.toArray (Exit.then K Q) l a w):WP r P (.seq (.region id l.toArray false) y) Q a w:=fT fun K hK=>qw (h K fun a w h=>aB (hK a w h))
theorem kI (h:Q .normal a w):WP r P .skip Q a w:=wpIn_skip h
theorem bN (h:Q .ret a w):WP r P .ret Q a w:=wpIn_ret h
theorem bQ {id:Nat} (h:Q (.exit id) a w):WP r P (.exit id) Q a w:=wpIn_exit h
theorem uP {id:Nat} {c:Code} (h:WP r P c (Exit.inBlock id Q) a w):WP r P (.block id c) Q a w:=wpIn_block h
theorem rC {c:Operand} {x y:Code} {b:Bool} (H:St N D w0 F G0 G L T a w) (hc:ev T c=some (.bool b)) (h1:b=true->WP r P x Q a w) (h0:b=false->WP r P y Q a w):WP r P (.cond c x y) Q a w :=
 wpIn_cond_split (H.ev hc) h1 h0
theorem GK {c:Operand} {x y:Code} {b:Bool} (H:St N D w0 F G0 G L T a w) (hc:ev T c=some (.bool b)) (hb:b=true) (h1:WP r P x Q a w):WP r P (.cond c x y) Q a w :=
 wpIn_cond_true (by rw [H.ev hc,hb]) h1
theorem rD {c:Operand} {x y:Code} {b:Bool} (H:St N D w0 F G0 G L T a w) (hc:ev T c=some (.bool b)) (hb:b=false) (h1:WP r P y Q a w):WP r P (.cond c x y) Q a w :=
 wpIn_cond_false (by rw [H.ev hc,hb]) h1
theorem Xi {ι:Type} {c:Code} (qv:ι->Act->World->Prop) (m:ι->Nat) (i0:ι) (h0:qv i0 a w)
  (round:∀ i a w,qv i a w->WP r P c (Exit.then (fun a' w'=>∃ i',qv i' a' w'∧m i' < m i) Q) a w):WP r P (.loop c) Q a w:=by
 intro b k cs hro hb hr
 have key:∀ j i a w,m i=j->qv i a w ->
   ∃ e a' w',Q e a' w'∧ArrivesIn (Machine.fenced P (FW r)) P (lone (b.atR a (.code c :: .inLoop c :: k)) cs w) b k cs e a' w':=by
  intro j
  induction j using Nat.strongRecOn with
  | _ j ih =>
   intro i a w hn hI
   obtain ⟨e,a₁,w₁,hq,harr⟩:=round i a w hI b (.inLoop c :: k) cs hro hb hr
   cases e with
   | normal =>
    obtain ⟨i',hI₁,hlt⟩:=hq
    obtain ⟨e₂,a₂,w₂,hq₂,harr₂⟩:=ih (m i') (hn ▸ hlt) i' a₁ w₁ O hI₁
    exact ⟨e₂,a₂,w₂,hq₂,.of_steps (StepsIn.trans harr (.one (fenced_calm hb hr O) stepR_inLoop)) harr₂⟩
   | exit id=>exact ⟨_,a₁,w₁,hq,.pass (x:=.inLoop c) O (fun _ _=>.inl (by simp)) harr⟩
   | goto l=>exact ⟨_,a₁,w₁,hq,.pass (x:=.inLoop c) O (fun _ _=>.inl (by simp)) harr⟩
   | ret=>exact ⟨_,a₁,w₁,hq,.pass (x:=.inLoop c) O (fun _ _=>.inl (by simp)) harr⟩
   | panic ch=>exact ⟨_,a₁,w₁,hq,.pass (x:=.inLoop c) O (fun _ _=>.inl (by simp)) harr⟩
   | outgrown=>exact ⟨_,a₁,w₁,hq,.pass (x:=.inLoop c) O (fun _ _=>.inl (by simp)) harr⟩
 obtain ⟨e,a',w',hq,harr⟩:=key _ i0 a w O h0
 exact ⟨e,a',w',hq,.of_steps (.one (fenced_calm hb hr O) stepR_loop) harr⟩
theorem dz {ι:Type} {c:Code} {Tc:List (Nat × aj)} {Lc:List (Nat × Obj)} (Tv:ι->List (Nat × aj)) (Lv:ι->List (Nat × Obj)) (Gv:ι->GH) (Pr:ι->Prop) (m:ι->Nat) (i0:ι)
  (H:St N D w0 F G0 (Gv i0) (Lc++Lv i0) (Tv i0++Tc) a w) (hP:Pr i0)
  (round:∀ i a w,Pr i->St N D w0 F G0 (Gv i) (Lc++Lv i) (Tv i++Tc) a w ->
   WP r P c (Exit.then (fun a' w'=>∃ i',(St N D w0 F G0 (Gv i') (Lc++Lv i') (Tv i'++Tc) a' w'∧Pr i')∧m i' < m i) Q) a w):WP r P (.loop c) Q a w :=
 Xi (fun i a w=>St N D w0 F G0 (Gv i) (Lc++Lv i) (Tv i++Tc) a w∧Pr i) m i0 ⟨H,hP⟩ fun i a w hI=>round i a w hI.2 hI.1
theorem JA {ι:Type} {Tc:List (Nat × aj)} {Lc:List (Nat × Obj)} {Tv:ι->List (Nat × aj)} {Lv:ι->List (Nat × Obj)} {Gv:ι->GH} {Pr:ι->Prop} {m:ι->Nat} {i:ι} (i':ι)
  (H:St N D w0 F G0 (Gv i') (Lc++Lv i') (Tv i'++Tc) a w) (hP:Pr i') (hm:m i' < m i) :
  ∃ i',(St N D w0 F G0 (Gv i') (Lc++Lv i') (Tv i'++Tc) a w∧Pr i')∧m i' < m i:=⟨i',⟨H,hP⟩,hm⟩
def vN:Nat->List aj->List (Nat × aj)
 | _,[]=>[]
 | i,v :: vs=>(i,v) :: vN (i+1) vs
theorem enters {f:FuncId} {fn:Func} {c:Code} (hf:P.funcs[f]?=some fn) (hb:fn.body=some c) (hname:(fn.name == "runtime.NumGoroutine")=false) (args:Array aj) (w:World):(callFunc f args).run P w=.ok (.enter f args) w:=by
 have h1:fn.name ≠ "runtime.NumGoroutine":=by simpa using hname
 simp [callFunc,hf,h1,hb,mark]
theorem enter {f:FuncId} {fn:Func} {c:Code} {vs:List aj} {R:Ending->World->Prop} (hf:P.funcs[f]?=some fn) (hb:fn.body=some c) (hN:fn.ntmps=N) (hle:Nat.ble vs.length N=true)
  (hT:vN 0 vs=T) (hG:Hold G w) (hF:∀ k,F k->k < w.heap.size) (hL:∀ p∈L,w.heap[p.1]?=some p.2) (hLG:∀ p∈L,G p.1=none) (hLF:∀ p∈L,¬ F p.1) (hnd:L.Pairwise fun p q=>p.1≠q.1)
  (h:∀ a,St N [] w F G G L T a w->WP none P c (bodyPostM (FW none) 0 P fn R) a w):Calls P f vs.toArray w R:=by
 refine Xn (r:=none) (n:=0) (callsIn_of_wp_marks hf hb trivial (h _ ⟨?_,?_,O,⟨O,O,O,aV _,hF,fun _ _=>rfl,hG,fun _ _ h=>h,fun _ _ h=>.inl h,hL,hLG,hLF,hnd⟩⟩) O)
 ·have:=Nat.le_of_ble_eq_true hle
  simp [hN];omega
 ·intro t v ht
  have hlen:t < vs.length∧vs[t]?=some v:=by
   subst hT
   have key:∀ (vs:List aj) (s:Nat),lk (vN s vs) t=some v->s<=t∧vs[t - s]?=some v:=by
    intro vs
    induction vs with
    | nil=>intro s h;simp [vN,lk] at h
    | cons u vs ih =>
     intro s h
     simp only [vN] at h
     by_cases e:s=t
     ·subst e;rw [nW] at h;simpa using h
     ·rw [mM e] at h
      obtain ⟨h1,h2⟩:=ih (s+1) h
      refine ⟨V,?_⟩
      have:t - s=(t - (s+1))+1:=by omega
      rw [this];simpa using h2
   have:=key vs 0 ht
   simp only [dO,Nat.sub_zero,true_and] at this
   exact ⟨(fV.1 this).1,this⟩
  rw [Array.getElem?_append_left (by simpa using hlen.1)]
  simpa using hlen.2
def Cb (tmps:Array aj):ResultVar->Sem aj
 | .tmp t=>pure (tmps.getD t undef)
 | .cell a t=>do loadVar t (<- asAddr (tmps.getD a undef))
def RV (P:Program) (w:World) (tmps:Array aj) (rv:ResultVar) (v:aj):Prop:=(Cb tmps rv).run P w=.ok v w
theorem aJ (H:St N D w0 F G0 G L T a w) {t:Nat} {v:aj} (h:lk T t=some v):RV P w a.tmps (.tmp t) v:=by
 have:=H.ev (x:=.tmp t) h
 simp only [Act.eval] at this
 simp [RV,Cb,this]
theorem adx {t:TypeId} {sz bytes:Nat} {zero:List aj} (ht:Ty P t sz bytes zero true) (H:St N D w0 F G0 G L T a w) {s b o:Nat} {cs:List aj} (h:lk T s=some (.pointer (some ⟨b,o,none⟩))) (hl:cs.length=sz) (hc:∀ j v,cs[j]?=some v->w.cell? ⟨b,o+j,none⟩=some v) :
  RV P w a.tmps (.cell s t) (.agg cs.toArray):=by
 have:=H.ev (x:=.tmp s) h
 simp only [Act.eval] at this
 have h1:=run_loadCells (P:=P) b w cs o 0 #[] (fun j v hj=>by simpa using hc j v hj)
 simp only [Array.empty_append,hl] at h1
 simp [RV,Cb,this,asAddr,loadVar,bE,ht.JY,ht.qO,loadCells,h1]
inductive uF (P:Program) (w:World) (tmps:Array aj):List ResultVar->List aj->Prop
 | nil:uF P w tmps [] []
 | cons {rv rs v vs}:RV P w tmps rv v->uF P w tmps rs vs->uF P w tmps (rv :: rs) (v :: vs)
def JF:List aj->aj
 | [v]=>v
 | vs=>.tuple vs.toArray
theorem adr {fn:Func} {rs:List ResultVar} {vs:List aj} {tmps:Array aj} (hr:fn.results=rs.toArray) (h:uF P w tmps rs vs):(results fn tmps).run P w=.ok (JF vs) w:=by
 have hm:∀ {rs:List ResultVar} {vs:List aj},uF P w tmps rs vs->(rs.mapM (Cb tmps)).run P w=.ok vs w:=by
  intro rs vs h
  induction h with
  | nil=>simp
  | cons h1 _ ih =>
   unfold RV at h1
   simp only [List.mapM_cons,bE,h1,gJ,ih,jC]
 have hm':=hm h
 have hres:results fn tmps=(do let vs <- fn.results.mapM (Cb tmps);pure (if h:vs.size=1 then vs[0] else .tuple vs)):=rfl
 rw [hres,hr,Array.mapM_eq_mapM_toList]
 simp only [map_eq_pure_bind,bE,hm',gJ,jC]
 match vs with
 | []=>rfl
 | [v]=>rfl
 | v :: u :: vs=>simp [JF]
theorem leave {fn:Func} {rs:List ResultVar} {vs:List aj} {R:Ending->World->Prop} (v:aj) (H:St N [] w0 F G0 G L T a w) (hr:fn.results=rs.toArray) (h:uF P w a.tmps rs vs) (hv:JF vs=v) (hR:R (.returned v) w) :
  bodyPostM (FW none) 0 P fn R .ret a w∧bodyPostM (FW none) 0 P fn R .normal a w:=by
 subst hv
 have h1:LeavesInM (FW none) 0 P fn a.tmps R a.defers .returning w:=by
  rw [H.kK]
  exact ⟨_,adr hr h,hR⟩
 exact ⟨h1,h1⟩
theorem leave0 {fn:Func} {R:Ending->World->Prop} (H:St N [] w0 F G0 G L T a w) (hr:fn.results=#[]) (hR:R (.returned (.tuple #[])) w) :
  bodyPostM (FW none) 0 P fn R .ret a w∧bodyPostM (FW none) 0 P fn R .normal a w:=leave (rs:=[]) _ H hr .nil O hR
theorem leave1 {fn:Func} {rs:List ResultVar} {v:aj} {R:Ending->World->Prop} (H:St N [] w0 F G0 G L T a w) (hr:fn.results=rs.toArray) (h:uF P w a.tmps rs [v]) (hR:R (.returned v) w) :
  bodyPostM (FW none) 0 P fn R .ret a w∧bodyPostM (FW none) 0 P fn R .normal a w:=leave _ H hr h O hR
theorem bZ {fn:Func} {rs:List ResultVar} {v u:aj} {vs:List aj} {R:Ending->World->Prop} (H:St N [] w0 F G0 G L T a w) (hr:fn.results=rs.toArray) (h:uF P w a.tmps rs (v :: u :: vs)) (hR:R (.returned (.tuple (v :: u :: vs).toArray)) w) :
  bodyPostM (FW none) 0 P fn R .ret a w∧bodyPostM (FW none) 0 P fn R .normal a w:=leave _ H hr h O hR
theorem Hp.ret {R:aj->GH->Prop} {v:aj} (h:Hp w0 (fun k=>k < w0.heap.size) G0 G L w) (hR:R v G):bK w0 G0 R (.returned v) w :=
 ⟨v,G,rfl,⟨h.os,h.tape,h.output,h.size,h.fr⟩,⟨h.gm,fun k o hk=>(h.gx k o hk).imp id (fun hn=>Nat.le_of_not_lt hn),h.ro⟩,hR⟩
end steps
end
section
abbrev OL:=List (Nat × Obj)
structure jc (G:GH) (L:OL) (w:World):Prop where
 ro:Hold G w
 own:∀ p∈L,w.heap[p.1]?=some p.2
 sep:∀ p∈L,G p.1=none
 nd:L.Pairwise fun p q=>p.1≠q.1
structure Change (w w':World) (G G':GH) (L L':OL):Prop where
 os:w'.os=w.os
 tape:w'.tape=w.tape
 output:w'.output=w.output
 size:w.heap.size<=w'.heap.size
 fr:∀ k,k < w.heap.size->(∀ p∈L,p.1≠k)->w'.heap[k]?=w.heap[k]?
 gm:∀ k o,G k=some o->G' k=some o
 gx:∀ k o,G' k=some o->G k=some o∨w.heap.size<=k∨∃ p∈L,p.1=k
 owns:jc G' L' w'
 lx:∀ p∈L',w.heap.size<=p.1∨∃ q∈L,q.1=p.1
def Fr (w:World) (L0:OL):Nat->Prop:=fun k=>k < w.heap.size∧∀ p∈L0,p.1≠k
section
variable {N:Nat} {D:List Deferred} {w0 w w':World} {F:Nat->Prop} {G0 G G':GH} {L L' Li L0:OL} {T:List (Nat × aj)} {a:Act}
theorem Hp.owns (h:Hp w0 F G0 G (Li++L) w):jc G L w :=
 ⟨h.ro,fun p hp=>h.own p (List.mem_append_right _ hp),fun p hp=>h.mR p (List.mem_append_right _ hp),(List.pairwise_append.1 h.nd).2.1⟩
theorem Hp.change (h:Hp w0 F G0 G (Li++L) w) (hc:Change w w' G G' L L'):Hp w0 F G0 G' (Li++L') w':=by
 have hnd:=List.pairwise_append.1 h.nd
 have Iq:∀ k,F k->k < w.heap.size:=fun k hk=>Nat.lt_of_lt_of_le (h.nk k hk) h.size
 have yN:∀ p∈Li,p.1 < w.heap.size∧∀ q∈L,q.1≠p.1:=fun p hp=>⟨lt_of_heap (h.own p (List.mem_append_left _ hp)),fun q hq e=>hnd.2.2 p hp q hq e.symm⟩
 refine ⟨hc.os.trans h.os,hc.tape.trans h.tape,hc.output.trans h.output,Nat.le_trans h.size hc.size,h.nk,fun k hk=>?_,hc.owns.ro,fun k o hk=>hc.gm k o (h.gm k o hk),fun k o hk=>?_,fun p hp=>?_,fun p hp=>?_,fun p hp=>?_,?_⟩
 ·exact (hc.fr k (Iq k hk) fun p hp e=>h.lX p (List.mem_append_right _ hp) (e ▸ hk)).trans (h.fr k hk)
 ·rcases hc.gx k o hk with hk|hk|⟨p,hp,rfl⟩
  ·exact h.gx k o hk
  ·exact .inr fun hf=>absurd (Iq k hf) V
  ·exact .inr (h.lX p (List.mem_append_right _ hp))
 ·rcases sI.1 hp with hp|hp
  ·exact (hc.fr _ (yN p hp).1 (yN p hp).2).trans (h.own p (List.mem_append_left _ hp))
  ·exact hc.owns.own p hp
 ·rcases sI.1 hp with hp|hp
  ·cases hg:G' p.1 with
   | none=>rfl
   | some o =>
    rcases hc.gx _ o hg with hk|hk|⟨q,hq,e⟩
    ·rw [h.mR p (List.mem_append_left _ hp)] at hk;cases hk
    ·exact absurd (yN p hp).1 V
    ·exact absurd e ((yN p hp).2 q hq)
  ·exact hc.owns.sep p hp
 ·rcases sI.1 hp with hp|hp
  ·exact h.lX p (List.mem_append_left _ hp)
  ·rcases hc.lx p hp with hk|⟨q,hq,e⟩
   ·exact fun hf=>absurd (Iq _ hf) V
   ·exact e ▸ h.lX q (List.mem_append_right _ hq)
 ·refine List.pairwise_append.2 ⟨hnd.1,hc.owns.nd,fun p hp q hq e=>?_⟩
  rcases hc.lx q hq with hk|⟨q',hq',e'⟩
  ·have:=(yN p hp).1;omega
  ·exact (yN p hp).2 q' hq' (e'.trans e.symm)
theorem Hp.aeZ (h:Hp w0 (Fr w0 L0) G0 G L w):Change w0 w G0 G L0 L:=by
 have hn:∀ k,¬ Fr w0 L0 k->w0.heap.size<=k∨∃ p∈L0,p.1=k:=by
  intro k hk
  by_cases hlt:k < w0.heap.size
  ·right
   apply Classical.byContradiction
   intro hno
   exact hk ⟨hlt,fun p hp e=>hno ⟨p,hp,e⟩⟩
  ·exact .inl V
 exact ⟨h.os,h.tape,h.output,h.size,fun k h1 h2=>h.fr k ⟨h1,h2⟩,h.gm,fun k o hk=>(h.gx k o hk).imp id (hn k),⟨h.ro,h.own,h.mR,h.nd⟩,fun p hp=>hn _ (h.lX p hp)⟩
theorem jc.hp (h:jc G L w):Hp w (Fr w L) G G L w :=
 ⟨rfl,rfl,rfl,aV _,fun _ hk=>hk.1,fun _ _=>rfl,h.ro,fun _ _ h=>h,fun _ _ h=>.inl h,h.own,h.sep,fun p hp hf=>hf.2 p hp O,h.nd⟩
theorem Change.trans {w2:World} {G2:GH} {L2:OL} (h1:Change w w' G G' L L') (h2:Change w' w2 G' G2 L' L2) (hG:Hold G w) (hL:∀ p∈L,p.1 < w.heap.size):Change w w2 G G2 L L2:=by
 refine ⟨h2.os.trans h1.os,h2.tape.trans h1.tape,h2.output.trans h1.output,Nat.le_trans h1.size h2.size,fun k hk hn=>?_,fun k o hk=>h2.gm k o (h1.gm k o hk),fun k o hk=>?_,h2.owns,fun p hp=>?_⟩
 ·refine (h2.fr k (Nat.lt_of_lt_of_le hk h1.size) fun p hp e=>?_).trans (h1.fr k hk hn)
  rcases h1.lx p hp with hk'|⟨q,hq,e'⟩
  ·omega
  ·exact hn q hq (e'.trans e)
 ·rcases h2.gx k o hk with hk|hk|⟨p,hp,rfl⟩
  ·exact h1.gx k o hk
  ·exact .inr (.inl (Nat.le_trans h1.size hk))
  ·rcases h1.lx p hp with hk'|⟨q,hq,e'⟩
   ·exact .inr (.inl hk')
   ·exact .inr (.inr ⟨q,hq,e'⟩)
 ·rcases h2.lx p hp with hk|⟨q,hq,e⟩
  ·exact .inl (Nat.le_trans h1.size hk)
  ·rcases h1.lx q hq with hk'|⟨q',hq',e'⟩
   ·exact .inl (e ▸ hk')
   ·exact .inr ⟨q',hq',e'.trans e⟩
theorem Hp.perm (h:Hp w0 F G0 G L w) (hp:L.Perm L'):Hp w0 F G0 G L' w :=
 ⟨h.os,h.tape,h.output,h.size,h.nk,h.fr,h.ro,h.gm,h.gx,fun p hq=>h.own p (hp.mem_iff.2 hq),fun p hq=>h.mR p (hp.mem_iff.2 hq),fun p hq=>h.lX p (hp.mem_iff.2 hq),(hp.pairwise_iff (fun {x y} (h:x.1≠y.1) e=>h e.symm)).1 h.nd⟩
theorem St.perm (h:St N D w0 F G0 G L T a w) (hp:L.Perm L'):St N D w0 F G0 G L' T a w:=⟨h.iD,h.get,h.kK,h.hp.perm hp⟩
def jd (w:World) (G:GH) (L:OL) (R:aj->GH->OL->Prop):Ending->World->Prop:=fun e w'=>∃ v G' L',e=.returned v∧Change w w' G G' L L'∧R v G' L'
theorem Hp.kY {R:aj->GH->OL->Prop} {v:aj} (h:Hp w0 (Fr w0 L0) G0 G L w) (hR:R v G L):jd w0 G0 L0 R (.returned v) w:=⟨v,G,L,O,h.aeZ,hR⟩
end
section steps
variable {N:Nat} {D:List Deferred} {w0:World} {F:Nat->Prop} {G0 G:GH} {L Li L0:OL} {T:List (Nat × aj)}
variable {r:Option Nat} {P:Program} {ops:Array Oper} {Q:Exit->Act->World->Prop} {rest:List Oper} {a:Act} {w:World}
variable {d:Nat} {ty:TypeId} {pos:String} {aC:Array Edge} {g:Option (Nat × Bool)}
theorem rE {f:FuncId} {caps args:List aj} {R:Ending->World->Prop} (en:∀ args w,(callFunc f args).run P w=.ok (.enter f args) w) (h:Calls P f (args++caps).toArray w R):qV P (.func (.func f) #[] caps.toArray) args w R:=by
 refine ⟨?_⟩
 have e:(do let d <- Deferred.ofValue (.func (.func f) #[] caps.toArray) args.toArray;invoke d.target d.args:Sem Next).run P w=.ok (.enter f (args++caps).toArray) w:=by
  simp [Deferred.ofValue,bE,invoke,en]
 rw [e]
 exact h
theorem zG {x:Operand} {fv:aj} {xs:List Operand} {vs:List aj} {ts:Array TypeId} {R:aj->GH->OL->Prop} (H:St N D w0 F G0 G (Li++L) T a w) (hw:Region.wanted ⟨some d,.call { callee:=.value x,args:=xs.toArray,argTypes:=ts },ty,pos,aC,g⟩ (yielded ops a.tmps)=true)
  (hf:ev T x=some fv) (hx:evs T xs=some vs) (hc:qV P fv vs w (jd w G L R)) (hd:Nat.blt d N=true)
  (k:∀ v G' L' a' w',R v G' L'->(∀ k o,G k=some o->G' k=some o)->St N D w0 F G0 G' (Li++L') ((d,v) :: T) a' w'->WL r P ops Q rest a' w'):WL r P ops Q (⟨some d,.call { callee:=.value x,args:=xs.toArray,argTypes:=ts },ty,pos,aC,g⟩ :: rest) a w:=by
 refine KY (nx:=_) (R:=jd w G L R) hw O O ?_ ?_
 ·have h1:=H.evs hx
  have e:(execOp a.eval ⟨some d,.call { callee:=.value x,args:=xs.toArray,argTypes:=ts },ty,pos,aC,g⟩)=(do let d <- Deferred.ofValue fv vs.toArray;invoke d.target d.args:Sem Next):=by
   simp only [execOp,resolve,H.ev hf,List.map_toArray,h1]
  rw [e]
  exact hc.go
 ·rintro e w' ⟨v,G',L',rfl,hb,hR⟩
  exact ⟨v,O,k v G' L' _ w' hR hb.gm (H.put hd v (H.hp.change hb))⟩
theorem jR {f:FuncId} {xs:List Operand} {vs:List aj} {ts:Array TypeId} {R:aj->GH->OL->Prop} (en:∀ args w,(callFunc f args).run P w=.ok (.enter f args) w) (H:St N D w0 F G0 G (Li++L) T a w) (hw:Region.wanted ⟨some d,.call { callee:=.value (.func f),args:=xs.toArray,argTypes:=ts },ty,pos,aC,g⟩ (yielded ops a.tmps)=true)
  (hx:evs T xs=some vs) (hc:Calls P f vs.toArray w (jd w G L R)) (hd:Nat.blt d N=true)
  (k:∀ v G' L' a' w',R v G' L'->(∀ k o,G k=some o->G' k=some o)->St N D w0 F G0 G' (Li++L') ((d,v) :: T) a' w'->WL r P ops Q rest a' w'):WL r P ops Q (⟨some d,.call { callee:=.value (.func f),args:=xs.toArray,argTypes:=ts },ty,pos,aC,g⟩ :: rest) a w:=by
 refine zG (fv:=.func (.func f) #[] #[]) H hw O hx ?_ hd k
 have h:=rE (caps:=[]) (args:=vs) en (by simpa using hc)
 exact h
abbrev AP:=List aj->GH->Prop
def pY (xs:List AP) (k:Nat) (args:List aj) (g:GH):Prop:=∃ p,xs[k]?=some p∧p args g
def FC (P:Program) (fv:aj) (Gi:GH) (xs:List AP) (J:Nat->GH->OL->Prop) (Jx:GH->OL->Prop):Prop :=
 ∀ k args G L w,pY xs k args G->(∀ b o,Gi b=some o->G b=some o)->J k G L->jc G L w ->
  qV P fv args w (jd w G L fun v G' L'=>∃ b,v=.bool b∧(b=true->J (k+1) G' L')∧(b=false->Jx G' L'))
def CB (J:Nat->GH->OL->Prop):Prop:=∀ k (G G':GH) L,(∀ b o,G b=some o->G' b=some o)->J k G L->J k G' L
def CP (J:GH->OL->Prop):Prop:=∀ (G G':GH) L,(∀ b o,G b=some o->G' b=some o)->J G L->J G' L
def Iter (P:Program) (Gi:GH) (gv:aj) (xs:List AP):Prop :=
 ∀ (J:Nat->GH->OL->Prop) (Jx:GH->OL->Prop) (fv:aj) (G:GH) (L:OL) (w:World),fv.cells=#[fv]->(∀ b o,Gi b=some o->G b=some o)->CB J->CP Jx->J 0 G L->jc G L w->FC P fv G xs J Jx ->
  qV P gv [fv] w (jd w G L fun _ G' L'=>J xs.length G' L'∨Jx G' L')
theorem Iter.mono {Gi Aa:GH} {gv:aj} {xs:List AP} (h:Iter P Gi gv xs) (hm:∀ b o,Gi b=some o->Aa b=some o):Iter P Aa gv xs :=
 fun J Jx fv G L w h0 h1=>h J Jx fv G L w h0 fun b o hb=>h1 b o (hm b o hb)
def ru:List Nat->List aj->List (Nat × aj)->List (Nat × aj)
 | p :: ps,v :: vs,T=>ru ps vs ((p,v) :: T)
 | _,_,T=>T
theorem Ut:∀ (ps:List Nat) (vs:List aj) (T:List (Nat × aj)) (tm:Array aj),tm.size=N->(∀ t v,lk T t=some v->tm[t]?=some v)->ps.all (Nat.blt · N)=true ->
  ((ps.zip vs).foldl (fun t (x:Nat × aj)=>t.setIfInBounds x.1 x.2) tm).size=N∧∀ t v,lk (ru ps vs T) t=some v->((ps.zip vs).foldl (fun t (x:Nat × aj)=>t.setIfInBounds x.1 x.2) tm)[t]?=some v
 | [],_,T,tm,h1,h2,_=>⟨h1,by simpa [ru] using h2⟩
 | p :: ps,[],T,tm,h1,h2,_=>⟨h1,by simpa [ru] using h2⟩
 | p :: ps,v :: vs,T,tm,h1,h2,h3=>by
  simp only [List.all_cons,gq] at h3
  have hp:p < tm.size:=by rw [h1];exact Eq.mp Nat.blt_eq h3.1
  simp only [List.zip_cons_cons,List.foldl_cons,ru]
  refine Ut ps vs _ _ (by simpa using h1) (fun t u ht=>?_) h3.2
  rw [Array.getElem?_setIfInBounds]
  by_cases e:p=t
  ·subst e;rw [nW] at ht;simp [hp];simpa using ht
  ·rw [mM e] at ht;simp [e];exact h2 t u ht
structure Rec where
 fn:FuncId
 tmps:Array aj
 params:Array Tmp
 assign:Code
 body:Code
 defers:Nat
def Rec.at (q:Rec) (s:LoopState) (p:Option Code):Obj:=.loop { state:=s,pending:=p,fn:=q.fn,tmps:=q.tmps,params:=q.params,assign:=q.assign,body:=q.body,defers:=q.defers }
def Ll (w1:World) (G:GH) (L:OL) (Jn:GH->OL->Prop) (Jx:GH->OL->Prop):Ending->World->Prop:=jd w1 G L fun v G' L'=>∃ b,v=.bool b∧(b=true->Jn G' L')∧(b=false->Jx G' L')
theorem vJ {b:Nat} {o:Obj} (o':Obj) (h:w.heap[b]?=some o):mZ b o' w (w.putObj b o') :=
 ⟨rfl,rfl,rfl,World.putObj_size,World.putObj_heap_same (lt_of_heap h),fun _ hk=>World.putObj_heap_other hk⟩
theorem Pq {l:Nat} {q:Rec} {c:Code} {R:Ending->World->Prop} (H:St N D w0 F G0 G ((l,q.at .ready none) :: L) T a w)
  (k:∀ w',St N D w0 F G0 G ((l,q.at .busy none) :: L) T a w'->WP (some l) P c (roundPost P l R) a w') :
  ∃ w₂,(Instr.beginRound l).run P w=.ok () w₂∧c.wpIn (FW (some l)) 0 P (roundPost P l R) a w₂:=by
 have hl:=H.hp.own _ (nP)
 refine ⟨_,run_beginRound hl O,k _ (H.move ?_)⟩
 exact H.hp.upd (i:=0) O (vJ _ hl)
theorem zD {l:Nat} {q:Rec} {w1:World} {G1:GH} {L1:OL} {Jn Jx:GH->OL->Prop} (jump:Option Code) (H:St N D w1 (Fr w1 L1) G1 G ((l,q.at .busy none) :: L) T a w)
  (h:match jump with|none=>Jn G ((l,q.at .ready none) :: L)|some c=>Jx G ((l,q.at .done (some c)) :: L)) :
  ∃ v w',(Instr.endRound l jump).run P w=.ok v w'∧Ll w1 G1 L1 Jn Jx (.returned v) w':=by
 have hl:=H.hp.own _ (nP)
 refine ⟨_,_,run_endRound jump hl,?_⟩
 cases jump with
 | none=>exact Hp.kY (H.hp.upd (i:=0) O (vJ _ hl)) ⟨true,O,fun _=>h,fun e=>by cases e⟩
 | some c=>exact Hp.kY (H.hp.upd (i:=0) O (vJ _ hl)) ⟨false,O,fun e=>(by cases e),fun _=>h⟩
def Jr (l:Nat) (q:Rec) (bk:OL) (J:GH->OL->Prop):GH->OL->Prop:=fun G L=>∃ Lu,L=(l,q.at .ready none) :: (bk++Lu)∧J G Lu
def CF (l:Nat) (q:Rec) (bk:OL) (Jx:Code->GH->OL->Prop):GH->OL->Prop:=fun G L=>∃ c Lu,L=(l,q.at .done (some c)) :: (bk++Lu)∧Jx c G Lu
def FL (P:Program) (N:Nat) (ps:List Nat) (assign body:Code) (T:List (Nat × aj)) (G:GH) (J:Nat->GH->OL->Prop) (Jx:Code->GH->OL->Prop) (xs:List AP):Prop :=
 ∀ (l:Nat) (q:Rec) (bk:OL) (k:Nat) (args:List aj) (G1:GH) (L1:OL) (w1:World) (a1:Act),pY xs k args G1->(∀ b o,G b=some o->G1 b=some o)->J k G1 L1 ->
  St N [] w1 (Fr w1 ((l,q.at .ready none) :: (bk++L1))) G1 G1 ((l,q.at .ready none) :: (bk++L1)) (ru ps args T) a1 w1 ->
  WP (some l) P assign (Exit.then (fun a2 w2=>∃ w3,(Instr.beginRound l).run P w2=.ok () w3∧body.wpIn (FW (some l)) 0 P (roundPost P l (Ll w1 G1 ((l,q.at .ready none) :: (bk++L1)) (Jr l q bk (J (k+1))) (CF l q bk Jx))) a2 w3) (fun _ _ _=>False)) a1 w1
theorem Pw {fn:FuncId} {tm:Array aj} {ps:List Nat} {assign body:Code} {df l:Nat} {bk:OL} {J:Nat->GH->OL->Prop} {Jx:Code->GH->OL->Prop} {xs:List AP} (h1:tm.size=N) (h2:∀ t v,lk T t=some v->tm[t]?=some v)
  (hps:ps.all (Nat.blt · N)=true) (hlen:∀ k args g,pY xs k args g->args.length=ps.length) (hr:FL P N ps assign body T G J Jx xs) :
  FC P (.func (.yield l) #[] #[]) G xs (fun k=>Jr l ⟨fn,tm,ps.toArray,assign,body,df⟩ bk (J k)) (CF l ⟨fn,tm,ps.toArray,assign,body,df⟩ bk Jx):=by
 intro k args G1 L1 w1 hk hm hJ ho
 obtain ⟨Lu,rfl,hJ⟩:=hJ
 have hl:=ho.own _ (nP)
 have hargs:args.toArray.size=ps.toArray.size:=by simpa using hlen k args _ hk
 have hy:=run_yield (P:=P) (args:=args.toArray) hl hargs
 have hz:(ps.toArray.zip args.toArray).foldl (fun tmps (x:Nat × aj)=>tmps.setIfInBounds x.1 x.2) tm=(ps.zip args).foldl (fun t (x:Nat × aj)=>t.setIfInBounds x.1 x.2) tm:=by
  simp [List.zip_toArray]
 obtain ⟨z1,z2⟩:=Ut ps args T tm h1 h2 hps
 refine ⟨?_⟩
 have e:(do let d <- Deferred.ofValue (.func (.yield l) #[] #[]) args.toArray;invoke d.target d.args:Sem Next).run P w1=.ok (.round l fn ((ps.zip args).foldl (fun t (x:Nat × aj)=>t.setIfInBounds x.1 x.2) tm) assign body) w1:=by
  simp only [Deferred.ofValue,pure_bind,invoke,Array.empty_append]
  rw [<- hz]
  exact hy
 rw [e]
 refine roundIn_of_wpIn (F:=FW none) trivial ?_
 exact hr l _ bk k args G1 Lu w1 { tmps:=_,defers:=[] } hk hm hJ ⟨z1,z2,O,ho.hp⟩
theorem Xj {qC:Operand} {ps:List Nat} {assign body:Code} {gf:FuncId} {caps:List aj} {xs:List AP} {Gi:GH}
  (H:St N D w0 F G0 G L T a w) (hg:ev T qC=some (.func (.func gf) #[] caps.toArray)) (en:∀ args w,(callFunc gf args).run P w=.ok (.enter gf args) w) (hit:Iter P Gi (.func (.func gf) #[] caps.toArray) xs) (hGi:∀ b o,Gi b=some o->G b=some o)
  (hps:ps.all (Nat.blt · N)=true) (hlen:∀ k args g,pY xs k args g->args.length=ps.length)
  (J:Nat->GH->OL->Prop) (Jx:Code->GH->OL->Prop) (rM:CB J) (hJx:∀ c,CP (Jx c)) (h0:J 0 G L) (Jm:FL P N ps assign body T G J Jx xs)
  (hdone:∀ Dk G1 L1 a1 w1,(∀ b o,G b=some o->G1 b=some o)->J xs.length G1 L1->St N ({ target:=.collected Dk,args:=#[] } :: D) w0 F G0 G1 ((Dk,.deferred (some [])) :: L1) T a1 w1->Q .normal a1 w1)
  (hstop:∀ Dk c G1 L1 a1 w1,(∀ b o,G b=some o->G1 b=some o)->Jx c G1 L1->St N ({ target:=.collected Dk,args:=#[] } :: D) w0 F G0 G1 ((Dk,.deferred (some [])) :: L1) T a1 w1->WP none P c Q a1 w1) :
  WP none P (.rangeFunc qC ps.toArray assign body) Q a w:=by
 refine wpIn_rangeFunc ?_
 intro fn _
 have hev:=H.ev hg
 let q:Rec:=⟨fn,a.tmps,ps.toArray,assign,body,w.heap.size⟩
 obtain ⟨W1,hW1⟩:∃ W1,W1=(w.alloc (.deferred (some []))).alloc (q.at .ready none):=⟨_,O⟩
 have H1:Hp w0 F G0 G ((w.heap.size+1,q.at .ready none) :: (w.heap.size,.deferred (some [])) :: L) W1:=by
  have:=(H.hp.alloc (.deferred (some []))).alloc (q.at .ready none)
  rw [World.size_alloc] at this
  rw [hW1];exact this
 refine ⟨w.heap.size+1,[{ target:=.collected w.heap.size,args:=#[] }],W1,{ target:=.fn (.func gf) caps.toArray,args:=#[.func (.yield (w.heap.size+1)) #[] #[]] },W1,gf,
  #[.func (.yield (w.heap.size+1)) #[] #[]]++caps.toArray,W1,by rw [hW1];exact run_enterLoop_outer fn a.tmps ps.toArray assign body,?_,fun _ _=>trivial,?_,Cx none,?_⟩
 ·simp only [resolve,rangeCall,hev]
  simp [Deferred.ofValue,Act.eval]
 ·simp [invoke,en]
 ·have hcv:=hit (fun k=>Jr (w.heap.size+1) q [(w.heap.size,.deferred (some []))] (J k)) (CF (w.heap.size+1) q [(w.heap.size,.deferred (some []))] Jx) (.func (.yield (w.heap.size+1)) #[] #[]) G
   ((w.heap.size+1,q.at .ready none) :: (w.heap.size,.deferred (some [])) :: L) W1 rfl hGi (fun k G G' L hm ⟨Lu,e,h⟩=>⟨Lu,e,rM k G G' Lu hm h⟩) (fun G G' L hm ⟨c,Lu,e,h⟩=>⟨c,Lu,e,hJx c G G' Lu hm h⟩) ⟨L,O,h0⟩ (Hp.owns (Li:=[]) H1) (Pw H.iD H.get hps hlen Jm)
  replace hcv:=hcv.go
  have e:(do let d <- Deferred.ofValue (.func (.func gf) #[] caps.toArray) [Value.func (.yield (w.heap.size+1)) #[] #[]].toArray;invoke d.target d.args:Sem Next).run P W1=.ok (.enter gf (#[.func (.yield (w.heap.size+1)) #[] #[]]++caps.toArray)) W1:=by
   simp [Deferred.ofValue,invoke,en]
  rw [e] at hcv
  refine (GL hcv).mono ?_
  rintro e w2 ⟨v,G2,L2,rfl,hch,hJ⟩
  have H2:=Hp.change (Li:=[]) H1 hch
  rcases hJ with ⟨Lu,rfl,hJ⟩|⟨c,Lu,rfl,hJ⟩
  ·have hl:=H2.own _ (nP)
   have H3:=(H2.upd (i:=0) O (vJ (q.at .exhausted none) hl)).drop (List.sublist_cons_self _ _)
   exact ⟨none,_,run_endLoop hl (by simp),hdone _ G2 Lu _ _ hch.gm hJ ⟨H.iD,H.get,by simp [H.kK],H3⟩⟩
  ·have hl:=H2.own _ (nP)
   have H3:=(H2.upd (i:=0) O (vJ (q.at .exhausted (some c)) hl)).drop (List.sublist_cons_self _ _)
   exact ⟨some c,_,run_endLoop hl (by simp),hstop _ c G2 Lu _ _ hch.gm hJ ⟨H.iD,H.get,by simp [H.kK],H3⟩⟩
theorem Sq {fn:Func} {R:Ending->World->Prop} {b:Nat} (H:St N ({ target:=.collected b,args:=#[] } :: D) w0 F G0 G L T a w) (i:Nat) (hi:L[i]?=some (b,.deferred (some [])))
  (k:∀ a' w',St N D w0 F G0 G (L.eraseIdx i) T a' w'->bodyPostM (FW none) 0 P fn R .ret a' w'):bodyPostM (FW none) 0 P fn R .ret a w∧bodyPostM (FW none) 0 P fn R .normal a w:=by
 have hb:=H.hp.own _ (iU hi)
 have H2:=(H.hp.upd hi (vJ (.deferred none) hb)).drop (L':=L.eraseIdx i) (by
  have h1:(L.set i (b,.deferred none)).eraseIdx i=L.eraseIdx i:=by
   apply List.ext_getElem?
   intro j
   simp only [List.getElem?_eraseIdx,List.getElem?_set]
   split <;> split <;> first|rfl|omega
  rw [<- h1];exact List.eraseIdx_sublist _ _)
 have hk:=k { a with defers:=D } _ ⟨H.iD,H.get,O,H2⟩
 have h1:LeavesInM (FW none) 0 P fn a.tmps R a.defers .returning w:=by
  rw [H.kK]
  exact ⟨by simp,.inl ⟨b,_,O,run_takeDeferred hb,hk⟩⟩
 exact ⟨h1,h1⟩
theorem St.giveUp {b:Nat} {o:Obj} (h:St N D w0 F G0 G L T a w) (i:Nat) (hi:L[i]?=some (b,o)):St N D w0 F G0 (G.add b o) (L.eraseIdx i) T a w:=⟨h.iD,h.get,h.kK,h.hp.giveUp i hi⟩
theorem St.QU {b:Nat} {o:Obj} (h:St N D w0 F G0 G L T a w) (i:Nat) (hi:L[i]?=some (b,o)):G b=none:=h.hp.mR _ (iU hi)
theorem lS {f:FuncId} {fn:Func} {c:Code} {vs:List aj} {R:Ending->World->Prop} (hf:P.funcs[f]?=some fn) (hb:fn.body=some c) (hN:fn.ntmps=N) (hle:Nat.ble vs.length N=true)
  (hT:vN 0 vs=T) (ho:jc G L w) (h:∀ a,St N [] w (Fr w L) G G L T a w->WP none P c (bodyPostM (FW none) 0 P fn R) a w):Calls P f vs.toArray w R :=
 enter hf hb hN hle hT ho.ro (fun _ hk=>hk.1) ho.own ho.sep (fun p hp hf=>hf.2 p hp O) ho.nd h
end steps
end
inductive Dat where
 | lf (v:aj)
 | sl (sz:Nat) (rows:List (List Dat))
mutual
def ay (G:GH):Dat->aj->Prop
 | .lf u,v=>v=u∧Value.oneCell' u=true
 | .sl sz rows,v=>∃ A c,v=.slice A rows.length c∧rows.length<=c∧c<=maxLen∧(rows≠[]->∃ b o,A=some ⟨b,o,none⟩∧jm G sz b o rows)
def jm (G:GH) (sz b:Nat):Nat->List (List Dat)->Prop
 | _,[]=>True
 | o,r :: rs=>(∃ cs,cs.length=sz∧(∀ j v,cs[j]?=some v->aQ G b (o+j)=some v)∧aT G r cs)∧jm G sz b (o+sz) rs
def aT (G:GH):List Dat->List aj->Prop
 | [],cs=>cs=[]
 | d :: ds,cs=>∃ v vs,cs=v :: vs∧ay G d v∧aT G ds vs
end
theorem aK {G G':GH} (hm:∀ k o,G k=some o->G' k=some o) {b o:Nat} {v:aj} (h:aQ G b o=some v):aQ G' b o=some v:=by
 unfold aQ at h |-
 cases hg:G b with
 | none=>rw [hg] at h;cases h
 | some ob=>rw [hg] at h;rw [hm b ob hg];exact h
mutual
theorem ay.mono {G G':GH} (hm:∀ k o,G k=some o->G' k=some o):∀ {d:Dat} {v:aj},ay G d v->ay G' d v
 | .lf u,v,h=>by simpa [ay] using h
 | .sl sz rows,v,h=>by
  simp only [ay] at h |-
  obtain ⟨A,c,h1,h2,h3,h4⟩:=h
  exact ⟨A,c,h1,h2,h3,fun hn=>let ⟨b,o,e,hr⟩:=h4 hn;⟨b,o,e,jm.mono hm hr⟩⟩
theorem jm.mono {G G':GH} (hm:∀ k o,G k=some o->G' k=some o) {sz b:Nat}:∀ {rows:List (List Dat)} {o:Nat},jm G sz b o rows->jm G' sz b o rows
 | [],o,_=>by simp [jm]
 | r :: rs,o,h=>by
  simp only [jm] at h |-
  obtain ⟨⟨cs,h1,h2,h3⟩,h4⟩:=h
  exact ⟨⟨cs,h1,fun j v hj=>aK hm (h2 j v hj),aT.mono hm h3⟩,jm.mono hm h4⟩
theorem aT.mono {G G':GH} (hm:∀ k o,G k=some o->G' k=some o):∀ {ds:List Dat} {cs:List aj},aT G ds cs->aT G' ds cs
 | [],cs,h=>by simpa [aT] using h
 | d :: ds,cs,h=>by
  simp only [aT] at h |-
  obtain ⟨v,vs,h1,h2,h3⟩:=h
  exact ⟨v,vs,h1,ay.mono hm h2,aT.mono hm h3⟩
end
theorem jm.get {G:GH} {sz b:Nat}:∀ {rows:List (List Dat)} {o k:Nat} {r:List Dat},jm G sz b o rows->rows[k]?=some r->∃ cs,cs.length=sz∧(∀ j v,cs[j]?=some v->aQ G b (o+k*sz+j)=some v)∧aT G r cs
 | [],_,_,_,_,h=>by simp at h
 | r :: rs,o,0,q,h,hk=>by
  simp only [uH,jL] at hk
  subst hk
  simp only [jm] at h
  simpa using h.1
 | r :: rs,o,k+1,q,h,hk=>by
  simp only [List.getElem?_cons_succ] at hk
  simp only [jm] at h
  obtain ⟨cs,h1,h2,h3⟩:=jm.get h.2 hk
  exact ⟨cs,h1,fun j v hj=>by rw [<- h2 j v hj];congr 1;rw [Nat.succ_mul];omega,h3⟩
theorem ay.slice {G:GH} {sz:Nat} {rows:List (List Dat)} {v:aj} (h:ay G (.sl sz rows) v):∃ A c,v=.slice A rows.length c∧rows.length<=c∧c<=maxLen ∧
  ∀ k r,rows[k]?=some r->∃ b o cs,A=some ⟨b,o,none⟩∧cs.length=sz∧(∀ j u,cs[j]?=some u->aQ G b (o+k*sz+j)=some u)∧aT G r cs:=by
 simp only [ay] at h
 obtain ⟨A,c,h1,h2,h3,h4⟩:=h
 refine ⟨A,c,h1,h2,h3,fun k r hk=>?_⟩
 obtain ⟨b,o,e,hr⟩:=h4 (by rintro rfl;simp at hk)
 obtain ⟨cs,g1,g2,g3⟩:=hr.get hk
 exact ⟨b,o,cs,e,g1,g2,g3⟩
theorem jm.mk {G:GH} {sz b:Nat}:∀ {rows:List (List Dat)} {o:Nat},(∀ k r,rows[k]?=some r->∃ cs,cs.length=sz∧(∀ j u,cs[j]?=some u->aQ G b (o+k*sz+j)=some u)∧aT G r cs)->jm G sz b o rows
 | [],o,_=>by simp [jm]
 | r :: rs,o,h=>by
  simp only [jm]
  refine ⟨by simpa using h 0 r O,jm.mk fun k q hk=>?_⟩
  obtain ⟨cs,h1,h2,h3⟩:=h (k+1) q (by simpa using hk)
  exact ⟨cs,h1,fun j v hj=>by rw [<- h2 j v hj];congr 1;rw [Nat.succ_mul];omega,h3⟩
abbrev vi (n:Int):aj:=.int .i64 n
structure qj where
 key:Int
 value:Int
structure qb where
 rev:Int
 move:Int
structure qg where
 rev:Int
 key:Int
 before:Int
 had:Bool
structure qW where
 ins:Int
 move:Int
 rF:List qb
 layers:List qg
structure jZ where
 props:List qj
 marks:qW
mutual
inductive aN where
 | mk (kind code id:Int) (text:ByteArray) (head:jZ) (flow:List aN) (rows:List bg)
inductive bg where
 | mk (head:jZ) (cells:List bL)
inductive bL where
 | mk (id:Int) (head:jZ) (flow:List aN)
end
namespace aN
def kind:aN->Int|.mk k _ _ _ _ _ _=>k
def code:aN->Int|.mk _ c _ _ _ _ _=>c
def id:aN->Int|.mk _ _ i _ _ _ _=>i
def text:aN->ByteArray|.mk _ _ _ t _ _ _=>t
def head:aN->jZ|.mk _ _ _ _ h _ _=>h
def flow:aN->List aN|.mk _ _ _ _ _ f _=>f
def rows:aN->List bg|.mk _ _ _ _ _ _ r=>r
end aN
namespace bg
def head:bg->jZ|.mk h _=>h
def cells:bg->List bL|.mk _ c=>c
end bg
namespace bL
def id:bL->Int|.mk i _ _=>i
def head:bL->jZ|.mk _ h _=>h
def flow:bL->List aN|.mk _ _ f=>f
end bL
abbrev li (n:Int):Dat:=.lf (.int .i64 n)
def qj.dat (p:qj):List Dat:=[li p.key,li p.value]
def qb.dat (p:qb):List Dat:=[li p.rev,li p.move]
def qg.dat (p:qg):List Dat:=[li p.rev,li p.key,li p.before,.lf (.bool p.had)]
def qW.dat (m:qW):List Dat:=[li m.ins,li m.move,.sl 2 (m.rF.map qb.dat),.sl 4 (m.layers.map qg.dat)]
def jZ.dat (h:jZ):List Dat:=.sl 2 (h.props.map qj.dat) :: h.marks.dat
mutual
def aN.dat:aN->List Dat
 | .mk k c i t h f r=>li k :: li c :: li i :: .lf (.string t) :: (h.dat++[.sl 11 (yh f),.sl 6 (AX r)])
def bg.dat:bg->List Dat
 | .mk h cs=>h.dat++[.sl 7 (AV cs)]
def bL.dat:bL->List Dat
 | .mk i h f=>li i :: (h.dat++[.sl 11 (yh f)])
def yh:List aN->List (List Dat)
 | []=>[]
 | x :: r=>x.dat :: yh r
def AX:List bg->List (List Dat)
 | []=>[]
 | x :: r=>x.dat :: AX r
def AV:List bL->List (List Dat)
 | []=>[]
 | x :: r=>x.dat :: AV r
end
theorem GR:∀ l:List aN,yh l=l.map aN.dat
 | []=>by simp [yh]
 | x :: r=>by simp [yh,GR r]
theorem P7:∀ l:List bg,AX l=l.map bg.dat
 | []=>by simp [AX]
 | x :: r=>by simp [AX,P7 r]
theorem P6:∀ l:List bL,AV l=l.map bL.dat
 | []=>by simp [AV]
 | x :: r=>by simp [AV,P6 r]
theorem aN.qy (x:aN):x.dat=li x.kind :: li x.code :: li x.id :: .lf (.string x.text) :: (x.head.dat++[.sl 11 (x.flow.map aN.dat),.sl 6 (x.rows.map bg.dat)]):=by
 cases x;simp [aN.dat,aN.kind,aN.code,aN.id,aN.text,aN.head,aN.flow,aN.rows,GR,P7]
theorem bg.qy (x:bg):x.dat=x.head.dat++[.sl 7 (x.cells.map bL.dat)]:=by
 cases x;simp [bg.dat,bg.head,bg.cells,P6]
theorem bL.qy (x:bL):x.dat=li x.id :: (x.head.dat++[.sl 11 (x.flow.map aN.dat)]):=by
 cases x;simp [bL.dat,bL.id,bL.head,bL.flow,GR]
structure oV (G:GH) (x:jZ) (p d l:aj):Prop where
 props:ay G (.sl 2 (x.props.map qj.dat)) p
 rF:ay G (.sl 2 (x.marks.rF.map qb.dat)) d
 layers:ay G (.sl 4 (x.marks.layers.map qg.dat)) l
theorem oV.mono {G G':GH} (hm:∀ k o,G k=some o->G' k=some o) {x:jZ} {p d l:aj} (h:oV G x p d l):oV G' x p d l:=⟨h.props.mono hm,h.rF.mono hm,h.layers.mono hm⟩
theorem ay.form {G:GH} {sz:Nat} {rows:List (List Dat)} {v:aj} (h:ay G (.sl sz rows) v):∃ A n c,v=.slice A n c:=by
 obtain ⟨A,c,h,_⟩:=h.slice
 exact ⟨A,_,c,h⟩
theorem aT.item {G:GH} {x:aN} {cs:List aj} (h:aT G x.dat cs):∃ pA pn pc dA dn dc lA ln lc fA fn fc rA rn rc,cs=[vi x.kind,vi x.code,vi x.id,.string x.text,.slice pA pn pc,vi x.head.marks.ins,vi x.head.marks.move,.slice dA dn dc,.slice lA ln lc,.slice fA fn fc,.slice rA rn rc] ∧
  oV G x.head (.slice pA pn pc) (.slice dA dn dc) (.slice lA ln lc)∧ay G (.sl 11 (x.flow.map aN.dat)) (.slice fA fn fc)∧ay G (.sl 6 (x.rows.map bg.dat)) (.slice rA rn rc):=by
 rw [aN.qy] at h
 simp only [jZ.dat,qW.dat,lJ,uI,aT] at h
 obtain ⟨v1,_,rfl,h1,v2,_,rfl,h2,v3,_,rfl,h3,v4,_,rfl,h4,p,_,rfl,hp,v5,_,rfl,h5,v6,_,rfl,h6,d,_,rfl,hd,l,_,rfl,hl,f,_,rfl,hf,r,_,rfl,hr,rfl⟩:=h
 obtain ⟨pA,pn,pc,rfl⟩:=hp.form
 obtain ⟨dA,dn,dc,rfl⟩:=hd.form
 obtain ⟨lA,ln,lc,rfl⟩:=hl.form
 obtain ⟨fA,fn,fc,rfl⟩:=hf.form
 obtain ⟨rA,rn,rc,rfl⟩:=hr.form
 simp only [ay] at h1 h2 h3 h4 h5 h6
 obtain ⟨rfl,-⟩:=h1;obtain ⟨rfl,-⟩:=h2;obtain ⟨rfl,-⟩:=h3;obtain ⟨rfl,-⟩:=h4;obtain ⟨rfl,-⟩:=h5;obtain ⟨rfl,-⟩:=h6
 exact ⟨pA,pn,pc,dA,dn,dc,lA,ln,lc,fA,fn,fc,rA,rn,rc,O,⟨hp,hd,hl⟩,hf,hr⟩
theorem aT.row {G:GH} {x:bg} {cs:List aj} (h:aT G x.dat cs):∃ pA pn pc dA dn dc lA ln lc cA cn cc,cs=[.slice pA pn pc,vi x.head.marks.ins,vi x.head.marks.move,.slice dA dn dc,.slice lA ln lc,.slice cA cn cc]∧oV G x.head (.slice pA pn pc) (.slice dA dn dc) (.slice lA ln lc)∧ay G (.sl 7 (x.cells.map bL.dat)) (.slice cA cn cc):=by
 rw [bg.qy] at h
 simp only [jZ.dat,qW.dat,lJ,uI,aT] at h
 obtain ⟨p,_,rfl,hp,v5,_,rfl,h5,v6,_,rfl,h6,d,_,rfl,hd,l,_,rfl,hl,f,_,rfl,hf,rfl⟩:=h
 obtain ⟨pA,pn,pc,rfl⟩:=hp.form
 obtain ⟨dA,dn,dc,rfl⟩:=hd.form
 obtain ⟨lA,ln,lc,rfl⟩:=hl.form
 obtain ⟨fA,fn,fc,rfl⟩:=hf.form
 simp only [ay] at h5 h6
 obtain ⟨rfl,-⟩:=h5;obtain ⟨rfl,-⟩:=h6
 exact ⟨pA,pn,pc,dA,dn,dc,lA,ln,lc,fA,fn,fc,O,⟨hp,hd,hl⟩,hf⟩
theorem aT.cell {G:GH} {x:bL} {cs:List aj} (h:aT G x.dat cs):∃ pA pn pc dA dn dc lA ln lc fA fn fc,cs=[vi x.id,.slice pA pn pc,vi x.head.marks.ins,vi x.head.marks.move,.slice dA dn dc,.slice lA ln lc,.slice fA fn fc]∧oV G x.head (.slice pA pn pc) (.slice dA dn dc) (.slice lA ln lc)∧ay G (.sl 11 (x.flow.map aN.dat)) (.slice fA fn fc):=by
 rw [bL.qy] at h
 simp only [jZ.dat,qW.dat,lJ,uI,aT] at h
 obtain ⟨v1,_,rfl,h1,p,_,rfl,hp,v5,_,rfl,h5,v6,_,rfl,h6,d,_,rfl,hd,l,_,rfl,hl,f,_,rfl,hf,rfl⟩:=h
 obtain ⟨pA,pn,pc,rfl⟩:=hp.form
 obtain ⟨dA,dn,dc,rfl⟩:=hd.form
 obtain ⟨lA,ln,lc,rfl⟩:=hl.form
 obtain ⟨fA,fn,fc,rfl⟩:=hf.form
 simp only [ay] at h1 h5 h6
 obtain ⟨rfl,-⟩:=h1;obtain ⟨rfl,-⟩:=h5;obtain ⟨rfl,-⟩:=h6
 exact ⟨pA,pn,pc,dA,dn,dc,lA,ln,lc,fA,fn,fc,O,⟨hp,hd,hl⟩,hf⟩
theorem ay.one {G:GH}:∀ {d:Dat} {v:aj},ay G d v->Value.oneCell' v=true
 | .lf u,v,h=>by simp only [ay] at h;rw [h.1];exact h.2
 | .sl sz rows,v,h=>by obtain ⟨A,n,c,rfl⟩:=h.form;rfl
theorem aT.one {G:GH}:∀ {ds:List Dat} {cs:List aj},aT G ds cs->cs.all Value.oneCell'=true
 | [],cs,h=>by simp only [aT] at h;subst h;rfl
 | d :: ds,cs,h=>by
  simp only [aT] at h
  obtain ⟨v,vs,rfl,h1,h2⟩:=h
  simp only [List.all_cons,h1.one,h2.one,Bool.and_self]
theorem aT.length {G:GH}:∀ {ds:List Dat} {cs:List aj},aT G ds cs->cs.length=ds.length
 | [],cs,h=>by simp only [aT] at h;subst h;rfl
 | d :: ds,cs,h=>by
  simp only [aT] at h
  obtain ⟨v,vs,rfl,h1,h2⟩:=h
  simp [h2.length]
theorem aT.mkItem {G:GH} {x:aN} {p d l f r:aj} (hh:oV G x.head p d l) (hf:ay G (.sl 11 (x.flow.map aN.dat)) f) (hr:ay G (.sl 6 (x.rows.map bg.dat)) r) :
  aT G x.dat [vi x.kind,vi x.code,vi x.id,.string x.text,p,vi x.head.marks.ins,vi x.head.marks.move,d,l,f,r]:=by
 rw [aN.qy]
 simp only [jZ.dat,qW.dat,lJ,uI,aT]
 exact ⟨_,_,O,by simp [ay,Value.oneCell'],_,_,O,by simp [ay,Value.oneCell'],_,_,O,by simp [ay,Value.oneCell'],_,_,O,by simp [ay,Value.oneCell'],_,_,O,hh.props,_,_,O,by simp [ay,Value.oneCell'],_,_,O,by simp [ay,Value.oneCell'],_,_,O,hh.rF,_,_,O,hh.layers,_,_,O,hf,_,_,O,hr,O⟩
theorem aT.SN {G:GH} {x:bg} {p d l c:aj} (hh:oV G x.head p d l) (hc:ay G (.sl 7 (x.cells.map bL.dat)) c) :
  aT G x.dat [p,vi x.head.marks.ins,vi x.head.marks.move,d,l,c]:=by
 rw [bg.qy]
 simp only [jZ.dat,qW.dat,lJ,uI,aT]
 exact ⟨_,_,O,hh.props,_,_,O,by simp [ay,Value.oneCell'],_,_,O,by simp [ay,Value.oneCell'],_,_,O,hh.rF,_,_,O,hh.layers,_,_,O,hc,O⟩
theorem aT.SL {G:GH} {x:bL} {p d l f:aj} (hh:oV G x.head p d l) (hf:ay G (.sl 11 (x.flow.map aN.dat)) f) :
  aT G x.dat [vi x.id,p,vi x.head.marks.ins,vi x.head.marks.move,d,l,f]:=by
 rw [bL.qy]
 simp only [jZ.dat,qW.dat,lJ,uI,aT]
 exact ⟨_,_,O,by simp [ay,Value.oneCell'],_,_,O,hh.props,_,_,O,by simp [ay,Value.oneCell'],_,_,O,by simp [ay,Value.oneCell'],_,_,O,hh.rF,_,_,O,hh.layers,_,_,O,hf,O⟩
mutual
def vE:Dat->Nat
 | .lf v=>(match v with|.string s=>s.size|_=>0)+1
 | .sl _ rows=>1+gY rows
def gY:List (List Dat)->Nat
 | []=>0
 | r :: rs=>1+fK r+gY rs
def fK:List Dat->Nat
 | []=>0
 | d :: ds=>vE d+fK ds
end
theorem E9 (a b:List (List Dat)):gY (a++b)=gY a+gY b:=by
 induction a with
 | nil=>simp [gY]
 | cons x a ih=>simp only [lJ,gY,ih];omega
theorem Kq (a b:List Dat):fK (a++b)=fK a+fK b:=by
 induction a with
 | nil=>simp [fK]
 | cons x a ih=>simp only [lJ,fK,ih];omega
theorem wY:∀ rows:List (List Dat),rows.length<=gY rows
 | []=>aV _
 | r :: rs=>by have:=wY rs;simp only [jB,gY];omega
abbrev fI (l:List aN):Nat:=gY (l.map aN.dat)
abbrev jl (l:List bg):Nat:=gY (l.map bg.dat)
abbrev iT (l:List bL):Nat:=gY (l.map bL.dat)
abbrev sw (h:jZ):Nat:=fK h.dat
theorem Ld (h:jZ):sw h=gY (h.props.map qj.dat)+gY (h.marks.rF.map qb.dat)+gY (h.marks.layers.map qg.dat)+5:=by
 simp only [sw,jZ.dat,qW.dat,fK,vE];omega
theorem xD (x:aN):fK x.dat=x.text.size+sw x.head+fI x.flow+jl x.rows+6:=by
 rw [aN.qy];simp only [fK,vE,Kq,sw,fI,jl,iT];omega
theorem sD (x:bg):fK x.dat=sw x.head+iT x.cells+1:=by
 rw [bg.qy];simp only [fK,vE,Kq,sw,fI,jl,iT];omega
theorem qU (x:bL):fK x.dat=sw x.head+fI x.flow+2:=by
 rw [bL.qy];simp only [fK,vE,Kq,sw,fI,jl,iT];omega
theorem Le (l:List aN):l.length<=fI l:=by have:=wY (l.map aN.dat);simpa using this
theorem Fy (l:List bg):l.length<=jl l:=by have:=wY (l.map bg.dat);simpa using this
theorem Fx (l:List bL):l.length<=iT l:=by have:=wY (l.map bL.dat);simpa using this
theorem Fa {r:List Dat}:∀ {rows:List (List Dat)},r∈rows->fK r < gY rows
 | [],h=>by cases h
 | q :: rs,h=>by
  rcases mq.1 h with rfl|h
  ·simp only [gY];omega
  ·have:=Fa h;simp only [gY];omega
theorem Lg {x:aN} {l:List aN} (h:x∈l):fK x.dat < fI l:=Fa (List.mem_map_of_mem h)
theorem uw {x:bg} {l:List bg} (h:x∈l):fK x.dat < jl l:=Fa (List.mem_map_of_mem h)
theorem uq {x:bL} {l:List bL} (h:x∈l):fK x.dat < iT l:=Fa (List.mem_map_of_mem h)
section
def oH (l:List Oper) (i:Nat):List Nat:=match l[i]? with|some o=>(o.after.toList.filter (Region.binds .any)).map (·.on)|none=>[]
def cZ (l:List Oper) (i:Nat):Option Nat:=(l[i]?).bind (·.dst)
def rG (l:List Oper) (aW:List (List Nat)):Bool :=
 (List.range l.length).all fun i=>(oH l i).all (fun j=>Nat.blt j i) && (aW.getD i []).all fun j=>(oH l i).contains j || (oH l i).any fun k=>Nat.blt k i && (aW.getD k []).contains j
def dM (S:Nat->Bool) (i:Nat):Nat->Bool:=fun j=>if j=i then true else S j
section
variable {r:Option Nat} {P:Program} {Q:Exit->Act->World->Prop} {l:List Oper} {aW:List (List Nat)} {a:Act} {w:World}
theorem PU (hk:rG l aW=true) {S:Nat->Bool} (hd:∀ i,S i=true->∀ j∈oH l i,S j=true):∀ i,i < l.length->(∀ j∈oH l i,S j=true)->∀ j∈aW.getD i [],S j=true:=by
 intro i
 induction i using Nat.strongRecOn with
 | _ i ih =>
  intro hi hdi j hj
  have h1:=fM.1 hk i (nQ.2 hi)
  simp only [gq,fM] at h1
  have h2:=h1.2 j hj
  simp only [Bool.or_eq_true,pq,List.any_eq_true,gq] at h2
  rcases h2 with h2|⟨k,hk1,hk2,hk3⟩
  ·exact hdi j h2
  ·have hlt:k < i:=Eq.mp Nat.blt_eq hk2
   exact ih k hlt V (hd k (hdi k hk1)) j hk3
theorem afN {ops:Array Oper} {i:Nat} {o:Oper} {K:Act->World->Prop} (ho:ops[i]?=some o) (h:WL r P ops (fun e a' w'=>e=.normal∧K a' w') [o] a w):wpOpIn (FW r) 0 P ops Q i K a w:=by
 unfold wpOpIn
 simp only [ho]
 have h':wpListIn (FW r) 0 P ops (fun e a' w'=>e=.normal∧K a' w') [o] a w:=h
 unfold wpListIn at h'
 by_cases hw:Region.wanted o (yielded ops a.tmps)=true
 ·rw [aM hw] at h' |-
  refine ⟨fun _ _=>trivial,?_⟩
  have h2:=h'.2
  generalize (o.semAt (FW r).round a.eval).run P w=res at h2 |-
  cases res with
  | ok x w1 =>
   cases x with
   | value v=>exact h2.2
   | skip=>exact h2.2
   | defer d=>exact h2.2
   | enter f args=>exact ⟨h2.1,h2.2.mono fun e w2 he=>by
     cases e with
     | returned v=>exact he.2
     | panicked ch=>exact absurd he.1 (by simp)
     | outgrown=>obtain ⟨_,_,h3,_⟩:=he;exact absurd h3 (by simp)⟩
   | row JZ args=>exact ⟨h2.1,h2.2.mono fun v w2 he=>he.2⟩
   | round l f t FU b=>exact ⟨h2.1,h2.2.mono fun e w2 he=>by
     cases e with
     | returned v=>exact he.2
     | panicked ch=>exact absurd he.1 (by simp)
     | outgrown=>obtain ⟨_,_,h3,_⟩:=he;exact absurd h3 (by simp)⟩
   | _=>exact h2.elim
  | halt x w1 =>
   cases x with
   | panic v=>exact absurd h2.1 (by simp)
   | _=>exact h2.elim
 ·rw [aL hw] at h' |-
  exact ⟨fun _ _=>trivial,h'.2.2⟩
theorem count_set {L:List Bool}:∀ {i:Nat},L[i]?=some false->(L.set i true).count false+1=L.count false:=by
 induction L with
 | nil=>intro i h;simp at h
 | cons b L ih =>
  intro i h
  cases i with
  | zero=>simp at h;subst h;simp
  | succ i =>
   simp only [List.getElem?_cons_succ] at h
   have:=ih h
   simp only [List.set_cons_succ,List.count_cons]
   omega
theorem Dx {id:Nat} (hm:P.follows .mixedOrders=true) (aW:List (List Nat)) (hk:rG l aW=true) (X:(Nat->Bool)->Act->World->Prop) (h0:X (fun _=>false) a w.drew)
  (hstep:∀ i o S a w,l[i]?=some o->X S a w->S i=false->(∀ j∈aW.getD i [],S j=true)->(∀ j,j < l.length->i∈aW.getD j []->S j=false)->WL r P l.toArray (fun e a' w'=>e=.normal∧X (dM S i) a' w') [o] a w)
  (hend:∀ S a w,(∀ i,i < l.length->S i=true)->X S a w->Q .normal a w):WP r P (.region id l.toArray true) Q a w:=by
 have key:∀ (fuel:Nat) (listed:Array Bool) (S:Nat->Bool) (a:Act) (w:World),listed.size=l.length->(∀ i,i < l.length->listed[i]?=some (S i))->listed.toList.count false<=fuel->(∀ i,i < l.length->S i=true->∀ j∈oH l i,S j=true)->(∀ i,l.length<=i->S i=false)->X S a w ->
   wpAnyIn (FW r) 0 P .any l.toArray Q fuel listed a w:=by
  intro fuel
  induction fuel with
  | zero =>
   intro listed S a w hsz hS hc hdn hbig hX
   have hall:∀ i,i < l.length->S i=true:=by
    intro i hi
    cases ah:S i with
    | true=>rfl
    | false =>
     have h1:=hS i hi
     rw [ah] at h1
     have:false∈listed.toList:=iU (by simpa using h1)
     have:=List.count_pos_iff.2 this
     omega
   refine ⟨?_,hend S a w hall hX⟩
   apply List.eq_nil_iff_forall_not_mem.2
   intro i hi
   obtain ⟨h1,o,ho,-⟩:=mem_ready.1 hi
   have hil:i < l.length:=by simpa using (Array.getElem?_eq_some_iff.1 ho).1
   have h2:=hS i hil
   rw [hall i hil] at h2
   rw [Array.getD_eq_getD_getElem?,h2] at h1
   cases h1
  | succ fuel ih =>
   intro listed S a w hsz hS hc hdn hbig hX
   have hget:∀ i d,i < l.length->listed.getD i d=S i:=fun i d hi=>by rw [Array.getD_eq_getD_getElem?,hS i hi];rfl
   refine ⟨fun hnil=>?_,fun i hi=>?_⟩
   ·by_cases hall:∀ i,i < l.length->S i=true
    ·exact hend S a w hall hX
    ·exfalso
     have hex:∃ i,i < l.length∧S i=false:=by
      apply Classical.byContradiction
      intro hno
      apply hall
      intro i hi
      cases ah:S i with
      | true=>rfl
      | false=>exact absurd ⟨i,hi,ah⟩ hno
     obtain ⟨i,hi,ah,hmin⟩:∃ i,i < l.length∧S i=false∧∀ j,j < i->S j=true:=by
      obtain ⟨i0,hi0,hs0⟩:=hex
      clear hall
      induction i0 using Nat.strongRecOn with
      | _ i0 ihh =>
       by_cases hlt:∃ j,j < i0∧S j=false
       ·obtain ⟨j,hj,hsj⟩:=hlt
        exact ihh j hj V hsj
       ·refine ⟨i0,hi0,hs0,fun j hj=>?_⟩
        cases hSj:S j with
        | true=>rfl
        | false=>exact absurd ⟨j,hj,hSj⟩ hlt
     have hr:i∈Region.ready .any l.toArray listed:=by
      rw [mem_ready]
      refine ⟨by rw [hget i true hi,ah],l[i],by simp [hi],fun e he hb=>?_⟩
      have hk1:=fM.1 hk i (nQ.2 hi)
      simp only [gq,fM] at hk1
      have hin:e.on∈oH l i:=by
       simp only [oH,gU hi,List.mem_map,List.mem_filter]
       exact ⟨e,⟨by simpa using he,hb⟩,O⟩
      have hlt:e.on < i:=Eq.mp Nat.blt_eq (hk1.1 _ hin)
      rw [hget _ _ V]
      exact hmin _ hlt
     rw [hnil] at hr
     cases hr
   ·obtain ⟨h1,o,ho,aaL⟩:=mem_ready.1 hi
    have hil:i < l.length:=by simpa using (Array.getElem?_eq_some_iff.1 ho).1
    have ho':l[i]?=some o:=by simpa using ho
    have ah:S i=false:=by rw [<- hget i true hil];exact h1
    have hdi:∀ j∈oH l i,S j=true:=by
     intro j hj
     simp only [oH,ho',List.mem_map,List.mem_filter] at hj
     obtain ⟨e,⟨he,hb⟩,rfl⟩:=hj
     have h2:=aaL e (by simpa using he) hb
     by_cases hjl:e.on < l.length
     ·rwa [hget _ _ hjl] at h2
     ·have hk1:=fM.1 hk i (nQ.2 hil)
      simp only [gq,fM] at hk1
      have hin:e.on∈oH l i:=by
       simp only [oH,ho',List.mem_map,List.mem_filter]
       exact ⟨e,⟨he,hb⟩,O⟩
      have hlt:e.on < i:=Eq.mp Nat.blt_eq (hk1.1 _ hin)
      omega
    have Q9:∀ i,S i=true->∀ j∈oH l i,S j=true:=by
     intro k hk' j hj
     by_cases hkl:k < l.length
     ·exact hdn k hkl hk' j hj
     ·rw [hbig k V] at hk';cases hk'
    refine afN ho ?_
    have hs:=hstep i o S a w ho' hX ah (PU hk Q9 i hil hdi) (fun j hjl hj=>by
     cases hSj:S j with
     | false=>rfl
     | true=>have:=PU hk Q9 j hjl (hdn j hjl hSj) i hj;rw [this] at ah;cases ah)
    have hmono:∀ e a' w',(e=Exit.normal∧X (dM S i) a' w')->(e=Exit.normal∧wpAnyIn (FW r) 0 P .any l.toArray Q fuel (listed.setIfInBounds i true) a' w'):=by
     rintro e a' w' ⟨he,hX'⟩
     refine ⟨he,ih _ (dM S i) a' w' (by simpa using hsz) (fun j hj=>?_) ?_ (fun j hj hSj q hq=>?_) (fun j hj=>?_) hX'⟩
     ·rw [Array.getElem?_setIfInBounds]
      unfold dM
      by_cases e:i=j
      ·subst e;simp [hsz,hil]
      ·rw [aL e,aL (Ne.symm e)];exact hS j hj
     ·have h3:listed.toList[i]?=some false:=by have:=hS i hil;rw [ah] at this;simpa using this
      have:=count_set h3
      simp only [Array.toList_setIfInBounds]
      omega
     ·unfold dM at hSj |-
      split
      ·rfl
      ·split at hSj
       ·rename_i e;subst e;exact hdi q hq
       ·exact hdn j hj hSj q hq
     ·unfold dM
      rw [aL V]
      exact hbig j hj
    have hs':wpListIn (FW r) 0 P l.toArray (fun e a' w'=>e=.normal∧X (dM S i) a' w') [o] a w:=hs
    show wpListIn (FW r) 0 P l.toArray _ [o] a w
    unfold wpListIn at hs' |-
    split
    ·rename_i hw
     rw [aM hw] at hs'
     refine ⟨fun _ _=>trivial,?_⟩
     have h2:=hs'.2
     generalize (o.semAt (FW r).round a.eval).run P w=res at h2 |-
     cases res with
     | ok x w1 =>
      cases x with
      | value v=>exact hmono _ _ _ h2
      | skip=>exact hmono _ _ _ h2
      | defer d=>exact hmono _ _ _ h2
      | enter f args=>exact ⟨h2.1,h2.2.mono fun e w2 he=>by
        cases e with
        | returned v=>exact hmono _ _ _ he
        | panicked ch=>exact absurd he.1 (by simp)
        | outgrown=>obtain ⟨_,_,h3,_⟩:=he;exact absurd h3 (by simp)⟩
      | row JZ args=>exact ⟨h2.1,h2.2.mono fun v w2 he=>hmono _ _ _ he⟩
      | round l f t FU b=>exact ⟨h2.1,h2.2.mono fun e w2 he=>by
        cases e with
        | returned v=>exact hmono _ _ _ he
        | panicked ch=>exact absurd he.1 (by simp)
        | outgrown=>obtain ⟨_,_,h3,_⟩:=he;exact absurd h3 (by simp)⟩
      | _=>exact h2.elim
     | halt x w1 =>
      cases x with
      | panic v=>exact absurd h2.1 (by simp)
      | _=>exact h2.elim
    ·rename_i hw
     rw [aL hw] at hs'
     exact ⟨fun _ _=>trivial,hmono _ _ _ hs'.2⟩
 refine wpIn_region_any hm (key _ _ (fun _=>false) a w.drew (by simp) (fun i hi=>by simp [hi]) ?_ (fun _ _ h=>by cases h) (fun _ _=>rfl) h0)
 simp
end
def full (N:Nat) (a:Act):List (Nat × aj):=(List.range N).map fun t=>(t,a.tmps.getD t undef)
theorem BR (T qk:List (Nat × aj)) (t:Nat):lk (T++qk) t=match lk T t with|some v=>some v|none=>lk qk t:=by
 induction T with
 | nil=>rfl
 | cons p T ih =>
  obtain ⟨s,v⟩:=p
  by_cases e:s=t
  ·subst e;rw [lJ,nW,nW]
  ·rw [lJ,mM e,mM e,ih]
theorem Sw (f:Nat->aj):∀ (L:List Nat) (t:Nat),t∈L->lk (L.map fun t=>(t,f t)) t=some (f t)
 | [],_,h=>by cases h
 | s :: L,t,h=>by
  simp only [gV]
  by_cases e:s=t
  ·subst e;rw [nW]
  ·rw [mM e]
   exact Sw f L t ((mq.1 h).resolve_left (Ne.symm e))
theorem BS {N t:Nat} (a:Act) (h:t < N):lk (full N a) t=some (a.tmps.getD t undef):=Sw (fun t=>a.tmps.getD t undef) _ t (nQ.2 h)
section
variable {N:Nat} {D:List Deferred} {w0:World} {F:Nat->Prop} {G0 G G1 G2:GH} {L L1 L2:OL} {T Xs:List (Nat × aj)}
variable {r:Option Nat} {P:Program} {Q:Exit->Act->World->Prop} {l:List Oper} {a a':Act} {w w':World}
theorem St.full (H:St N D w0 F G0 G L T a w):St N D w0 F G0 G L (T++full N a) a w:=by
 refine ⟨H.iD,fun t v ht=>?_,H.kK,H.hp⟩
 rw [BR] at ht
 cases hT:lk T t with
 | some u=>rw [hT] at ht;simp only [jL] at ht;subst ht;exact H.get t u hT
 | none =>
  rw [hT] at ht
  by_cases hlt:t < N
  ·rw [BS a hlt] at ht
   simp only [jL] at ht
   have h2:t < a.tmps.size:=by rw [H.iD];exact hlt
   rw [<- ht,Array.getD_eq_getD_getElem?,Array.getElem?_eq_getElem h2]
   rfl
  ·exfalso
   have:∀ (L:List Nat),t∉L->lk (L.map fun t=>(t,a.tmps.getD t undef)) t=none:=by
    intro L
    induction L with
    | nil=>intro _;rfl
    | cons s L ih=>intro h;simp only [gV];rw [mM (fun e=>h (by simp [e])),ih (fun h'=>h (by simp [h']))]
   rw [show lk (Proofs.YtomebajfpcjoeaaDoor.full N a) t=none from this _ (by simp;omega)] at ht
   cases ht
theorem St.dD (H:St N D w0 F G0 G L T a w) {t:Nat} {v:aj} (h:a.tmps[t]?=some v):St N D w0 F G0 G L ((t,v) :: T) a w :=
 ⟨H.iD,fun s u hs=>by
  by_cases e:t=s
  ·subst e;rw [nW] at hs;simp only [jL] at hs;subst hs;exact h
  ·rw [mM e] at hs;exact H.get s u hs,H.kK,H.hp⟩
def DX (N:Nat) (D:List Deferred) (w0:World) (F:Nat->Prop) (G0 G:GH) (L:OL) (T:List (Nat × aj)) (l:List Oper) (pr:Nat->aj->GH->Prop) (S:Nat->Bool) (a:Act) (w:World):Prop :=
 ∃ G1,(∀ k o,G k=some o->G1 k=some o)∧St N D w0 F G0 G1 L T a w∧∀ i d,S i=true->cZ l i=some d->∃ v,a.tmps[d]?=some v∧pr i v G1
def kC (l:List Oper) (T:List (Nat × aj)) (i:Nat):Bool :=
 match cZ l i with|none=>true|some d=>(lk T d).isNone && (List.range l.length).all fun j=>bif Nat.beq i j then true else !(cZ l j == some d)
def Yb (l:List Oper) (T:List (Nat × aj)):Bool :=
 (List.range l.length).all (kC l T)
theorem iN {pr:Nat->aj->GH->Prop} {S:Nat->Bool} {i d:Nat} {v:aj} (hok:kC l T i=true) (gQ:∀ i v (G G':GH),(∀ k o,G k=some o->G' k=some o)->pr i v G->pr i v G') (hi:cZ l i=some d) (hdl:Nat.blt i l.length=true)
  (HT:St N D w0 F G0 G1 L T a w) (Hb:St N D w0 F G0 G1 L (Xs++full N a) a w) (hG:∀ k o,G k=some o->G1 k=some o) (hv:∀ i d,S i=true->cZ l i=some d->∃ v,a.tmps[d]?=some v∧pr i v G1)
  (hG2:∀ k o,G1 k=some o->G2 k=some o) (hp:pr i v G2) (H:St N D w0 F G0 G2 L ((d,v) :: (Xs++full N a)) a' w'):DX N D w0 F G0 G L T l pr (dM S i) a' w':=by
 have hil:i < l.length:=Eq.mp Nat.blt_eq hdl
 have hok1:=hok
 rw [kC,hi] at hok1
 simp only [gq,Option.isNone_iff_eq_none,fM,nQ] at hok1
 have hsame:∀ t,t≠d->a'.tmps[t]?=a.tmps[t]?:=by
  intro t ht
  by_cases hlt:t < N
  ·have h1:∃ u,lk (Xs++full N a) t=some u:=by
    rw [BR]
    cases lk Xs t with
    | some u=>exact ⟨u,O⟩
    | none=>exact ⟨_,BS a hlt⟩
   obtain ⟨u,hu⟩:=h1
   rw [Hb.get t u hu,H.get t u (by rw [mM (Ne.symm ht)];exact hu)]
  ·rw [Array.getElem?_eq_none (by rw [H.iD];omega),Array.getElem?_eq_none (by rw [Hb.iD];omega)]
 refine ⟨G2,fun k o hk=>hG2 k o (hG k o hk),⟨H.iD,fun t u ht=>?_,H.kK,H.hp⟩,fun j e hj he=>?_⟩
 ·rw [hsame t (fun e=>by rw [e,hok1.1] at ht;cases ht)]
  exact HT.get t u ht
 ·by_cases hji:j=i
  ·subst hji
   rw [hi] at he
   simp only [jL] at he
   subst he
   exact ⟨v,H.get d v (nW _ _ _),hp⟩
  ·have hSj:S j=true:=by unfold dM at hj;rwa [aL hji] at hj
   obtain ⟨u,hu1,hu2⟩:=hv j e hSj he
   have hjl:j < l.length:=by
    unfold cZ at he
    by_cases hl:j < l.length
    ·exact hl
    ·rw [List.getElem?_eq_none V] at he;cases he
   have hne:e≠d:=by
    intro e'
    subst e'
    have h2:=hok1.2 j hjl
    have hb:Nat.beq i j=false:=by
     cases h:Nat.beq i j with
     | false=>rfl
     | true=>exact absurd (qY h).symm hji
    rw [hb,he] at h2
    simp at h2
   exact ⟨u,by rw [hsame e hne];exact hu1,gQ j u _ _ hG2 hu2⟩
def rX (l:List Oper) (aW:List (List Nat)) (B:List Nat):Bool :=
 (List.range B.length).all (fun p=>match B[p]? with|none=>false|some b=>Nat.blt b l.length && (List.range l.length).all fun i=>B.contains i && !(B.take p).contains i || (aW.getD b []).contains i) &&
 (List.range l.length).all fun i=>B.contains i || (aW.getD i []).all fun j=>!B.contains j
def lC (l:List Oper):List Nat->List Oper
 | []=>[]
 | b :: B=>match l[b]? with|some o=>o :: lC l B|none=>lC l B
theorem oq {ops:Array Oper} {Q':Exit->Act->World->Prop} (hq:∀ e a w,Q e a w->Q' e a w):∀ {L:List Oper} {a:Act} {w:World},WL r P ops Q L a w->WL r P ops Q' L a w
 | [],a,w,h=>hq _ _ _ h
 | o :: L,a,w,h=>by
  have h':wpListIn (FW r) 0 P ops Q (o :: L) a w:=h
  show wpListIn (FW r) 0 P ops Q' (o :: L) a w
  unfold wpListIn at h' |-
  split
  ·rename_i hw
   rw [aM hw] at h'
   refine ⟨h'.1,?_⟩
   have h2:=h'.2
   generalize (o.semAt (FW r).round a.eval).run P w=res at h2 |-
   cases res with
   | ok x w1 =>
    cases x with
    | value v=>exact oq hq h2
    | skip=>exact oq hq h2
    | defer d=>exact oq hq h2
    | enter f args=>exact ⟨h2.1,h2.2.mono fun e w2 he=>by
      cases e with
      | returned v=>exact oq hq he
      | panicked ch=>exact hq _ _ _ he
      | outgrown=>obtain ⟨x,y,h3⟩:=he;exact ⟨x,y,hq _ _ _ h3⟩⟩
    | row JZ args=>exact ⟨h2.1,h2.2.mono fun v w2 he=>oq hq he⟩
    | round l f t FU b=>exact ⟨h2.1,h2.2.mono fun e w2 he=>by
      cases e with
      | returned v=>exact oq hq he
      | panicked ch=>exact hq _ _ _ he
      | outgrown=>obtain ⟨x,y,h3⟩:=he;exact ⟨x,y,hq _ _ _ h3⟩⟩
    | _=>exact h2.elim
   | halt x w1 =>
    cases x with
    | panic v=>exact hq _ _ _ h2
    | _=>exact h2.elim
  ·rename_i hw
   rw [aL hw] at h'
   exact ⟨h'.1,oq hq h'.2⟩
theorem Vl {ops:Array Oper} {o:Oper} {L:List Oper} {K:Act->World->Prop} (hK:∀ a w,WL r P ops (fun e a w=>e=.normal∧Q .normal a w) L a w->K a w) (h:WL r P ops (fun e a w=>e=.normal∧Q .normal a w) (o :: L) a w):WL r P ops (fun e a' w'=>e=.normal∧K a' w') [o] a w:=by
 have h':wpListIn (FW r) 0 P ops (fun e a w=>e=.normal∧Q .normal a w) (o :: L) a w:=h
 show wpListIn (FW r) 0 P ops _ [o] a w
 unfold wpListIn at h' |-
 split
 ·rename_i hw
  rw [aM hw] at h'
  refine ⟨h'.1,?_⟩
  have h2:=h'.2
  generalize (o.semAt (FW r).round a.eval).run P w=res at h2 |-
  cases res with
  | ok x w1 =>
   cases x with
   | value v=>exact ⟨O,hK _ _ h2⟩
   | skip=>exact ⟨O,hK _ _ h2⟩
   | defer d=>exact ⟨O,hK _ _ h2⟩
   | enter f args=>exact ⟨h2.1,h2.2.mono fun e w2 he=>by
     cases e with
     | returned v=>exact ⟨O,hK _ _ he⟩
     | panicked ch=>exact absurd he.1 (by simp)
     | outgrown=>obtain ⟨_,_,h3,_⟩:=he;exact absurd h3 (by simp)⟩
   | row JZ args=>exact ⟨h2.1,h2.2.mono fun v w2 he=>⟨O,hK _ _ he⟩⟩
   | round l f t FU b=>exact ⟨h2.1,h2.2.mono fun e w2 he=>by
     cases e with
     | returned v=>exact ⟨O,hK _ _ he⟩
     | panicked ch=>exact absurd he.1 (by simp)
     | outgrown=>obtain ⟨_,_,h3,_⟩:=he;exact absurd h3 (by simp)⟩
   | _=>exact h2.elim
  | halt x w1 =>
   cases x with
   | panic v=>exact absurd h2.1 (by simp)
   | _=>exact h2.elim
 ·rename_i hw
  rw [aL hw] at h'
  exact ⟨h'.1,O,hK _ _ h'.2⟩
theorem Xf {id:Nat} (hm:P.follows .mixedOrders=true) (aW:List (List Nat)) (B:List Nat) (hk:rG l aW=true) (hB:rX l aW B=true) (pr:Nat->aj->GH->Prop) (gQ:∀ i v (G G':GH),(∀ k o,G k=some o->G' k=some o)->pr i v G->pr i v G')
  (H:St N D w0 F G0 G L T a w)
  (hstep:∀ i o S a w G1,l[i]?=some o->B.contains i=false->S i=false->(∀ j∈aW.getD i [],S j=true)->(∀ k o,G k=some o->G1 k=some o)->St N D w0 F G0 G1 L T a w->(∀ i d,S i=true->cZ l i=some d->∃ v,a.tmps[d]?=some v∧pr i v G1) ->
   WL r P l.toArray (fun e a' w'=>e=.normal∧DX N D w0 F G0 G L T l pr (dM S i) a' w') [o] a w)
  (hend:∀ a w G1,(∀ k o,G k=some o->G1 k=some o)->St N D w0 F G0 G1 L T a w->(∀ i d,B.contains i=false->cZ l i=some d->∃ v,a.tmps[d]?=some v∧pr i v G1)->WL r P l.toArray (fun e a w=>e=.normal∧Q .normal a w) (lC l B) a w):WP r P (.region id l.toArray true) Q a w:=by
 have hB1:∀ p b,B[p]?=some b->b < l.length∧∀ i,i < l.length->(B.contains i=false∨(B.take p).contains i=true)->i∈aW.getD b []:=by
  intro p b hp
  simp only [rX,gq] at hB
  have h1:=fM.1 hB.1 p (nQ.2 (fV.1 hp).1)
  rw [hp] at h1
  simp only [gq,fM,nQ] at h1
  refine ⟨Eq.mp Nat.blt_eq h1.1,fun i hi hor=>?_⟩
  have h2:=h1.2 i hi
  rcases hor with h3|h3
  ·have h4:i∉B:=by simpa using h3
   simpa [h4] using h2
  ·have h4:i∈B.take p:=by simpa using h3
   simpa [h4] using h2
 have hB2:∀ i,i < l.length->B.contains i=false->∀ j∈aW.getD i [],B.contains j=false:=by
  intro i hi hb j hj
  simp only [rX,gq] at hB
  have h1:=fM.1 hB.2 i (nQ.2 hi)
  rw [hb] at h1
  simp only [Bool.false_or,fM] at h1
  simpa using h1 j hj
 refine Dx hm aW hk (fun S a w=>((∀ i,B.contains i=true->S i=false)∧DX N D w0 F G0 G L T l pr S a w) ∨
   ∃ p,(∀ i,i < l.length->B.contains i=false->S i=true)∧(∀ i,(B.take p).contains i=true->S i=true)∧(∀ q b,B[q]?=some b->p<=q->S b=false)∧WL r P l.toArray (fun e a w=>e=.normal∧Q .normal a w) (lC l (B.drop p)) a w)
  (.inl ⟨fun _ _=>rfl,G,fun _ _ h=>h,H.move H.hp.drew,fun _ _ h=>by cases h⟩) ?_ ?_
 ·intro i o S a w ho hX ah kM hdesc
  have hil:i < l.length:=(fV.1 ho).1
  by_cases hbi:B.contains i=true
  ·-- an operation of the tail: all that stands ahead of it is done
   obtain ⟨p0,hp0⟩:=List.getElem?_of_mem (by simpa using hbi:i∈B)
   have hall:∀ j,j < l.length->B.contains j=false->S j=true:=fun j hj hb=>kM j ((hB1 p0 i hp0).2 j hj (.inl hb))
   have Jj:∃ p,(∀ i,(B.take p).contains i=true->S i=true)∧(∀ q b,B[q]?=some b->p<=q->S b=false)∧WL r P l.toArray (fun e a w=>e=.normal∧Q .normal a w) (lC l (B.drop p)) a w:=by
    rcases hX with ⟨h1,G1,hG,HS,hv⟩|⟨p,_,h2,h3,h4⟩
    ·refine ⟨0,by simp,fun q b hq _=>h1 b (by simpa using iU hq),?_⟩
     refine hend a w G1 hG HS fun j e hb he=>?_
     have hjl:j < l.length:=by
      unfold cZ at he
      by_cases hl:j < l.length
      ·exact hl
      ·rw [List.getElem?_eq_none V] at he;cases he
     exact hv j e (hall j hjl hb) he
    ·exact ⟨p,h2,h3,h4⟩
   obtain ⟨p,h2,h3,h4⟩:=Jj
   -- i is the next one
   have hpp:p<=p0:=by
    rcases Nat.lt_or_ge p0 p with hlt|hge
    ·have:(B.take p).contains i=true:=by
      simp only [pq]
      exact iU (i:=p0) (by rw [oZ,aM hlt];exact hp0)
     rw [h2 i this] at ah;cases ah
    ·exact hge
   have wG:p < B.length:=by have:=(fV.1 hp0).1;omega
   have hbp:B[p]?=some B[p]:=gU wG
   have heq:B[p]=i:=by
    rcases Nat.lt_or_ge p p0 with hlt|hge
    ·exfalso
     have hin:B[p]∈aW.getD i []:=(hB1 p0 i hp0).2 _ (hB1 p _ hbp).1 (.inr (by
      simp only [pq]
      exact iU (i:=p) (by rw [oZ,aM hlt];exact hbp)))
     have:=kM _ hin
     rw [h3 p _ hbp (aV _)] at this;cases this
    ·have:p=p0:=by omega
     subst this
     rw [hbp] at hp0;simpa using hp0
   have hdrop:B.drop p=i :: B.drop (p+1):=by rw [List.drop_eq_getElem_cons wG,heq]
   have hops:lC l (B.drop p)=o :: lC l (B.drop (p+1)):=by rw [hdrop];simp [lC,ho]
   rw [hops] at h4
   refine Vl (fun a' w' h5=>.inr ⟨p+1,fun j hj hb=>?_,fun j hj=>?_,fun q b hq hpq=>?_,h5⟩) h4
   ·unfold dM;split
    ·rfl
    ·exact hall j hj hb
   ·unfold dM;split
    ·rfl
    ·rename_i hne
     refine h2 j ?_
     simp only [pq] at hj |-
     rw [kg wG,sI] at hj
     rcases hj with hj|hj
     ·exact hj
     ·simp only [sJ] at hj;exact absurd (hj.trans heq) hne
   ·unfold dM
    rw [aL ?_]
    ·exact h3 q b hq V
    ·rintro rfl
     -- i would stand twice in B: it would come ahead of itself
     have h6:=(hB1 q b hq).2 b (hB1 q b hq).1 (.inr (by
      simp only [pq]
      exact iU (i:=p) (by rw [oZ,aM V];rw [hbp,heq])))
     rw [kM _ h6] at ah;cases ah
  ·have wu:B.contains i=false:=by cases h:B.contains i with|false=>rfl|true=>exact absurd h hbi
   rcases hX with ⟨h1,G1,hG,HS,hv⟩|⟨p,h0,_,_,_⟩
   ·refine oq (fun e a' w' ⟨he,hD⟩=>⟨he,.inl ⟨fun j hj=>?_,hD⟩⟩) (hstep i o S a w G1 ho wu ah kM hG HS hv)
    unfold dM
    rw [aL (by rintro rfl;rw [wu] at hj;cases hj)]
    exact h1 j hj
   ·rw [h0 i hil wu] at ah;cases ah
 ·intro S a w hall hX
  rcases hX with ⟨h1,G1,hG,HS,hv⟩|⟨p,_,_,h3,h4⟩
  ·have hnil:B=[]:=by
    cases B with
    | nil=>rfl
    | cons b B=>have h5:=h1 b (by simp);rw [hall b (hB1 0 b O).1] at h5;cases h5
   subst hnil
   have h6:=hend a w G1 hG HS fun j e _ he=>by
    have hjl:j < l.length:=by
     unfold cZ at he
     by_cases hl:j < l.length
     ·exact hl
     ·rw [List.getElem?_eq_none V] at he;cases he
    exact hv j e (hall j hjl) he
   exact h6.2
  ·have hnil:B.drop p=[]:=by
    cases hd:B.drop p with
    | nil=>rfl
    | cons b B' =>
     have hb:B[p]?=some b:=by
      have:=ko (fun x:List Nat=>x[0]?) hd
      simpa using this
     have h5:=h3 p b hb (aV _)
     rw [hall b (hB1 p b hb).1] at h5;cases h5
   rw [hnil] at h4
   exact h4.2
def allI (φ:Nat->Oper->Prop):Nat->List Oper->Prop
 | _,[]=>True
 | i,o :: r=>φ i o∧allI φ (i+1) r
theorem fB {φ:Nat->Oper->Prop} {i:Nat}:allI φ i []:=trivial
theorem gN {φ:Nat->Oper->Prop} {i:Nat} {o:Oper} {r:List Oper} (h:φ i o) (t:allI φ (i+1) r):allI φ i (o :: r):=⟨h,t⟩
theorem vM {φ:Nat->Oper->Prop}:∀ {l:List Oper} {s:Nat},allI φ s l->∀ i o,l[i]?=some o->φ (s+i) o
 | [],s,_,i,o,h=>by simp at h
 | x :: l,s,h,0,o,ho=>by simp at ho;subst ho;exact h.1
 | x :: l,s,h,i+1,o,ho=>by
  have:=vM h.2 i o (by simpa using ho)
  rwa [show s+1+i=s+(i+1) by omega] at this
theorem AL {id:Nat} (hm:P.follows .mixedOrders=true) (aW:List (List Nat)) (B:List Nat) (hk:rG l aW=true) (hB:rX l aW B=true) (pr:Nat->aj->GH->Prop) (gQ:∀ i v (G G':GH),(∀ k o,G k=some o->G' k=some o)->pr i v G->pr i v G')
  (H:St N D w0 F G0 G L T a w)
  (hstep:allI (fun i o=>∀ S a w G1,B.contains i=false->S i=false->(∀ j∈aW.getD i [],S j=true)->(∀ k o,G k=some o->G1 k=some o)->St N D w0 F G0 G1 L T a w->(∀ i d,S i=true->cZ l i=some d->∃ v,a.tmps[d]?=some v∧pr i v G1) ->
   WL r P l.toArray (fun e a' w'=>e=.normal∧DX N D w0 F G0 G L T l pr (dM S i) a' w') [o] a w) 0 l)
  (hend:∀ a w G1,(∀ k o,G k=some o->G1 k=some o)->St N D w0 F G0 G1 L T a w->(∀ i d,B.contains i=false->cZ l i=some d->∃ v,a.tmps[d]?=some v∧pr i v G1)->WL r P l.toArray (fun e a w=>e=.normal∧Q .normal a w) (lC l B) a w):WP r P (.region id l.toArray true) Q a w :=
 Xf hm aW B hk hB pr gQ H (fun i o S a w G1 ho hb hs hc hg HS hv=>by
  have:=vM hstep i o ho
  rw [eP] at this
  exact this S a w G1 hb hs hc hg HS hv) hend
theorem aen {pr:Nat->aj->GH->Prop} {i d j t:Nat} {op:Op} {ty:TypeId} {pos:String} {aC:Array Edge} {want b:Bool} {aW:List (List Nat)} {B:List Nat} (hok:kC l T i=true) (gQ:∀ i v (G G':GH),(∀ k o,G k=some o->G' k=some o)->pr i v G->pr i v G')
  (hi:cZ l i=some d) (hdl:Nat.blt i l.length=true) (hjd:cZ l j=some t) (hjc:(aW.getD i []).contains j=true) (hd:Nat.blt d N=true) (hb:∀ v G,pr j v G->v=.bool b) (hbw:b=!want) (hu:∀ G,pr i undef G) :
  ∀ S a w G1,B.contains i=false->S i=false->(∀ j∈aW.getD i [],S j=true)->(∀ k o,G k=some o->G1 k=some o)->St N D w0 F G0 G1 L T a w->(∀ i d,S i=true->cZ l i=some d->∃ v,a.tmps[d]?=some v∧pr i v G1) ->
   WL r P l.toArray (fun e a' w'=>e=.normal∧DX N D w0 F G0 G L T l pr (dM S i) a' w') [⟨some d,op,ty,pos,aC,some (j,want)⟩] a w:=by
 intro S a w G1 _ _ hc hG HT hv
 obtain ⟨u,hu1,hu2⟩:=hv j t (hc j (pq.1 hjc)) hjd
 obtain rfl:=hb _ _ hu2
 have H:=(HT.dD hu1).full
 refine T9 H (by unfold cZ at hjd;simpa using hjd) (show lk ((t,Value.bool b) :: (T++full N a)) t=_ by simp [lk]) hbw hd ?_
 intro a' H'
 refine aB ⟨O,?_⟩
 exact iN (Xs:=(t,.bool b) :: T) hok gQ hi hdl HT H hG hv (fun _ _ h=>h) (hu G1) H'
def FT (pr:Nat->aj->GH->Prop):List (Nat × Nat × aj)->Prop
 | []=>True
 | (j,_,u) :: r=>(∀ v G,pr j v G->v=u)∧FT pr r
def rW (us:List (Nat × Nat × aj)) (T:List (Nat × aj)):List (Nat × aj):=us.foldl (fun T x=>(x.2.1,x.2.2) :: T) T
theorem LW {pr:Nat->aj->GH->Prop} {S:Nat->Bool} {ds:List Nat}:∀ {us:List (Nat × Nat × aj)} {T:List (Nat × aj)},us.all (fun x=>ds.contains x.1 && (cZ l x.1 == some x.2.1))=true->FT pr us->(∀ j∈ds,S j=true)->(∀ i d,S i=true->cZ l i=some d->∃ v,a.tmps[d]?=some v∧pr i v G1)->St N D w0 F G0 G1 L T a w->St N D w0 F G0 G1 L (rW us T) a w
 | [],_,_,_,_,_,H=>H
 | (j,t,u) :: r,T,h,hu,hc,hv,H=>by
  simp only [List.all_cons,gq,beq_iff_eq] at h
  obtain ⟨v,hv1,hv2⟩:=hv j t (hc j (pq.1 h.1.1)) h.1.2
  obtain rfl:=hu.1 v _ hv2
  exact LW (us:=r) h.2 hu.2 hc hv (H.dD hv1)
theorem EA {pr:Nat->aj->GH->Prop} {i d:Nat} {o:Oper} {aW:List (List Nat)} {B:List Nat} (us:List (Nat × Nat × aj)) (hus:us.all (fun x=>(aW.getD i []).contains x.1 && (cZ l x.1 == some x.2.1))=true) (hu:FT pr us) (hok:kC l T i=true) (gQ:∀ i v (G G':GH),(∀ k o,G k=some o->G' k=some o)->pr i v G->pr i v G')
  (hi:cZ l i=some d) (hdl:Nat.blt i l.length=true)
  (k:∀ S a w G1,(∀ k o,G k=some o->G1 k=some o)->St N D w0 F G0 G1 L T a w->St N D w0 F G0 G1 L (rW us T++full N a) a w ->
   (∀ {a' w' G2 v},St N D w0 F G0 G2 L ((d,v) :: (rW us T++full N a)) a' w'->(∀ k o,G1 k=some o->G2 k=some o)->pr i v G2->WL r P l.toArray (fun e a' w'=>e=.normal∧DX N D w0 F G0 G L T l pr (dM S i) a' w') [] a' w')->WL r P l.toArray (fun e a' w'=>e=.normal∧DX N D w0 F G0 G L T l pr (dM S i) a' w') [o] a w) :
  ∀ S a w G1,B.contains i=false->S i=false->(∀ j∈aW.getD i [],S j=true)->(∀ k o,G k=some o->G1 k=some o)->St N D w0 F G0 G1 L T a w->(∀ i d,S i=true->cZ l i=some d->∃ v,a.tmps[d]?=some v∧pr i v G1) ->
   WL r P l.toArray (fun e a' w'=>e=.normal∧DX N D w0 F G0 G L T l pr (dM S i) a' w') [o] a w:=by
 intro S a w G1 _ _ hc hG HT hv
 have H:=LW hus hu hc hv HT
 exact k S a w G1 hG HT H.full fun H' hG2 hp=>aB ⟨O,iN (Xs:=rW us T) hok gQ hi hdl HT H.full hG hv hG2 hp H'⟩
end
end
section
section
variable {N:Nat} {D:List Deferred} {w0:World} {F:Nat->Prop} {G0 G:GH} {L:List (Nat × Obj)} {T:List (Nat × aj)}
variable {r:Option Nat} {P:Program} {ops:Array Oper} {Q:Exit->Act->World->Prop} {rest:List Oper} {w:World}
variable {d:Nat} {ty:TypeId} {pos:String} {aC:Array Edge}
theorem kH {a:Act} {l:List Oper} (H:St N D w0 F G0 G L T a w) (k:∀ a,St N D w0 F G0 G L T a w->WL r P ops Q l a w):WL r P ops Q l a w:=k a H
theorem Rm {x:Operand} {v:aj} (h:(ev T x,Nat.blt d N)=(some v,true)) (k:∀ a',St N D w0 F G0 G L ((d,v) :: T) a' w->WL r P ops Q rest a' w) :
  ∀ a,St N D w0 F G0 G L T a w->WL r P ops Q (⟨some d,.move x,ty,pos,aC,none⟩ :: rest) a w:=fun _ H=>by
 simp only [dX] at h
 exact zI H wn h.1 h.2 k
theorem Ra {x:Operand} {v:aj} (h:(ev T x,Nat.blt d N)=(some v,true)) (k:∀ a',St N D w0 F G0 G L ((d,v) :: T) a' w->WL r P ops Q rest a' w) :
  ∀ a,St N D w0 F G0 G L T a w->WL r P ops Q (⟨some d,.assign x,ty,pos,aC,none⟩ :: rest) a w:=fun _ H=>by
 simp only [dX] at h
 exact adB H wn h.1 h.2 k
theorem Rc {op:BinOp} {x y:Operand} {t yt:TypeId} {kd:IntKind} {p q:Int} {b:Bool} (h:(ev T x,ev T y,AU op p q,Nat.blt d N)=(some (.int kd p),some (.int kd q),some b,true)) (k:∀ a',St N D w0 F G0 G L ((d,.bool b) :: T) a' w->WL r P ops Q rest a' w) :
  ∀ a,St N D w0 F G0 G L T a w->WL r P ops Q (⟨some d,.binOp op t x y yt,ty,pos,aC,none⟩ :: rest) a w:=fun _ H=>by
 simp only [dX] at h
 exact J4 H wn h.1 h.2.1 h.2.2.1 h.2.2.2 k
theorem Rf {s:TypeId} {x:Operand} {n b o off:Nat} (hs:fu P s n off) (h:(ev T x,Nat.blt d N)=(some (.pointer (some ⟨b,o,none⟩)),true)) (k:∀ a',St N D w0 F G0 G L ((d,.pointer (some ⟨b,o+off,none⟩)) :: T) a' w->WL r P ops Q rest a' w) :
  ∀ a,St N D w0 F G0 G L T a w->WL r P ops Q (⟨some d,.fieldAddr s x n,ty,pos,aC,none⟩ :: rest) a w:=fun _ H=>by
 simp only [dX] at h
 exact EM hs H wn h.1 h.2 k
theorem Rn {x:Operand} {t:TypeId} {b:Bool} (h:(ev T x,Nat.blt d N)=(some (.bool b),true)) (k:∀ a',St N D w0 F G0 G L ((d,.bool (!b)) :: T) a' w->WL r P ops Q rest a' w) :
  ∀ a,St N D w0 F G0 G L T a w->WL r P ops Q (⟨some d,.unOp .not t x,ty,pos,aC,none⟩ :: rest) a w:=fun _ H=>by
 simp only [dX] at h
 exact EP H wn h.1 h.2 k
theorem Rk {x:Operand} {p:Addr} (h:(ev T x,Nat.blt d N)=(some (.pointer (some p)),true)) (k:∀ a',St N D w0 F G0 G L ((d,.pointer (some p)) :: T) a' w->WL r P ops Q rest a' w) :
  ∀ a,St N D w0 F G0 G L T a w->WL r P ops Q (⟨some d,.nilCheck x,ty,pos,aC,none⟩ :: rest) a w:=fun _ H=>by
 simp only [dX] at h
 exact wW H wn h.1 h.2 k
theorem Rl {x:Operand} {t e:TypeId} {A:Option Addr} {n c:Nat} (hs:P.underlying t=some (.slice e)) (h:(ev T x,Nat.blt d N)=(some (.slice A n c),true)) (k:∀ a',St N D w0 F G0 G L ((d,.int .i64 n) :: T) a' w->WL r P ops Q rest a' w) :
  ∀ a,St N D w0 F G0 G L T a w->WL r P ops Q (⟨some d,.call { callee:=.builtin .len,args:=#[x],argTypes:=#[t] },ty,pos,aC,none⟩ :: rest) a w:=fun _ H=>by
 simp only [dX] at h
 exact zH hs H wn h.1 h.2 k
theorem Ro {t:TypeId} {sz bytes:Nat} {zero:List aj} (ht:Ty P t sz bytes zero false) (i:Nat) {x:Operand} {b o:Nat} {v:aj} {c:Array aj} {e:TypeId} {fz:Nat × Nat} (h:(ev T x,L[i]?,Nat.blt d N,c[o]?)=(some (.pointer (some ⟨b,o,none⟩)),some (b,.cells c e fz),true,some v))
  (k:∀ a',St N D w0 F G0 G L ((d,v) :: T) a' w->WL r P ops Q rest a' w) :
  ∀ a,St N D w0 F G0 G L T a w->WL r P ops Q (⟨some d,.load t x,ty,pos,aC,none⟩ :: rest) a w:=fun _ H=>by
 simp only [dX] at h
 exact iF ht H wn h.1 (H.hp.jh i h.2.1 h.2.2.2) h.2.2.1 k
theorem fJ {d':Nat} {ty':TypeId} {pos':String} {VZ:Array Edge} {s:TypeId} {x:Operand} {n b o off:Nat} (hs:fu P s n off) {t:TypeId} {sz bytes:Nat} {zero:List aj} (ht:Ty P t sz bytes zero false) (i:Nat) {v:aj} {c:Array aj} {e:TypeId} {fz:Nat × Nat}
  (h:(ev T x,Nat.blt d N)=(some (.pointer (some ⟨b,o,none⟩)),true)) (h':(L[i]?,Nat.blt d' N,c[o+off]?)=(some (b,.cells c e fz),true,some v))
  (k:∀ a',St N D w0 F G0 G L ((d',v) :: (d,.pointer (some ⟨b,o+off,none⟩)) :: T) a' w->WL r P ops Q rest a' w) :
  ∀ a,St N D w0 F G0 G L T a w->WL r P ops Q (⟨some d,.fieldAddr s x n,ty,pos,aC,none⟩ :: ⟨some d',.load t (.tmp d),ty',pos',VZ,none⟩ :: rest) a w :=
 Rf hs h (Ro ht i (by simp only [dX] at h' |-;exact ⟨nW ..,h'.1,h'.2.1,h'.2.2⟩) k)
theorem lv {a:Act} {fn:Func} {t:Nat} {v:aj} {R:Ending->World->Prop} (H:St N [] w0 F G0 G L T a w) (hr:fn.results=#[.tmp t]) (h:lk T t=some v) (hR:R (.returned v) w):bodyPostM (FW none) 0 P fn R .ret a w :=
 (leave1 H (rs:=[.tmp t]) hr (.cons (aJ H h) .nil) hR).1
theorem St.rt {a:Act} {R:aj->GH->Prop} {v:aj} (H:St N D w0 (fun k=>k < w0.heap.size) G0 G L T a w) (hR:R v G):bK w0 G0 R (.returned v) w:=H.hp.ret hR
theorem St.ro {a:Act} (H:St N D w0 F G0 G L T a w):∀ k o,G k=some o->w.heap[k]?=some o:=H.hp.ro
theorem iJ {H:GH}:∀ k o,H k=some o->H k=some o:=fun _ _ h=>h
end
theorem eN {N:Nat} {w:World} {G:GH} {P:Program} (T:List (Nat × aj)) {f:FuncId} {fn:Func} {c:Code} {vs:List aj} {R:Ending->World->Prop} (hf:P.funcs[f]?=some fn) (hb:fn.body=some c) (hN:fn.ntmps=N) (hle:Nat.ble vs.length N=true)
  (hT:vN 0 vs=T) (hG:Hold G w) (h:∀ a,St N [] w (fun k=>k < w.heap.size) G G [] T a w->WP none P c (bodyPostM (FW none) 0 P fn R) a w):Calls P f vs.toArray w R :=
 enter hf hb hN hle hT hG (fun _ h=>h) (fun _ h=>by cases h) (fun _ h=>by cases h) (fun _ h=>by cases h) List.Pairwise.nil h
def Tp:List aj->Nat->aj->Prop
 | [],_,_=>True
 | x :: _,0,v=>v=x
 | _ :: l,i+1,v=>Tp l i v
def JQ (vs:List aj) (i:Nat) (v:aj) (_:GH):Prop:=Tp vs i v
section
variable {N:Nat} {D:List Deferred} {w0:World} {F:Nat->Prop} {G0 G:GH} {L:OL} {T:List (Nat × aj)}
variable {P:Program} {l:List Oper} {r:Option Nat}
abbrev Ae (N:Nat) (D:List Deferred) (w0:World) (F:Nat->Prop) (G0 G:GH) (L:OL) (T:List (Nat × aj)) (r:Option Nat) (P:Program) (l:List Oper) (pr:Nat->aj->GH->Prop) (i d:Nat) (o:Oper) (us:List (Nat × Nat × aj)):Prop :=
 ∀ S a w G1,(∀ k o,G k=some o->G1 k=some o)->St N D w0 F G0 G1 L T a w->St N D w0 F G0 G1 L (rW us T++full N a) a w ->
   (∀ {a' w' G2 v},St N D w0 F G0 G2 L ((d,v) :: (rW us T++full N a)) a' w'->(∀ k o,G1 k=some o->G2 k=some o)->pr i v G2->WL r P l.toArray (fun e a' w'=>e=.normal∧DX N D w0 F G0 G L T l pr (dM S i) a' w') [] a' w')->WL r P l.toArray (fun e a' w'=>e=.normal∧DX N D w0 F G0 G L T l pr (dM S i) a' w') [o] a w
abbrev ou (N:Nat) (D:List Deferred) (w0:World) (F:Nat->Prop) (G0 G:GH) (L:OL) (T:List (Nat × aj)) (r:Option Nat) (P:Program) (l:List Oper) (aW:List (List Nat)) (B:List Nat) (pr:Nat->aj->GH->Prop) (i:Nat) (o:Oper):Prop :=
 ∀ S a w G1,B.contains i=false->S i=false->(∀ j∈aW.getD i [],S j=true)->(∀ k o,G k=some o->G1 k=some o)->St N D w0 F G0 G1 L T a w->(∀ i d,S i=true->cZ l i=some d->∃ v,a.tmps[d]?=some v∧pr i v G1) ->
   WL r P l.toArray (fun e a' w'=>e=.normal∧DX N D w0 F G0 G L T l pr (dM S i) a' w') [o] a w
variable {pr:Nat->aj->GH->Prop} {i d:Nat} {o:Oper} {aW:List (List Nat)} {B:List Nat}
theorem VQ (h:(cZ l i,Nat.blt i l.length)=(some d,true)) (k:Ae N D w0 F G0 G L T r P l pr i d o [])
  (hok:kC l T i=true:=by kernel_rfl) (gQ:∀ i v (G G':GH),(∀ k o,G k=some o->G' k=some o)->pr i v G->pr i v G':=by exact fun _ _ _ _ _ h=>h):ou N D w0 F G0 G L T r P l aW B pr i o:=by
 simp only [dX] at h
 exact EA [] O trivial hok gQ h.1 h.2 k
theorem CK (j t:Nat) {x:aj} (h:(cZ l i,Nat.blt i l.length,[(j,t,x)].all (fun x=>(aW.getD i []).contains x.1 && (cZ l x.1 == some x.2.1)))=(some d,true,true)) (hu:pr j=fun v _=>v=x) (k:Ae N D w0 F G0 G L T r P l pr i d o [(j,t,x)])
  (hok:kC l T i=true:=by kernel_rfl) (gQ:∀ i v (G G':GH),(∀ k o,G k=some o->G' k=some o)->pr i v G->pr i v G':=by exact fun _ _ _ _ _ h=>h):ou N D w0 F G0 G L T r P l aW B pr i o:=by
 simp only [dX] at h
 exact EA _ h.2.2 ⟨fun v G h=>by rw [hu] at h;exact h,aH⟩ hok gQ h.1 h.2.1 k
theorem LU (j t j' t':Nat) {x x':aj} (h:(cZ l i,Nat.blt i l.length,[(j,t,x),(j',t',x')].all (fun x=>(aW.getD i []).contains x.1 && (cZ l x.1 == some x.2.1)))=(some d,true,true)) (hu:(pr j,pr j')=(fun v _=>v=x,fun v _=>v=x')) (k:Ae N D w0 F G0 G L T r P l pr i d o [(j,t,x),(j',t',x')])
  (hok:kC l T i=true:=by kernel_rfl) (gQ:∀ i v (G G':GH),(∀ k o,G k=some o->G' k=some o)->pr i v G->pr i v G':=by exact fun _ _ _ _ _ h=>h):ou N D w0 F G0 G L T r P l aW B pr i o:=by
 simp only [dX] at h hu
 exact EA _ h.2.2 ⟨fun v G h=>by rw [hu.1] at h;exact h,fun v G h=>by rw [hu.2] at h;exact h,aH⟩ hok gQ h.1 h.2.1 k
theorem VR (j t j' t' j2 t2:Nat) {x x' x2:aj} (h:(cZ l i,Nat.blt i l.length,[(j,t,x),(j',t',x'),(j2,t2,x2)].all (fun x=>(aW.getD i []).contains x.1 && (cZ l x.1 == some x.2.1)))=(some d,true,true)) (hu:(pr j,pr j',pr j2)=(fun v _=>v=x,fun v _=>v=x',fun v _=>v=x2)) (k:Ae N D w0 F G0 G L T r P l pr i d o [(j,t,x),(j',t',x'),(j2,t2,x2)])
  (hok:kC l T i=true:=by kernel_rfl) (gQ:∀ i v (G G':GH),(∀ k o,G k=some o->G' k=some o)->pr i v G->pr i v G':=by exact fun _ _ _ _ _ h=>h):ou N D w0 F G0 G L T r P l aW B pr i o:=by
 simp only [dX] at h hu
 exact EA _ h.2.2 ⟨fun v G h=>by rw [hu.1] at h;exact h,fun v G h=>by rw [hu.2.1] at h;exact h,fun v G h=>by rw [hu.2.2] at h;exact h,aH⟩ hok gQ h.1 h.2.1 k
theorem fq (j:Nat) {t:Nat} {op:Op} {ty:TypeId} {pos:String} {aC:Array Edge} {want b b':Bool} (he:b'=b) (h:(cZ l i,Nat.blt i l.length,cZ l j,(aW.getD i []).contains j,Nat.blt d N,b,b)=(some d,true,some t,true,true,!want,b)) (hv:pr j=fun v _=>v=.bool b')
  (hok:kC l T i=true:=by kernel_rfl) (gQ:∀ i v (G G':GH),(∀ k o,G k=some o->G' k=some o)->pr i v G->pr i v G':=by exact fun _ _ _ _ _ h=>h) (hu:∀ G,pr i undef G:=by exact fun _=>rfl):ou N D w0 F G0 G L T r P l aW B pr i ⟨some d,op,ty,pos,aC,some (j,want)⟩:=by
 simp only [dX] at h
 exact aen (b:=b) hok gQ h.1 h.2.1 h.2.2.1 h.2.2.2.1 h.2.2.2.2.1 (fun v G g=>by rw [hv] at g;rw [<- he];exact g) h.2.2.2.2.2.1 hu
theorem gB {X:(Nat->Bool)->Act->World->GH->Prop} {b:Bool} (h:b=true):∀ S a w G1,b=false->X S a w G1:=fun _ _ _ _ hB=>by rw [h] at hB;cases hB
theorem aF {φ:Nat->Oper->Prop} {i:Nat} {o1 o2 o3 o4:Oper} {r:List Oper} (h1:φ i o1) (h2:φ (i+1) o2) (h3:φ (i+1+1) o3) (h4:φ (i+1+1+1) o4) (t:allI φ (i+1+1+1+1) r):allI φ i (o1 :: o2 :: o3 :: o4 :: r):=⟨h1,h2,h3,h4,t⟩
end
section
variable {N:Nat} {D:List Deferred} {w0:World} {F:Nat->Prop} {G0 G:GH} {L:List (Nat × Obj)} {T:List (Nat × aj)}
variable {r:Option Nat} {P:Program} {ops:Array Oper} {Q:Exit->Act->World->Prop} {rest:List Oper} {w:World}
variable {d:Nat} {ty:TypeId} {pos:String} {aC:Array Edge} {j t:Nat} {want b:Bool}
theorem YM {x:Operand} {v:aj} (hb:b=want) (h:((ops[j]?).bind (·.dst),lk T t,ev T x,Nat.blt d N)=(some t,some (.bool b),some v,true)) (k:∀ a',St N D w0 F G0 G L ((d,v) :: T) a' w->WL r P ops Q rest a' w) :
  ∀ a,St N D w0 F G0 G L T a w->WL r P ops Q (⟨some d,.move x,ty,pos,aC,some (j,want)⟩ :: rest) a w:=fun _ H=>by
 simp only [dX] at h
 exact zI H (wg H h.1 h.2.1 hb) h.2.2.1 h.2.2.2 k
theorem YN {x:Operand} {y:TypeId} {v:Bool} (hb:b=want) (h:((ops[j]?).bind (·.dst),lk T t,ev T x,Nat.blt d N)=(some t,some (.bool b),some (.bool v),true)) (k:∀ a',St N D w0 F G0 G L ((d,.bool (!v)) :: T) a' w->WL r P ops Q rest a' w) :
  ∀ a,St N D w0 F G0 G L T a w->WL r P ops Q (⟨some d,.unOp .not y x,ty,pos,aC,some (j,want)⟩ :: rest) a w:=fun _ H=>by
 simp only [dX] at h
 exact EP H (wg H h.1 h.2.1 hb) h.2.2.1 h.2.2.2 k
theorem YC {op:BinOp} {x y:Operand} {u yt:TypeId} {kd:IntKind} {p q:Int} {c:Bool} (hb:b=want) (h:((ops[j]?).bind (·.dst),lk T t,ev T x,ev T y,AU op p q,Nat.blt d N)=(some t,some (.bool b),some (.int kd p),some (.int kd q),some c,true)) (k:∀ a',St N D w0 F G0 G L ((d,.bool c) :: T) a' w->WL r P ops Q rest a' w) :
  ∀ a,St N D w0 F G0 G L T a w->WL r P ops Q (⟨some d,.binOp op u x y yt,ty,pos,aC,some (j,want)⟩ :: rest) a w:=fun _ H=>by
 simp only [dX] at h
 exact J4 H (wg H h.1 h.2.1 hb) h.2.2.1 h.2.2.2.1 h.2.2.2.2.1 h.2.2.2.2.2 k
theorem YF {s:TypeId} {x:Operand} {n e o off:Nat} (hs:fu P s n off) (hb:b=want) (h:((ops[j]?).bind (·.dst),lk T t,ev T x,Nat.blt d N)=(some t,some (.bool b),some (.pointer (some ⟨e,o,none⟩)),true)) (k:∀ a',St N D w0 F G0 G L ((d,.pointer (some ⟨e,o+off,none⟩)) :: T) a' w->WL r P ops Q rest a' w) :
  ∀ a,St N D w0 F G0 G L T a w->WL r P ops Q (⟨some d,.fieldAddr s x n,ty,pos,aC,some (j,want)⟩ :: rest) a w:=fun _ H=>by
 simp only [dX] at h
 exact EM hs H (wg H h.1 h.2.1 hb) h.2.2.1 h.2.2.2 k
theorem YO {u:TypeId} {sz bytes:Nat} {zero:List aj} (ht:Ty P u sz bytes zero false) (i:Nat) {x:Operand} {e o:Nat} {v:aj} {c:Array aj} {y:TypeId} {fz:Nat × Nat} (hb:b=want) (h:((ops[j]?).bind (·.dst),lk T t,ev T x,L[i]?,Nat.blt d N,c[o]?)=(some t,some (.bool b),some (.pointer (some ⟨e,o,none⟩)),some (e,.cells c y fz),true,some v))
  (k:∀ a',St N D w0 F G0 G L ((d,v) :: T) a' w->WL r P ops Q rest a' w) :
  ∀ a,St N D w0 F G0 G L T a w->WL r P ops Q (⟨some d,.load u x,ty,pos,aC,some (j,want)⟩ :: rest) a w:=fun _ H=>by
 simp only [dX] at h
 exact iF ht H (wg H h.1 h.2.1 hb) h.2.2.1 (H.hp.jh i h.2.2.2.1 h.2.2.2.2.2) h.2.2.2.2.1 k
theorem YR {u:TypeId} {sz bytes:Nat} {zero:List aj} (ht:Ty P u sz bytes zero false) {x:Operand} {e o:Nat} {v:aj} (hb:b=want) (h:((ops[j]?).bind (·.dst),lk T t,ev T x,Nat.blt d N)=(some t,some (.bool b),some (.pointer (some ⟨e,o,none⟩)),true)) (hv:aQ G e o=some v)
  (k:∀ a',St N D w0 F G0 G L ((d,v) :: T) a' w->WL r P ops Q rest a' w) :
  ∀ a,St N D w0 F G0 G L T a w->WL r P ops Q (⟨some d,.load u x,ty,pos,aC,some (j,want)⟩ :: rest) a w:=fun _ H=>by
 simp only [dX] at h
 exact iF ht H (wg H h.1 h.2.1 hb) h.2.2.1 (H.hp.aQ hv) h.2.2.2 k
theorem Rg {u:TypeId} {sz bytes:Nat} {zero:List aj} (ht:Ty P u sz bytes zero false) {x:Operand} {e o:Nat} {v:aj} (h:(ev T x,Nat.blt d N)=(some (.pointer (some ⟨e,o,none⟩)),true)) (hv:aQ G e o=some v)
  (k:∀ a',St N D w0 F G0 G L ((d,v) :: T) a' w->WL r P ops Q rest a' w) :
  ∀ a,St N D w0 F G0 G L T a w->WL r P ops Q (⟨some d,.load u x,ty,pos,aC,none⟩ :: rest) a w:=fun _ H=>by
 simp only [dX] at h
 exact iF ht H wn h.1 (H.hp.aQ hv) h.2 k
theorem YL {x:Operand} {u e:TypeId} {A:Option Addr} {n c:Nat} (hs:P.underlying u=some (.slice e)) (hb:b=want) (h:((ops[j]?).bind (·.dst),lk T t,ev T x,Nat.blt d N)=(some t,some (.bool b),some (.slice A n c),true)) (k:∀ a',St N D w0 F G0 G L ((d,.int .i64 n) :: T) a' w->WL r P ops Q rest a' w) :
  ∀ a,St N D w0 F G0 G L T a w->WL r P ops Q (⟨some d,.call { callee:=.builtin .len,args:=#[x],argTypes:=#[u] },ty,pos,aC,some (j,want)⟩ :: rest) a w:=fun _ H=>by
 simp only [dX] at h
 exact zH hs H (wg H h.1 h.2.1 hb) h.2.2.1 h.2.2.2 k
theorem Ks {op:Op} (hb:b=!want) (h:((ops[j]?).bind (·.dst),lk T t,Nat.blt d N)=(some t,some (.bool b),true)) (k:∀ a',St N D w0 F G0 G L ((d,undef) :: T) a' w->WL r P ops Q rest a' w) :
  ∀ a,St N D w0 F G0 G L T a w->WL r P ops Q (⟨some d,op,ty,pos,aC,some (j,want)⟩ :: rest) a w:=fun _ H=>by
 simp only [dX] at h
 exact T9 H h.1 h.2.1 hb h.2.2 k
theorem aR {d2:Nat} {o1 o2:Op} {KH:TypeId} {pos2:String} {FR:Array Edge} (hb:b=!want) (h:((ops[j]?).bind (·.dst),lk T t,lk ((d,undef) :: T) t,Nat.blt d N,Nat.blt d2 N)=(some t,some (.bool b),some (.bool b),true,true)) (k:∀ a',St N D w0 F G0 G L ((d2,undef) :: (d,undef) :: T) a' w->WL r P ops Q rest a' w) :
  ∀ a,St N D w0 F G0 G L T a w->WL r P ops Q (⟨some d,o1,ty,pos,aC,some (j,want)⟩ :: ⟨some d2,o2,KH,pos2,FR,some (j,want)⟩ :: rest) a w:=by
 simp only [dX] at h
 exact Ks hb (by rw [h.1,h.2.1,h.2.2.2.1]) (Ks hb (by rw [h.1,h.2.2.1,h.2.2.2.2]) k)
theorem aU {d2 d3:Nat} {o1 o2 o3:Op} {KH ty3:TypeId} {pos2 acV:String} {FR V3:Array Edge} (hb:b=!want) (h:((ops[j]?).bind (·.dst),lk T t,lk ((d,undef) :: T) t,lk ((d2,undef) :: (d,undef) :: T) t,Nat.blt d N,Nat.blt d2 N,Nat.blt d3 N)=(some t,some (.bool b),some (.bool b),some (.bool b),true,true,true)) (k:∀ a',St N D w0 F G0 G L ((d3,undef) :: (d2,undef) :: (d,undef) :: T) a' w->WL r P ops Q rest a' w) :
  ∀ a,St N D w0 F G0 G L T a w->WL r P ops Q (⟨some d,o1,ty,pos,aC,some (j,want)⟩ :: ⟨some d2,o2,KH,pos2,FR,some (j,want)⟩ :: ⟨some d3,o3,ty3,acV,V3,some (j,want)⟩ :: rest) a w:=by
 simp only [dX] at h
 exact Ks hb (by rw [h.1,h.2.1,h.2.2.2.2.1]) (aR hb (by rw [h.1,h.2.2.1,h.2.2.2.1,h.2.2.2.2.2.1,h.2.2.2.2.2.2]) k)
theorem Ku {op:Op} (h:((ops[j]?).bind (·.dst),lk T t,Nat.blt d N)=(some t,some undef,true)) (k:∀ a',St N D w0 F G0 G L ((d,undef) :: T) a' w->WL r P ops Q rest a' w) :
  ∀ a,St N D w0 F G0 G L T a w->WL r P ops Q (⟨some d,op,ty,pos,aC,some (j,want)⟩ :: rest) a w:=fun _ H=>by
 simp only [dX] at h
 exact adU H h.1 h.2.1 h.2.2 k
theorem Pt {c x y:Operand} {v:aj} (hb:b=true) (h:(ev T c,ev T x,Nat.blt d N)=(some (.bool b),some v,true)) (k:∀ a',St N D w0 F G0 G L ((d,v) :: T) a' w->WL r P ops Q rest a' w) :
  ∀ a,St N D w0 F G0 G L T a w->WL r P ops Q (⟨some d,.pick c x y,ty,pos,aC,none⟩ :: rest) a w:=fun _ H=>by
 simp only [dX] at h
 exact TW H wn h.1 hb h.2.1 h.2.2 k
theorem Pf {c x y:Operand} {v:aj} (hb:b=false) (h:(ev T c,ev T y,Nat.blt d N)=(some (.bool b),some v,true)) (k:∀ a',St N D w0 F G0 G L ((d,v) :: T) a' w->WL r P ops Q rest a' w) :
  ∀ a,St N D w0 F G0 G L T a w->WL r P ops Q (⟨some d,.pick c x y,ty,pos,aC,none⟩ :: rest) a w:=fun _ H=>by
 simp only [dX] at h
 exact TV H wn h.1 hb h.2.1 h.2.2 k
theorem PT {c x y:Operand} {v:aj} {b':Bool} (hb:b=want) (hb':b'=true) (h:((ops[j]?).bind (·.dst),lk T t,ev T c,ev T x,Nat.blt d N)=(some t,some (.bool b),some (.bool b'),some v,true)) (k:∀ a',St N D w0 F G0 G L ((d,v) :: T) a' w->WL r P ops Q rest a' w) :
  ∀ a,St N D w0 F G0 G L T a w->WL r P ops Q (⟨some d,.pick c x y,ty,pos,aC,some (j,want)⟩ :: rest) a w:=fun _ H=>by
 simp only [dX] at h
 exact TW H (wg H h.1 h.2.1 hb) h.2.2.1 hb' h.2.2.2.1 h.2.2.2.2 k
theorem PF {c x y:Operand} {v:aj} {b':Bool} (hb:b=want) (hb':b'=false) (h:((ops[j]?).bind (·.dst),lk T t,ev T c,ev T y,Nat.blt d N)=(some t,some (.bool b),some (.bool b'),some v,true)) (k:∀ a',St N D w0 F G0 G L ((d,v) :: T) a' w->WL r P ops Q rest a' w) :
  ∀ a,St N D w0 F G0 G L T a w->WL r P ops Q (⟨some d,.pick c x y,ty,pos,aC,some (j,want)⟩ :: rest) a w:=fun _ H=>by
 simp only [dX] at h
 exact TV H (wg H h.1 h.2.1 hb) h.2.2.1 hb' h.2.2.2.1 h.2.2.2.2 k
theorem Ri {s e:TypeId} {sz bytes:Nat} {zero:List aj} {agg:Bool} (hs:P.underlying s=some (.slice e)) (ht:Ty P e sz bytes zero agg) {x y:Operand} {q o n c:Nat} {kd:IntKind} {z:Int} {i:Nat}
  (h:(ev T x,ev T y,Nat.blt d N)=(some (.slice (some ⟨q,o,none⟩) n c),some (.int kd z),true)) (hz:z=(i:Int)) (k:∀ a',St N D w0 F G0 G L ((d,.pointer (some ⟨q,o+i*sz,none⟩)) :: T) a' w->WL r P ops Q rest a' w) (hn:i < n:=by first|assumption|omega) :
  ∀ a,St N D w0 F G0 G L T a w->WL r P ops Q (⟨some d,.indexAddr s x y,ty,pos,aC,none⟩ :: rest) a w:=fun _ H=>by
 simp only [dX] at h
 exact bO hs ht i H wn h.1 h.2.1 hz hn h.2.2 k
theorem YI {s e:TypeId} {sz bytes:Nat} {zero:List aj} {agg:Bool} (hs:P.underlying s=some (.slice e)) (ht:Ty P e sz bytes zero agg) {x y:Operand} {q o n c:Nat} {kd:IntKind} {z:Int} {i:Nat} (hb:b=want)
  (h:((ops[j]?).bind (·.dst),lk T t,ev T x,ev T y,Nat.blt d N)=(some t,some (.bool b),some (.slice (some ⟨q,o,none⟩) n c),some (.int kd z),true)) (hz:z=(i:Int)) (k:∀ a',St N D w0 F G0 G L ((d,.pointer (some ⟨q,o+i*sz,none⟩)) :: T) a' w->WL r P ops Q rest a' w) (hn:i < n:=by first|assumption|omega) :
  ∀ a,St N D w0 F G0 G L T a w->WL r P ops Q (⟨some d,.indexAddr s x y,ty,pos,aC,some (j,want)⟩ :: rest) a w:=fun _ H=>by
 simp only [dX] at h
 exact bO hs ht i H (wg H h.1 h.2.1 hb) h.2.2.1 h.2.2.2.1 hz hn h.2.2.2.2 k
theorem Rd {x y:Operand} {u yt:TypeId} {p q z:Int} (h:(ev T x,ev T y,p+q,Nat.blt d N)=(some (.int .i64 p),some (.int .i64 q),z,true)) (k:∀ a',St N D w0 F G0 G L ((d,.int .i64 z) :: T) a' w->WL r P ops Q rest a' w) (h1:-9223372036854775808<=z:=by omega) (h2:z < 9223372036854775808:=by omega) :
  ∀ a,St N D w0 F G0 G L T a w->WL r P ops Q (⟨some d,.binOp .add u x y yt,ty,pos,aC,none⟩ :: rest) a w:=fun _ H=>by
 simp only [dX] at h
 exact rV z H wn h.1 h.2.1 h.2.2.1 h1 h2 h.2.2.2 k
theorem Rs {x y:Operand} {u yt:TypeId} {p q z:Int} (h:(ev T x,ev T y,p - q,Nat.blt d N)=(some (.int .i64 p),some (.int .i64 q),z,true)) (k:∀ a',St N D w0 F G0 G L ((d,.int .i64 z) :: T) a' w->WL r P ops Q rest a' w) (h1:-9223372036854775808<=z:=by omega) (h2:z < 9223372036854775808:=by omega) :
  ∀ a,St N D w0 F G0 G L T a w->WL r P ops Q (⟨some d,.binOp .sub u x y yt,ty,pos,aC,none⟩ :: rest) a w:=fun _ H=>by
 simp only [dX] at h
 exact ES z H wn h.1 h.2.1 h.2.2.1 h1 h2 h.2.2.2 k
theorem Rv {x:Operand} {u:TypeId} {s:ByteArray} (hs:P.underlying u=some .string) (h:(ev T x,Nat.blt d N)=(some (.string s),true)) (k:∀ a',St N D w0 F G0 G L ((d,.int .i64 s.size) :: T) a' w->WL r P ops Q rest a' w) :
  ∀ a,St N D w0 F G0 G L T a w->WL r P ops Q (⟨some d,.call { callee:=.builtin .len,args:=#[x],argTypes:=#[u] },ty,pos,aC,none⟩ :: rest) a w:=fun _ H=>by
 simp only [dX] at h
 exact adH hs H wn h.1 h.2 k
theorem Kz {X:Act->World->Prop} (hK:∀ a w,X a w->WL r P ops Q [] a w) (k:∀ a,St N D w0 F G0 G L T a w->X a w):∀ a,St N D w0 F G0 G L T a w->WL r P ops Q [] a w:=fun a H=>hK a w (k a H)
theorem Kn {X:Act->World->Prop} (hK:∀ a w,X a w->Q .normal a w) (k:∀ a,St N D w0 F G0 G L T a w->X a w):∀ a,St N D w0 F G0 G L T a w->WL r P ops Q [] a w:=fun a H=>aB (hK a w (k a H))
theorem au {X:Act->World->Prop} {x:Operand} {v:aj} (hK:∀ a w,X a w->WL r P ops Q [] a w) (h:(ev T x,Nat.blt d N)=(some v,true)) (k:∀ a',St N D w0 F G0 G L ((d,v) :: T) a' w->X a' w):∀ a,St N D w0 F G0 G L T a w->WL r P ops Q [⟨some d,.assign x,ty,pos,aC,none⟩] a w:=Ra h (Kz hK k)
theorem cO {X:Act->World->Prop} {x:Operand} {v:aj} (hK:∀ a w,X a w->Q .normal a w) (h:(ev T x,Nat.blt d N)=(some v,true)) (k:∀ a',St N D w0 F G0 G L ((d,v) :: T) a' w->X a' w):∀ a,St N D w0 F G0 G L T a w->WL r P ops Q [⟨some d,.assign x,ty,pos,aC,none⟩] a w:=Ra h (Kn hK k)
theorem Kc {X:Act->World->Prop} (hK:∀ a w,X a w->Q .normal a w) (k:∀ a,St N D w0 F G0 G L T a w->X a w):∀ a,St N D w0 F G0 G L T a w->WP r P .skip Q a w:=fun a H=>kI (hK a w (k a H))
theorem SR {id:Nat} {l:List Oper} {y:Code} (h:∀ K:Act->World->Prop,(∀ a w,WP r P y Q a w->WL r P l.toArray (Exit.then K Q) [] a w)->∀ a,St N D w0 F G0 G L T a w->WL r P l.toArray (Exit.then K Q) l a w):∀ a,St N D w0 F G0 G L T a w->WP r P (.seq (.region id l.toArray false) y) Q a w:=fun a H=>iV fun K hK=>h K hK a H
theorem SQ {x y:Code} (h:∀ K:Act->World->Prop,(∀ a w,WP r P y Q a w->K a w)->∀ a,St N D w0 F G0 G L T a w->WP r P x (Exit.then K Q) a w):∀ a,St N D w0 F G0 G L T a w->WP r P (.seq x y) Q a w:=fun a H=>fT fun K hK=>h K hK a H
theorem SC {id:Nat} {l:List Oper} (h:∀ a,St N D w0 F G0 G L T a w->WL r P l.toArray Q l a w):∀ a,St N D w0 F G0 G L T a w->WP r P (.region id l.toArray false) Q a w:=fun a H=>qw (h a H)
theorem SB {id:Nat} {c:Code} (h:∀ a,St N D w0 F G0 G L T a w->WP r P c (Exit.inBlock id Q) a w):∀ a,St N D w0 F G0 G L T a w->WP r P (.block id c) Q a w:=fun a H=>uP (h a H)
theorem kP {a:Act} {c:Code} (H:St N D w0 F G0 G L T a w) (k:∀ a,St N D w0 F G0 G L T a w->WP r P c Q a w):WP r P c Q a w:=k a H
theorem lr {a:Act} {fn:Func} {v:aj} {R:Ending->World->Prop} (H:St N [] w0 F G0 G L T a w) (hr:fn.results=#[.tmp t]) (hQ:(lk T t,Q .ret a w)=(some v,bodyPostM (FW none) 0 P fn R .ret a w)) (hR:R (.returned v) w):WP none P .ret Q a w:=by
 simp only [dX] at hQ
 exact bN (by rw [hQ.2];exact lv H hr hQ.1 hR)
theorem dT {p:Prop} [Decidable p] (h:decide p=true):p:=qo h
theorem dF {p:Prop} [Decidable p] (h:decide p=false):¬p:=of_decide_eq_false h
end
section
variable {N:Nat} {D:List Deferred} {w0:World} {F:Nat->Prop} {G0 G:GH} {L:OL} {T:List (Nat × aj)}
variable {P:Program} {l:List Oper} {r:Option Nat} {pr:Nat->aj->GH->Prop} {i d:Nat} {o:Oper} {aW:List (List Nat)} {B:List Nat} {v:aj}
abbrev qX (N:Nat) (D:List Deferred) (w0:World) (F:Nat->Prop) (G0 G:GH) (L:OL) (T:List (Nat × aj)) (r:Option Nat) (P:Program) (l:List Oper) (d:Nat) (v:aj) (o:Oper) (us:List (Nat × Nat × aj)):Prop :=
 ∀ {Q:Exit->Act->World->Prop} {a:Act} {w:World} {G1:GH} (_:∀ k o,G k=some o->G1 k=some o),(∀ a',St N D w0 F G0 G1 L ((d,v) :: (rW us T++full N a)) a' w->WL r P l.toArray Q [] a' w)->∀ a',St N D w0 F G0 G1 L (rW us T++full N a) a' w->WL r P l.toArray Q [o] a' w
abbrev FK (N:Nat) (D:List Deferred) (w0:World) (F:Nat->Prop) (G0 G:GH) (L:OL) (T:List (Nat × aj)) (r:Option Nat) (P:Program) (l:List Oper) (d:Nat) (v:aj) (o:Oper) (us:List (Nat × Nat × aj)):Prop :=
 ∀ {Q:Exit->Act->World->Prop} {a:Act} {w:World} {G1:GH},(∀ a',St N D w0 F G0 G1 L ((d,v) :: (rW us T++full N a)) a' w->WL r P l.toArray Q [] a' w)->∀ a',St N D w0 F G0 G1 L (rW us T++full N a) a' w->WL r P l.toArray Q [o] a' w
theorem qX.k {us:List (Nat × Nat × aj)} (hv:pr i=fun u _=>u=v) (k:qX N D w0 F G0 G L T r P l d v o us):Ae N D w0 F G0 G L T r P l pr i d o us :=
 fun _ a w G1 hG _ H fin=>k hG (fun _ H=>fin H (fun _ _ h=>h) (by rw [hv])) a H
theorem X0 (h:(cZ l i,Nat.blt i l.length,pr i)=(some d,true,fun u _=>u=v)) (k:qX N D w0 F G0 G L T r P l d v o [])
  (hok:kC l T i=true:=by kernel_rfl) (gQ:∀ i v (G G':GH),(∀ k o,G k=some o->G' k=some o)->pr i v G->pr i v G':=by exact fun _ _ _ _ _ h=>h):ou N D w0 F G0 G L T r P l aW B pr i o:=by
 simp only [dX] at h
 exact VQ (by rw [h.1,h.2.1]) (qX.k h.2.2 k) hok gQ
theorem X1 (j t:Nat) {x:aj} (h:(cZ l i,Nat.blt i l.length,pr j,pr i,[(j,t,x)].all (fun x=>(aW.getD i []).contains x.1 && (cZ l x.1 == some x.2.1)))=(some d,true,fun v _=>v=x,fun u _=>u=v,true)) (k:qX N D w0 F G0 G L T r P l d v o [(j,t,x)])
  (hok:kC l T i=true:=by kernel_rfl) (gQ:∀ i v (G G':GH),(∀ k o,G k=some o->G' k=some o)->pr i v G->pr i v G':=by exact fun _ _ _ _ _ h=>h):ou N D w0 F G0 G L T r P l aW B pr i o:=by
 simp only [dX] at h
 exact CK j t (by rw [h.1,h.2.1,h.2.2.2.2]) h.2.2.1 (qX.k h.2.2.2.1 k) hok gQ
theorem X2 (j t j' t':Nat) {x x':aj} (h:(cZ l i,Nat.blt i l.length,pr j,pr j',pr i,[(j,t,x),(j',t',x')].all (fun x=>(aW.getD i []).contains x.1 && (cZ l x.1 == some x.2.1)))=(some d,true,fun v _=>v=x,fun v _=>v=x',fun u _=>u=v,true)) (k:qX N D w0 F G0 G L T r P l d v o [(j,t,x),(j',t',x')])
  (hok:kC l T i=true:=by kernel_rfl) (gQ:∀ i v (G G':GH),(∀ k o,G k=some o->G' k=some o)->pr i v G->pr i v G':=by exact fun _ _ _ _ _ h=>h):ou N D w0 F G0 G L T r P l aW B pr i o:=by
 simp only [dX] at h
 exact LU j t j' t' (by rw [h.1,h.2.1,h.2.2.2.2.2]) (by rw [h.2.2.1,h.2.2.2.1]) (qX.k h.2.2.2.2.1 k) hok gQ
theorem X3 (j t j' t' j2 t2:Nat) {x x' x2:aj} (h:(cZ l i,Nat.blt i l.length,pr j,pr j',pr j2,pr i,[(j,t,x),(j',t',x'),(j2,t2,x2)].all (fun x=>(aW.getD i []).contains x.1 && (cZ l x.1 == some x.2.1)))=(some d,true,fun v _=>v=x,fun v _=>v=x',fun v _=>v=x2,fun u _=>u=v,true)) (k:qX N D w0 F G0 G L T r P l d v o [(j,t,x),(j',t',x'),(j2,t2,x2)])
  (hok:kC l T i=true:=by kernel_rfl) (gQ:∀ i v (G G':GH),(∀ k o,G k=some o->G' k=some o)->pr i v G->pr i v G':=by exact fun _ _ _ _ _ h=>h):ou N D w0 F G0 G L T r P l aW B pr i o:=by
 simp only [dX] at h
 exact VR j t j' t' j2 t2 (by rw [h.1,h.2.1,h.2.2.2.2.2.2]) (by rw [h.2.2.1,h.2.2.2.1,h.2.2.2.2.1]) (qX.k h.2.2.2.2.2.1 k) hok gQ
theorem Z0 (h:(cZ l i,Nat.blt i l.length,pr i)=(some d,true,fun u _=>u=v)) (k:FK N D w0 F G0 G L T r P l d v o [])
  (hok:kC l T i=true:=by kernel_rfl) (gQ:∀ i v (G G':GH),(∀ k o,G k=some o->G' k=some o)->pr i v G->pr i v G':=by exact fun _ _ _ _ _ h=>h):ou N D w0 F G0 G L T r P l aW B pr i o:=X0 h (fun _=>k) hok gQ
theorem Z1 (j t:Nat) {x:aj} (h:(cZ l i,Nat.blt i l.length,pr j,pr i,[(j,t,x)].all (fun x=>(aW.getD i []).contains x.1 && (cZ l x.1 == some x.2.1)))=(some d,true,fun v _=>v=x,fun u _=>u=v,true)) (k:FK N D w0 F G0 G L T r P l d v o [(j,t,x)])
  (hok:kC l T i=true:=by kernel_rfl) (gQ:∀ i v (G G':GH),(∀ k o,G k=some o->G' k=some o)->pr i v G->pr i v G':=by exact fun _ _ _ _ _ h=>h):ou N D w0 F G0 G L T r P l aW B pr i o:=X1 j t h (fun _=>k) hok gQ
theorem Z2 (j t j' t':Nat) {x x':aj} (h:(cZ l i,Nat.blt i l.length,pr j,pr j',pr i,[(j,t,x),(j',t',x')].all (fun x=>(aW.getD i []).contains x.1 && (cZ l x.1 == some x.2.1)))=(some d,true,fun v _=>v=x,fun v _=>v=x',fun u _=>u=v,true)) (k:FK N D w0 F G0 G L T r P l d v o [(j,t,x),(j',t',x')])
  (hok:kC l T i=true:=by kernel_rfl) (gQ:∀ i v (G G':GH),(∀ k o,G k=some o->G' k=some o)->pr i v G->pr i v G':=by exact fun _ _ _ _ _ h=>h):ou N D w0 F G0 G L T r P l aW B pr i o:=X2 j t j' t' h (fun _=>k) hok gQ
theorem St.ak {a:Act} {w:World} {p:aj->Prop} (H:St N D w0 F G0 G L T a w) (h:∃ u,a.tmps[d]?=some u∧p u) (he:p=fun u=>u=v):St N D w0 F G0 G L ((d,v) :: T) a w:=by
 subst he
 obtain ⟨u,h1,h2⟩:=h
 exact H.dD (h2 ▸ h1)
theorem dI {a:Act} {w:World} {Q:Exit->Act->World->Prop} {id:Nat} (hm:P.follows .mixedOrders=true) (aW:List (List Nat)) (B:List Nat) (hk:(rG l aW && rX l aW B)=true) (vs:List aj) (H:St N D w0 F G0 G L T a w)
  (hstep:allI (fun i o=>ou N D w0 F G0 G L T r P l aW B (JQ vs) i o) 0 l)
  (hend:∀ a w G1,(∀ k o,G k=some o->G1 k=some o)->St N D w0 F G0 G1 L T a w->(∀ i d,B.contains i=false->cZ l i=some d->∃ v,a.tmps[d]?=some v∧JQ vs i v G1)->WL r P l.toArray (fun e a w=>e=.normal∧Q .normal a w) (lC l B) a w):WP r P (.region id l.toArray true) Q a w:=by
 rw [gq] at hk
 exact AL hm aW B hk.1 hk.2 (JQ vs) (fun _ _ _ _ _ h=>h) H hstep hend
variable {w:World} {ops:Array Oper} {Q:Exit->Act->World->Prop} {b:Bool} {t:Nat} {x:Operand} {c1 c2:Code}
theorem Cd (h:ev T x=some (.bool b)) (k1:b=true->∀ a,St N D w0 F G0 G L T a w->WP r P c1 Q a w) (k2:b=false->∀ a,St N D w0 F G0 G L T a w->WP r P c2 Q a w):∀ a,St N D w0 F G0 G L T a w->WP r P (.cond x c1 c2) Q a w:=fun a H=>rC H h (fun h=>k1 h a H) (fun h=>k2 h a H)
theorem Ct (h:ev T x=some (.bool b)) (hb:b=true) (k:∀ a,St N D w0 F G0 G L T a w->WP r P c1 Q a w):∀ a,St N D w0 F G0 G L T a w->WP r P (.cond x c1 c2) Q a w:=fun a H=>GK H h hb (k a H)
theorem Cf (h:ev T x=some (.bool b)) (hb:b=false) (k:∀ a,St N D w0 F G0 G L T a w->WP r P c2 Q a w):∀ a,St N D w0 F G0 G L T a w->WP r P (.cond x c1 c2) Q a w:=fun a H=>rD H h hb (k a H)
theorem Sp {X:Act->Prop} (t:Nat) (h:lk T t=some (.bool b)) (k1:b=true->∀ a,St N D w0 F G0 G L T a w->X a) (k2:b=false->∀ a,St N D w0 F G0 G L T a w->X a):∀ a,St N D w0 F G0 G L T a w->X a:=fun a H=>adY H t h (fun h=>k1 h a H) (fun h=>k2 h a H)
class CO (b:Bool) (p q:outParam Prop):Prop where
 t:b=true->p
 f:b=false->q
instance {p:Prop} [Decidable p]:CO (decide p) p (¬p):=⟨qo,of_decide_eq_false⟩
instance (priority:=1):CO b (b=true) (b=false):=⟨id,id⟩
theorem CE {p q:Prop} (h:ev T x=some (.bool b)) [o:CO b p q] (k1:b=true->p->∀ a,St N D w0 F G0 G L T a w->WP r P c1 Q a w) (k2:b=false->q->∀ a,St N D w0 F G0 G L T a w->WP r P c2 Q a w):∀ a,St N D w0 F G0 G L T a w->WP r P (.cond x c1 c2) Q a w:=Cd h (fun h=>k1 h (o.t h)) (fun h=>k2 h (o.f h))
theorem SE {p q:Prop} {X:Act->Prop} (t:Nat) (h:lk T t=some (.bool b)) [o:CO b p q] (k1:b=true->p->∀ a,St N D w0 F G0 G L T a w->X a) (k2:b=false->q->∀ a,St N D w0 F G0 G L T a w->X a):∀ a,St N D w0 F G0 G L T a w->X a:=Sp t h (fun h=>k1 h (o.t h)) (fun h=>k2 h (o.f h))
theorem LR {fn:Func} {R:Ending->World->Prop} (hr:fn.results=#[.tmp t]) (hQ:(lk T t,Q .ret)=(some v,fun a w=>bodyPostM (FW none) 0 P fn R .ret a w)) (hR:∀ {a},St N [] w0 F G0 G L T a w->R (.returned v) w):∀ a,St N [] w0 F G0 G L T a w->WP none P .ret Q a w:=fun a H=>by
 simp only [dX] at hQ
 exact lr H hr (by rw [hQ.1,hQ.2]) (hR H)
end
def ra:Nat->Nat->List Nat
 | _,0=>[]
 | a,n+1=>a :: ra (a+1) n
theorem lca {α:Type} (a:α) (l m:List α):a :: l++m=a :: (l++m):=rfl
theorem bR {α:Type} (l:List α):[]++l=l:=rfl
theorem iM {p:Prop} [Decidable p] (h:p):decide p=true:=decide_eq_true h
theorem dU {p:Prop} [Decidable p] (h:¬p):decide p=false:=decide_eq_false h
abbrev CJ (pr:Nat->aj->GH->Prop):Prop:=∀ i v (G G':GH),(∀ k o,G k=some o->G' k=some o)->pr i v G->pr i v G'
theorem aX {N:Nat} {D:List Deferred} {w0 w:World} {F:Nat->Prop} {G0:GH} {a:Act} {ι:Type} {Tc:List (Nat × aj)} {Lc:List (Nat × Obj)} {Tv:ι->List (Nat × aj)} {Lv:ι->List (Nat × Obj)} {Gv:ι->GH} {Pr:ι->Prop} {m:ι->Nat} {i:ι} (i':ι)
  (H:St N D w0 F G0 (Gv i') (Lc++Lv i') (Tv i'++Tc) a w) (hP:Pr i') (hm:m i' < m i:=by first|omega|(dsimp only;omega)) :
  ∃ i',(St N D w0 F G0 (Gv i') (Lc++Lv i') (Tv i'++Tc) a w∧Pr i')∧m i' < m i:=⟨i',⟨H,hP⟩,hm⟩
theorem J9 (x:aj):∀ (vs c:List aj) (o:Nat),setRow (x :: c) (o+1) vs=x :: setRow c o vs
 | [],_,_=>rfl
 | v :: vs,c,o=>by simp only [setRow,List.set_cons_succ];exact J9 x vs _ _
class xG (c:List aj) (o:Nat) (vs:List aj) (c':outParam (List aj)):Prop where
 h:setRow c o vs=c'
class FE (a:Nat) (b:outParam Nat):Prop where
 h:a=b
instance {a:Nat}:FE a a:=⟨O⟩
instance {c:List aj} {o:Nat}:xG c o [] c:=⟨O⟩
instance {x:aj} {c c' vs:List aj} {o o':Nat} [e:FE o (o'+1)] [q:xG c o' vs c']:xG (x :: c) o vs (x :: c'):=⟨by rw [e.h,J9,q.h]⟩
instance {x v:aj} {c c' vs:List aj} {o:Nat} [e:FE o 0] [q:xG c 0 vs c']:xG (x :: c) o (v :: vs) (v :: c'):=⟨by rw [e.h];simp only [setRow,List.set_cons_zero];rw [J9,q.h]⟩
class nM (L:List (Nat × Obj)) (i:Nat) (x:Nat × Obj) (L':outParam (List (Nat × Obj))):Prop where
 h:L.set i x=L'
instance {y x:Nat × Obj} {L:List (Nat × Obj)}:nM (y :: L) 0 x (x :: L):=⟨O⟩
instance {y x:Nat × Obj} {L L':List (Nat × Obj)} {i:Nat} [q:nM L i x L']:nM (y :: L) (i+1) x (y :: L'):=⟨by rw [List.set_cons_succ,q.h]⟩
instance {y x:Nat × Obj} {A B:List (Nat × Obj)}:nM ((y :: A).append B) 0 x (x :: A.append B):=⟨O⟩
instance {y x:Nat × Obj} {A B L':List (Nat × Obj)} {i:Nat} [q:nM (A.append B) i x L']:nM ((y :: A).append B) (i+1) x (y :: L'):=⟨by rw [<- q.h];rfl⟩
instance {x:Nat × Obj} {B L':List (Nat × Obj)} {i:Nat} [q:nM B i x L']:nM (List.append [] B) i x L':=⟨q.h⟩
instance {y x:Nat × Obj} {A B:List (Nat × Obj)}:nM ((y :: A)++B) 0 x (x :: (A++B)):=⟨O⟩
instance {y x:Nat × Obj} {A B L':List (Nat × Obj)} {i:Nat} [q:nM (A++B) i x L']:nM ((y :: A)++B) (i+1) x (y :: L'):=⟨by rw [<- q.h];rfl⟩
instance {x:Nat × Obj} {B L':List (Nat × Obj)} {i:Nat} [q:nM B i x L']:nM ([]++B) i x L':=⟨q.h⟩
theorem dh {c:Prop} {h:Decidable c} (hc:¬c:=by omega) {α:Sort _} {t e:α}:(if c then t else e)=e:=aL hc
theorem iw {c:Prop} {h:Decidable c} (hc:c:=by omega) {α:Sort _} {t e:α}:(if c then t else e)=t:=aM hc
theorem bH {P:Program} {f:FuncId} {fn:Func} {c:Code} (hf:P.funcs[f]?=some fn) (hb:fn.body=some c) (hn:(fn.name == "runtime.NumGoroutine")=false:=by kernel_rfl):∀ (args:Array aj) (w:World),(callFunc f args).run P w=.ok (.enter f args) w:=enters hf hb hn
section
variable {N:Nat} {D:List Deferred} {w0:World} {F:Nat->Prop} {G0 G:GH} {L:List (Nat × Obj)} {T:List (Nat × aj)} {r:Option Nat} {P:Program} {ops:Array Oper} {Q:Exit->Act->World->Prop} {rest:List Oper} {a:Act} {w:World} {ty:TypeId} {pos:String} {aC:Array Edge} {g:Option (Nat × Bool)}
theorem eZ {t:TypeId} {sz bytes:Nat} {zero:List aj} {agg:Bool} (ht:Ty P t sz bytes zero agg) {x y:Operand} (i:Nat) {b o:Nat} {c:List aj} {e:TypeId} {v:aj} {vs:List aj} {c':List aj} {L':List (Nat × Obj)} (H:St N D w0 F G0 G L T a w) (hw:Region.wanted ⟨none,.store t x y,ty,pos,aC,g⟩ (yielded ops a.tmps)=true)
  (h:(ev T x,L[i]?,ev T y,v.cells,Nat.beq vs.length sz,vs.all oneCell',Nat.ble (o+vs.length) c.length)=(some (.pointer (some ⟨b,o,none⟩)),some (b,.cells c.toArray e (0,0)),some v,vs.toArray,true,true,true))
  [q1:xG c o vs c'] [q2:nM L i (b,.cells c'.toArray e (0,0)) L']
  (k:∀ w',St N D w0 F G0 G L' T a w'->WL r P ops Q rest a w'):WL r P ops Q (⟨none,.store t x y,ty,pos,aC,g⟩ :: rest) a w:=by
 simp only [dX] at h
 obtain ⟨hx,hi,hy,hvs,hl,h1,hle⟩:=h
 refine nI ht i _ H hw hx hi hy hvs hl h1 hle q1.h (fun w' H=>k w' ?_)
 rw [q2.h] at H;exact H
end
section
variable {N:Nat} {D:List Deferred} {w0:World} {F:Nat->Prop} {G0 G G1:GH} {L:OL} {T Xs:List (Nat × aj)} {l:List Oper} {a a':Act} {w w':World}
theorem yu {pr:Nat->aj->GH->Prop} {S:Nat->Bool} {i d:Nat} {v:aj} (HT:St N D w0 F G0 G1 L T a w) (Hb:St N D w0 F G0 G1 L (Xs++full N a) a w) (hG:∀ k o,G k=some o->G1 k=some o) (hv:∀ i d,S i=true->cZ l i=some d->∃ v,a.tmps[d]?=some v∧pr i v G1)
  (gQ:∀ i v (G G':GH),(∀ k o,G k=some o->G' k=some o)->pr i v G->pr i v G') (H:St N D w0 F G0 G1 L ((d,v) :: (Xs++full N a)) a' w') (hp:pr i v G1)
  (hok:kC l T i=true:=by kernel_rfl) (hi:cZ l i=some d:=by exact rfl) (hdl:Nat.blt i l.length=true:=by exact rfl):DX N D w0 F G0 G L T l pr (dM S i) a' w' :=
 iN hok gQ hi hdl HT Hb hG hv (fun _ _ h=>h) hp H
end
end
theorem um:prog.underlying 3=some (.int .i64):=by kernel_rfl
theorem KU:prog.underlying 5=some (.int .u8):=by kernel_rfl
theorem iH:prog.underlying 9=some .string:=by kernel_rfl
theorem YQ:bD 59:=bH func59 O
theorem Qr:bD 46:=bH func46 O
theorem Yr:bD 36:=bH func36 O
theorem AZ:bD 22:=bH func22 O
def fC (b:Int):Int × Int × Int :=
  (if b=224 then 160 else if b=240 then 144 else 128,if b=237 then 159 else if b=244 then 143 else 191,
   if b < 128 then 1 else if b < 194∨244 < b then 0 else if b < 224 then 2 else if b < 240 then 3 else 4)
theorem Kt (b:Int):0<=(fC b).2.2∧(fC b).2.2<=4:=by
 simp only [fC];split
 ·omega
 split
 ·omega
 split
 ·omega
 split <;> omega
theorem sP {p:Prop} (h:p:=by
 first|(exfalso;omega)|exact H.rt ⟨by simp only [fC];repeat (first|rw [iw]|rw [dh]),O⟩):p:=h
theorem C9 {p:Prop} (h:p:=by
 refine kP H (SC (cO K3 O (SQ fun _ K1=>SR fun _ K2=>Rm O (Kz K2 (SB (SR fun _ K4=>Rc O (au K4 O (Cd O ?_ ?_)))))))) <;> clear H K3 K2 K4
 ·intro h22 a H
  try have og:=dT h22
  refine kP H (SC (cO K1 O (SR fun _ K2=>Rm O (Rm O (Rm O (Ra O (Ra O (au K2 O ?_))))))));clear H K1 K2;intro a H;refine bN ?_;refine (bZ H results59 (.cons (aJ H O) (.cons (aJ H O) (.cons (aJ H O) .nil))) ?_).1
  exact sP
 intro h22 a H
 try have og:=dF h22
 refine kP H (SR fun _ K2=>Rc O (au K2 O (Cd O ?_ ?_))) <;> clear H K2
 ·intro aS a H
  try have gH:=dT aS
  refine kP H (SC (cO K1 O (SR fun _ K2=>Rm O (Rm O (Rm O (Ra O (Ra O (au K2 O ?_))))))));clear H K1 K2;intro a H;refine bN ?_;refine (bZ H results59 (.cons (aJ H O) (.cons (aJ H O) (.cons (aJ H O) .nil))) ?_).1
  exact sP
 intro aS a H
 try have gH:=dF aS
 refine kP H (SR fun _ K2=>Rc O (au K2 O (Cd O ?_ ?_))) <;> clear H K2
 ·intro ig a H
  try have p26:=dT ig
  refine kP H (SC (cO K1 O (SR fun _ K2=>Rm O (Rm O (Rm O (Ra O (Ra O (au K2 O ?_))))))));clear H K1 K2;intro a H;refine bN ?_;refine (bZ H results59 (.cons (aJ H O) (.cons (aJ H O) (.cons (aJ H O) .nil))) ?_).1
  exact sP
 intro ig a H
 try have p26:=dF ig
 refine kP H (SR fun _ K2=>Rc O (au K2 O (Cd O ?_ ?_))) <;> clear H K2
 ·intro gy a H
  try have p28:=dT gy
  refine kP H (SC (cO K1 O (SR fun _ K2=>Rm O (Rm O (Rm O (Ra O (Ra O (au K2 O ?_))))))));clear H K1 K2;intro a H;refine bN ?_;refine (bZ H results59 (.cons (aJ H O) (.cons (aJ H O) (.cons (aJ H O) .nil))) ?_).1
  exact sP
 intro gy a H
 try have p28:=dF gy
 refine kP H (Kc K1 (SR fun _ K2=>Rm O (Rm O (Rm O (Ra O (Ra O (au K2 O ?_)))))));clear H K1 K2;intro a H;refine bN ?_;refine (bZ H results59 (.cons (aJ H O) (.cons (aJ H O) (.cons (aJ H O) .nil))) ?_).1
 exact sP):p:=h
theorem Df {p:Prop} (h:p:=by
 refine kP H (SC (cO K1 O (SR fun _ K2=>Rm O (Rm O (Rm O (Ra O (Ra O (au K2 O ?_))))))));clear H K1 K2;intro a H;refine bN ?_;refine (bZ H results59 (.cons (aJ H O) (.cons (aJ H O) (.cons (aJ H O) .nil))) ?_).1
 exact sP):p:=h
theorem Da {p:Prop} (h:p:=by
 refine kP H (SC (cO K2 O (SR fun _ K1=>Rm O (Rm O (Rm O (Ra O (Ra O (au K1 O ?_))))))));clear H K2 K1;intro a H;refine bN ?_;refine (bZ H results59 (.cons (aJ H O) (.cons (aJ H O) (.cons (aJ H O) .nil))) ?_).1
 exact sP):p:=h
theorem aeP (G:GH) (w0:World) (hG:Hold G w0) (b:Int) :
  Calls prog 59 #[.int .u8 b] w0 (bK w0 G fun v G'=>v=.tuple #[.int .u8 (fC b).1,.int .u8 (fC b).2.1,.int .i64 (fC b).2.2]∧G=G'):=by
 refine eN [(0,_)] func59 O ntmps59 O O hG ?_;intro a H;refine kP H (SR fun _ K1=>Ra O (Ra O (au K1 O (SR fun _ K2=>Ra O (au K2 O (SQ fun _ K3=>SB (SR fun _ K4=>Rm O (Rc O (au K4 O (Cd O ?_ ?_)))))))))) <;> clear H K1 K2 K4
 ·intro h5 a H
  try have p5:=dT h5
  exact C9
 intro h5 a H
 try have p5:=dF h5
 refine kP H (SR fun _ K1=>Rm O (Rc O (Rm O (Sp 11 O ?_ ?_)))) <;> clear H
 ·intro h11 a H
  try have oO:=dT h11
  refine kH H (aR h11 O (Pt h11 O (au K1 O (Ct O O (SC (cO K3 O (SQ fun _ K2=>SR fun _ K4=>Rm O (Kz K4 (SB (SR fun _ K5=>Rc O (au K5 O (Cd O ?_ ?_)))))))))))) <;> clear H K1 K3 K4 K5
  ·intro h22 a H
   try have og:=dT h22
   exact Da
  intro h22 a H
  try have og:=dF h22
  refine kP H (SR fun _ K1=>Rc O (au K1 O (Cd O ?_ ?_))) <;> clear H K1
  ·intro aS a H
   try have gH:=dT aS
   exact Da
  intro aS a H
  try have gH:=dF aS
  refine kP H (SR fun _ K1=>Rc O (au K1 O (Cd O ?_ ?_))) <;> clear H K1
  ·intro ig a H
   try have p26:=dT ig
   exact Da
  intro ig a H
  try have p26:=dF ig
  refine kP H (SR fun _ K1=>Rc O (au K1 O (Cd O ?_ ?_))) <;> clear H K1
  ·intro gy a H
   try have p28:=dT gy
   exact Da
  intro gy a H
  try have p28:=dF gy
  refine kP H (Kc K2 (SR fun _ K1=>Rm O (Rm O (Rm O (Ra O (Ra O (au K1 O ?_)))))));clear H K2 K1;intro a H;refine bN ?_;refine (bZ H results59 (.cons (aJ H O) (.cons (aJ H O) (.cons (aJ H O) .nil))) ?_).1
  exact sP
 intro h11 a H
 try have oO:=dF h11
 refine kH H (YM h11 O (YC h11 O (Pf h11 O (au K1 O (Cd O ?_ ?_))))) <;> clear H K1
 ·intro h8 a H
  try have p8:=dT h8
  exact C9
 intro h8 a H
 try have p8:=dF h8
 refine kP H (SR fun _ K1=>Rm O (Rc O (au K1 O (Cd O ?_ ?_)))) <;> clear H K1
 ·intro jg a H
  try have nG:=dT jg
  exact C9
 intro jg a H
 try have nG:=dF jg
 refine kP H (SR fun _ K1=>Rm O (Rc O (au K1 O (Cd O ?_ ?_)))) <;> clear H K1
 ·intro h18 a H
  try have qJ:=dT h18
  exact C9
 intro h18 a H
 try have qJ:=dF h18
 refine kP H (SC (cO K3 O (SQ fun _ K1=>SR fun _ K2=>Rm O (Kz K2 (SB (SR fun _ K4=>Rc O (au K4 O (Cd O ?_ ?_)))))))) <;> clear H K3 K2 K4
 ·intro h22 a H
  try have og:=dT h22
  exact Df
 intro h22 a H
 try have og:=dF h22
 refine kP H (SR fun _ K2=>Rc O (au K2 O (Cd O ?_ ?_))) <;> clear H K2
 ·intro aS a H
  try have gH:=dT aS
  exact Df
 intro aS a H
 try have gH:=dF aS
 refine kP H (SR fun _ K2=>Rc O (au K2 O (Cd O ?_ ?_))) <;> clear H K2
 ·intro ig a H
  try have p26:=dT ig
  exact Df
 intro ig a H
 try have p26:=dF ig
 refine kP H (SR fun _ K2=>Rc O (au K2 O (Cd O ?_ ?_))) <;> clear H K2
 ·intro gy a H
  try have p28:=dT gy
  exact Df
 intro gy a H
 try have p28:=dF gy
 refine kP H (Kc K1 (SR fun _ K2=>Rm O (Rm O (Rm O (Ra O (Ra O (au K2 O ?_)))))));clear H K1 K2;intro a H;refine bN ?_;refine (bZ H results59 (.cons (aJ H O) (.cons (aJ H O) (.cons (aJ H O) .nil))) ?_).1
 exact sP
def dZ (s:ByteArray) (i:Nat):Int:=if h:i < s.size then (s[i].toNat:Int) else 0
theorem oG {s:ByteArray} {i:Nat} (h:i < s.size):dZ s i=(s[i].toNat:Int):=by simp [dZ,h]
def jN (s:ByteArray) (at_ n:Nat):(fuel k:Nat)->(low high p:Int)->Int × Nat × Bool
 | 0,k,_,_,p=>(p,k,true)
 | f+1,k,low,high,p =>
  if n<=k then (p,k,true)
  else if s.size<=at_+k∨dZ s (at_+k) < low∨high < dZ s (at_+k) then (0,k,false)
  else jN s at_ n f (k+1) 128 191 (lM .or .i64 (IntKind.i64.wrap (p*2 ^ 6)) (lM .and .i64 (dZ s (at_+k)) 63))
def dP (s:ByteArray) (at_:Nat):Int × Nat × Bool :=
 let b:=dZ s at_
 let t:=fC b
 if t.2.2=0 then (0,0,false) else if t.2.2=1 then (b,1,true)
 else jN s at_ t.2.2.toNat 4 1 t.1 t.2.1 (lM .and .i64 b ((127:Int).fdiv (2 ^ t.2.2.toNat)))
theorem KN (n:UInt8):IntKind.i64.wrap (n.toNat:Int)=(n.toNat:Int):=tQ V (by have:=n.toNat_lt;omega)
theorem Mg {p:Prop} (h:p:=by
 exact H.rt ⟨by rw [hfin];first|rw [iw]|rw [dh],O⟩):p:=h
theorem Gu {p:Prop} (h:p:=by
 intro a H;refine bN ?_
 have hfin:dP s i=(if n<=k then (p,k,true) else (0,k,false)):=by
  rw [hdec];have e:5 - k=(4 - k)+1:=by omega
  rw [e,jN]
  by_cases hk2:n<=k
  ·rw [aM hk2,aM hk2]
  rw [aL hk2,aL hk2,aM (by first|omega|(rw [oG V];omega))]
 refine (bZ H results46 (.cons (aJ H O) (.cons (aJ H O) (.cons (aJ H O) .nil))) ?_).1;exact Mg):p:=h
set_option maxHeartbeats 1000000 in
theorem Qe (G:GH) (w0:World) (hG:Hold G w0) (s:ByteArray) (i:Nat) (hi:i < s.size) (hs:s.size < 4611686018427387904) :
  Calls prog 46 #[.string s,.int .i64 i] w0 (bK w0 G fun v G'=>v=.tuple #[.int .i64 (dP s i).1,.int .i64 (dP s i).2.1,.bool (dP s i).2.2]∧G=G'):=by
 have hb:=oG hi;obtain ⟨n,hn⟩:∃ n:Nat,(fC (dZ s i)).2.2=(n:Int):=⟨(fC (dZ s i)).2.2.toNat,by have:=Kt (dZ s i);omega⟩
 have hn4:n<=4:=by have:=Kt (dZ s i);omega
 refine eN [(0,_),(1,_)] func46 O ntmps46 O O hG ?_;intro a H;refine kP H (SR fun _ K1=>Ra O (Ra O (au K1 O (SR fun _ K2=>Rm O (Rm O ?_)))));clear H K1;intro a H;refine wU _ iH H wn O O O (by first|assumption|omega) rfl ?_;clear H;intro a H;refine kH H (Ra O ?_);clear H;intro a H;rw [<- hb] at H;refine K2 _ _ ?_;clear K2;refine kP H (SR fun _ K1=>Rm O ?_);clear H;intro a H;refine s_call YQ H wn O (aeP _ _ H.ro _) O ?_;clear H;rintro v16 _ a w ⟨rfl,rfl⟩ - H;refine kH H (Rm O ?_);clear H;intro a H;(iterate 3 refine fG H wn O O O ?_;clear H;intro a H);refine kH H (Ra O (Ra O (au K1 O (SQ fun _ K2=>SR fun _ K3=>Rm O (Kz K3 (SB (SR fun _ K4=>Rc O (au K4 O (Cd O ?_ ?_))))))))) <;> clear H K1 K3 K4
 ·intro h21 a H
  try have kN:=dT h21
  refine kP H (SR fun _ K1=>Ra O (Ra O (au K1 O ?_)));clear H K1;intro a H;refine bN ?_;skip;refine (bZ H results46 (.cons (aJ H O) (.cons (aJ H O) (.cons (aJ H O) .nil))) ?_).1;exact H.rt ⟨by simp [dP,kN],O⟩
 intro h21 a H
 try have kN:=dF h21
 refine kP H (SR fun _ K1=>Rc O (au K1 O (Cd O ?_ ?_))) <;> clear H K1
 ·intro h23 a H
  try have JI:=dT h23
  refine kP H (SR fun _ K1=>Rm O ?_);clear H;intro a H;refine vD (dZ s i) um KU H wn O (by rw [hb];exact KN _) O ?_;clear H;intro a H;refine kH H (Ra O (Ra O (au K1 O ?_)));clear H K1;intro a H;refine bN ?_;skip;refine (bZ H results46 (.cons (aJ H O) (.cons (aJ H O) (.cons (aJ H O) .nil))) ?_).1;exact H.rt ⟨by simp [dP,kN,JI],O⟩
 intro h23 a H
 try have JI:=dF h23
 refine kP H (Kc K2 (SR fun _ K1=>Rm O ?_));clear H K2;intro a H;refine vD (dZ s i) um KU H wn O (by rw [hb];exact KN _) O ?_;clear H;intro a H;refine kH H (Rm O ?_);clear H;intro a H;refine J5 n H wn O O (by rw [hn]) (by show n<=64;omega) rfl ?_;clear H;intro a H;refine EL O H wn O O O ?_;clear H;intro a H;refine kH H (au K1 O (SQ fun _ K2=>SR fun _ K3=>au K3 O (SB ?_)));clear H K1 K3;intro a H;skip;refine dz (ι:=Nat × Int × Int × Int) (Tc:=[(0,_),(1,_),(10,_)]) (Lc:=[]) (fun gh=>[(4,.int .i64 gh.2.2.2),(5,.int .i64 (gh.1:Int)),(8,.int .u8 gh.2.1),(9,.int .u8 gh.2.2.1)]) (fun gh=>[]) (fun gh=>G) (fun gh=>gh.1<=4∧dP s i=jN s i n (5 - gh.1) gh.1 gh.2.1 gh.2.2.1 gh.2.2.2) (fun gh=>5 - gh.1) ((1,_,_,_)) (by exact H.sub ⟨O,O,O,O,O,O,O,aH⟩) ?_ ?_
 ·refine ⟨V,?_⟩;simp only [dP,hn];rw [dh,dh];rfl
 clear H;rintro ⟨k,low,high,p⟩ a w hI H;dsimp only at hI H;obtain ⟨hk,hdec⟩:=hI;dsimp only [lca,bR] at H;refine kP H (SQ fun _ K1=>SR fun _ K3=>Rm O (Rm O (Rc O (Kz K3 (Cd O ?_ ?_))))) <;> clear H K3
 ·intro iX a H
  try have p34:=dT iX
  refine kP H (Kc K1 (SQ fun _ K3=>SB (SQ fun _ K4=>SR fun _ K5=>Rm O (Rm O (Rd O (Rm O (Rv iH O (Rc O (Rm O (Sp 43 O ?_ ?_)))))))))) <;> clear H K1
  ·intro h43 a H
   try have p43:=dT h43
   refine kH H (aU h43 O (aR h43 O (aR h43 O (Pt h43 O (Rm O (aU O O (aR O O (aR O O (Pt O O (Kz K5 (Ct O O (SR fun _ K1=>Rm O (Ra O (Ra O (au K1 O ?_)))))))))))))));clear H K5 K1;exact Gu
  intro h43 a H
  try have p43:=dF h43
  refine kH H (YM h43 O (YM h43 O (YM h43 O ?_)));clear H;intro a H;refine rV _ H (wg H O O h43) O O O V V O ?_;clear H;intro a H;refine wU _ iH H (wg H O O h43) O O O (by first|assumption|omega) rfl ?_;clear H;intro a H;refine kH H (YM h43 O (YC h43 O (Pf h43 O (Rm O (Sp 52 O ?_ ?_))))) <;> clear H
  ·intro dG a H
   try have p52:=dT dG
   refine kH H (aU dG O (aR dG O (aR dG O (Pt dG O (Kz K5 (Ct O O (SR fun _ K1=>Rm O (Ra O (Ra O (au K1 O ?_))))))))));clear H K5 K1;exact Gu
  intro dG a H
  try have p52:=dF dG
  refine kH H (YM dG O (YM dG O (YM dG O ?_)));clear H;intro a H;refine rV _ H (wg H O O dG) O O O V V O ?_;clear H;intro a H;refine wU _ iH H (wg H O O dG) O O O (by first|assumption|omega) rfl ?_;clear H;intro a H;refine kH H (YM dG O (YC dG O (Pf dG O (Kz K5 (Cd O ?_ ?_))))) <;> clear H K5
  ·intro iP a H
   try have p60:=dT iP
   refine kP H (SR fun _ K1=>Rm O (Ra O (Ra O (au K1 O ?_))));clear H K1;exact Gu
  intro iP a H
  try have p60:=dF iP
  refine kP H (Kc K4 (SR fun _ K1=>Rm O ?_));clear H K4;intro a H;refine adT _ H wn O O O Y O ?_;clear H;intro a H;refine kH H (Rm O (Rm O (Rm O (Rd O ?_))));clear H;intro a H;refine wU _ iH H wn O O O (by first|assumption|omega) rfl ?_;clear H;intro a H;refine vD (dZ s (i+k)) um KU H wn O (by rw [oG V];exact KN _) O ?_;clear H;intro a H;(iterate 2 refine EL O H wn O O O ?_;clear H;intro a H);refine kH H (au K1 O (SC (Ra O (cO K3 O (SC (Rm O (Rd O (Ra O ?_))))))));clear H K1 K3;intro a H;refine aB ?_;refine aX ((k+1,128,191,lM .or .i64 (IntKind.i64.wrap (p*2 ^ 6)) (lM .and .i64 (dZ s (i+k)) 63))) (by exact H.sub ⟨O,O,O,O,O,O,O,aH⟩) ?_
  (try dsimp only);refine ⟨V,?_⟩
  have e:5 - k=(5 - (k+1))+1:=by omega
  rw [hdec,e,jN,dh,oG V,dh]
 intro iX a H
 try have p34:=dF iX
 refine bQ ?_;refine K2 _ _ ?_;clear K2;refine kP H (SR fun _ K2=>Rm O (Rm O (Ra O (Ra O (au K2 O ?_)))));clear H K2;intro a H;refine bN ?_
 have hfin:dP s i=(if n<=k then (p,k,true) else (0,k,false)):=by
  rw [hdec];have e:5 - k=(4 - k)+1:=by omega
  rw [e,jN]
  by_cases hk2:n<=k
  ·rw [aM hk2,aM hk2]
  rw [aL hk2,aL hk2,aM (by first|omega|(rw [oG V];omega))]
 refine (bZ H results46 (.cons (aJ H O) (.cons (aJ H O) (.cons (aJ H O) .nil))) ?_).1;exact Mg
theorem Qb (s:ByteArray) (at_ n:Nat):∀ (f k:Nat) (low high p:Int),n<=k+f->k<=n->k<=(jN s at_ n f k low high p).2.1∧(jN s at_ n f k low high p).2.1<=n∧((jN s at_ n f k low high p).2.2=true->at_+k<=s.size->at_+(jN s at_ n f k low high p).2.1<=s.size)
 | 0,k,low,high,p,h1,h2=>by simp only [jN];omega
 | f+1,k,low,high,p,h1,h2=>by
  unfold jN
  split
  ·simp only [];omega
  split
  ·simp only [];omega
  have ih:=Qb s at_ n f (k+1) 128 191 (lM .or .i64 (IntKind.i64.wrap (p*2 ^ 6)) (lM .and .i64 (dZ s (at_+k)) 63)) V V;refine ⟨by have:=ih.1;omega,ih.2.1,fun h3 h4=>ih.2.2 h3 V⟩
theorem yj (s:ByteArray) (i:Nat) (hi:i < s.size):(dP s i).2.1<=4∧((dP s i).2.2=true->1<=(dP s i).2.1∧i+(dP s i).2.1<=s.size):=by
 have ht:=Kt (dZ s i)
 unfold dP
 simp only []
 split
 ·simp
 split
 ·simp;omega
 have:=Qb s i (fC (dZ s i)).2.2.toNat 4 1 (fC (dZ s i)).1 (fC (dZ s i)).2.1 (lM .and .i64 (dZ s i) ((127:Int).fdiv (2 ^ (fC (dZ s i)).2.2.toNat))) V V;refine ⟨V,fun h=>⟨V,this.2.2 h V⟩⟩
def eH (s:ByteArray) (i:Nat):Int :=
 if h:i < s.size then (if h2:(dP s i).2.2=true then eH s (i+(dP s i).2.1) else i) else -1
 termination_by s.size - i
 decreasing_by have:=(yj s i h).2 h2;omega
theorem ZK (G:GH) (w0:World) (hG:Hold G w0) (s:ByteArray) (hs:s.size < 4611686018427387904) :
  Calls prog 36 #[.string s] w0 (bK w0 G fun v G'=>v=.int .i64 (eH s 0)∧G=G'):=by
 refine eN [(0,_)] func36 O ntmps36 O O hG ?_;intro a H;refine kP H (SR fun _ K1=>au K1 O (SQ fun _ K2=>SR fun _ K3=>au K3 O (SB ?_)));clear H K1 K3;intro a H;skip;refine dz (ι:=Nat) (Tc:=[(0,_)]) (Lc:=[]) (fun gh=>[(3,.int .i64 (gh:Int))]) (fun gh=>[]) (fun gh=>G) (fun gh=>gh<=s.size∧eH s 0=eH s gh) (fun gh=>s.size - gh) (0) (by exact H.sub ⟨O,O,aH⟩) ?_ ?_
 ·exact ⟨V,O⟩
 clear H;intro i a w hI H;obtain ⟨hk,hf⟩:=hI;dsimp only [lca,bR] at H;refine kP H (SQ fun _ K1=>SR fun _ K3=>Rm O (Rm O (Rv iH O (Rc O (Kz K3 (Cd O ?_ ?_)))))) <;> clear H K3
 ·intro h10 a H
  try have nE:=dT h10
  refine kP H (Kc K1 (SB (SR fun _ K3=>Rm O (Rm O ?_))));clear H K1;intro a H;refine s_call Qr H wn O (Qe _ _ H.ro s i V hs) O ?_;clear H;rintro v14 _ a w ⟨rfl,rfl⟩ - H;have hd:=yj s i V;refine kH H (Rm O ?_);clear H;intro a H;(iterate 3 refine fG H wn O O O ?_;clear H;intro a H);refine kH H (Ra O (Ra O (au K3 O (SQ fun _ K1=>SR fun _ K4=>Rm O (Rn O (Kz K4 (Cd O ?_ ?_))))))) <;> clear H K3 K4
  ·intro h19 a H
   try have EB:=dT h19
   exact kP H (SR fun _ K3=>Rm O (au K3 O (LR results36 O fun H=>H.rt ⟨by rw [hf,eH,dif_pos V,dif_neg (by simpa using h19)],O⟩)))
  intro h19 a H
  try have EB:=dF h19
  refine kP H (Kc K1 (SC (Rm O (Rm O (Rd O (Ra O ?_))))));clear H K1;intro a H;refine aB ?_;refine JA ((i+(dP s i).2.1)) (by exact H.sub ⟨O,O,aH⟩) ?_ ?_
  ·have h1:(dP s i).2.2=true:=by simpa using h19
   have h2:=hd.2 h1;refine ⟨V,?_⟩;rw [hf,eH,dif_pos V,dif_pos h1]
  have h1:(dP s i).2.2=true:=by simpa using h19
  have h2:=hd.2 h1
  omega
 intro h10 a H
 try have nE:=dF h10
 refine bQ ?_;refine K2 _ _ ?_;clear K2;exact kP H (SR fun _ K2=>au K2 O (LR results36 O fun H=>H.rt ⟨by rw [hf,eH,dif_neg V],O⟩))
def dW (s:ByteArray):Bool:=decide (eH s 0 < 0)
theorem Cw (G:GH) (w0:World) (hG:Hold G w0) (s:ByteArray) (hs:s.size < 4611686018427387904) :
  Calls prog 22 #[.string s] w0 (bK w0 G fun v G'=>v=.bool (dW s)∧G=G'):=by
 refine eN [(0,_)] func22 O ntmps22 O O hG ?_;intro a H;refine kP H (SR fun _ K1=>au K1 O (SR fun _ K2=>Rm O ?_));clear H K1;intro a H;refine s_call Yr H wn O (ZK _ _ H.ro s hs) O ?_;clear H;rintro v4 _ a w ⟨rfl,rfl⟩ - H;exact kH H (Rc O (au K2 O (LR results22 O fun H=>H.rt ⟨O,O⟩)))
def jo (s:ByteArray) (i:Nat):Nat :=
 if i < s.size then (if lM .and .u8 (dZ s i) 192=128 then 0 else 1)+jo s (i+1) else 0
 termination_by s.size - i
theorem PY (s:ByteArray):∀ (n i:Nat),s.size - i=n->jo s i<=n
 | 0,i,h=>by rw [jo,dh];exact aV _
 | n+1,i,h=>by
  have ih:=PY s n (i+1) V;rw [jo,iw]
  split <;> omega
def kT (s:ByteArray):Nat:=if dW s then jo s 0 else 0
def zV (s:ByteArray):Int:=if dW s then 0 else 12
theorem XI (s:ByteArray):kT s<=s.size:=by unfold kT;have:=PY s s.size 0 V;split <;> omega
theorem XQ (G:GH) (w0:World) (hG:Hold G w0) (s:ByteArray) (hs:s.size < 4611686018427387904) :
  Calls prog 71 #[.string s] w0 (bK w0 G fun v G'=>v=.tuple #[vi (kT s),vi (zV s)]∧G=G'):=by
 refine eN [(0,_)] func71 O ntmps71 O O hG ?_;intro a H;refine kP H (SR fun _ K1=>Ra O (au K1 O (SQ fun _ K2=>SR fun _ K3=>Rm O ?_)));clear H K1;intro a H;refine s_call AZ H wn O (Cw _ _ H.ro s hs) O ?_;clear H;rintro v6 _ a w ⟨rfl,rfl⟩ - H;refine kH H (Rn O (Kz K3 (Cd O ?_ ?_))) <;> clear H K3
 ·intro h7 a H
  refine kP H (SR fun _ K1=>Ra O (au K1 O ?_));clear H K1;intro a H;refine bN ?_;refine (bZ H results71 (.cons (aJ H O) (.cons (aJ H O) .nil)) ?_).1;exact H.rt ⟨by simp [kT,zV,show dW s=false by simpa using h7],O⟩
 intro h7 a H
 try have p7:=dF h7
 refine kP H (Kc K2 (SQ fun _ K1=>SR fun _ K3=>Rm O (Rv iH O (Rm O (Kz K3 (SB ?_))))));clear H K2 K3;intro a H;skip;refine dz (ι:=Nat × Nat) (Tc:=[(0,_),(9,_)]) (Lc:=[]) (fun gh=>[(2,vi gh.2),(10,vi gh.1)]) (fun gh=>[]) (fun gh=>G) (fun gh=>gh.1<=s.size∧gh.2<=gh.1∧gh.2+jo s gh.1=kT s) (fun gh=>s.size - gh.1) ((0,0)) (by exact H.sub ⟨O,O,O,O,aH⟩) ?_ ?_
 ·exact ⟨V,V,by simp [kT,show dW s=true by simpa using h7]⟩
 clear H;rintro ⟨i,n⟩ a w hI H;dsimp only at hI H;obtain ⟨hk,hn,hf⟩:=hI;dsimp only [lca,bR] at H;refine kP H (SR fun _ K2=>Rc O (Kz K2 (SQ fun _ K3=>Cd O ?_ ?_))) <;> clear H K2
 ·intro h11 a H
  try have oO:=dT h11
  refine kP H (Kc K3 (SQ fun _ K2=>SB (SR fun _ K4=>Rm O (au K4 O (SR fun _ K5=>Rm O (Rm O ?_))))));clear H K3 K4;intro a H;refine wU _ iH H wn O O O (by first|assumption|omega) rfl ?_;clear H;intro a H;refine EL O H wn O O O ?_;clear H;intro a H;refine kH H (Rc O (Kz K5 (Cd O ?_ ?_))) <;> clear H K5
  ·intro dH a H
   try have jY:=dT dH
   refine kP H (SC (Rm O (Rd O (cO K2 O (SC (Rd O (Rm O ?_)))))));clear H K2;intro a H;refine aB ?_;refine aX ((i+1,n+1)) (by exact H.sub ⟨O,O,O,O,aH⟩) ?_
   (try dsimp only);rw [<- oG V] at jY;rw [jo,iw,aL jY] at hf;exact ⟨V,V,V⟩
  intro dH a H
  try have jY:=dF dH
  refine kP H (Kc K2 (SC (Rd O (Rm O ?_))));clear H K2;intro a H;refine aB ?_;refine aX ((i+1,n)) (by exact H.sub ⟨O,O,O,O,aH⟩) ?_
  (try dsimp only);rw [<- oG V,xO] at jY;rw [jo,iw,aM jY] at hf;exact ⟨V,V,V⟩
 intro h11 a H
 try have oO:=dF h11
 refine bQ ?_;refine K1 _ _ ?_;clear K1;refine kP H (SR fun _ K1=>Rm O (Ra O (au K1 O ?_)));clear H K1;intro a H;refine bN ?_;refine (bZ H results71 (.cons (aJ H O) (.cons (aJ H O) .nil)) ?_).1;exact H.rt ⟨by rw [jo,dh,qm] at hf;rw [hf];simp [zV,show dW s=true by simpa using h7],O⟩
section
def aZ (e sz:Nat) (v:aj) (n:Nat) (xs:List aj) (Lo:OL):Prop :=
 xs.length=n*sz∧((v=.slice none 0 0∧n=0∧Lo=[])∨∃ b cap cur,v=.slice (some ⟨b,0,none⟩) n cap∧Lo=[(b,.cells cur e (0,0))]∧n<=cap∧cap<=maxLen∧cur.size=cap*sz∧cur.toList.take (n*sz)=xs)
theorem aZ.nil {e sz:Nat}:aZ e sz (.slice none 0 0) 0 [] []:=⟨by simp,.inl ⟨O,O,O⟩⟩
theorem aZ.shape {e sz n:Nat} {v:aj} {xs:List aj} {Lo:OL} (h:aZ e sz v n xs Lo):∃ A c,v=.slice A n c∧n<=c∧c<=maxLen:=by
 rcases h.2 with ⟨rfl,rfl,_⟩|⟨b,cap,cur,rfl,_,h1,h2,_,_⟩
 ·exact ⟨none,0,O,aV _,by simp [maxLen]⟩
 ·exact ⟨_,cap,O,h1,h2⟩
section
variable {N:Nat} {D:List Deferred} {w0:World} {F:Nat->Prop} {G0 G:GH} {L Li Lo:OL} {T:List (Nat × aj)}
variable {r:Option Nat} {P:Program} {ops:Array Oper} {Q:Exit->Act->World->Prop} {rest:List Oper} {a:Act} {w w':World}
variable {d:Nat} {ty:TypeId} {pos:String} {aC:Array Edge} {g:Option (Nat × Bool)}
theorem aZ.owns {e sz n:Nat} {v:aj} {xs:List aj} (h:aZ e sz v n xs Lo) (H:Hp w0 F G0 G (Li++Lo) w):w.ownsRow 0 e sz v n xs:=by
 refine ⟨h.1,?_⟩
 rcases h.2 with ⟨h1,h2,_⟩|⟨b,cap,cur,h1,h2,h3,h4,h5,h6⟩
 ·exact .inl ⟨h1,h2⟩
 ·exact .inr ⟨b,cap,cur,h1,dO _,H.own (b,.cells cur e (0,0)) (by simp [h2]),h3,h4,h5,h6⟩
theorem PK {e sz n n':Nat} {v v':aj} {xs xs':List aj} (h:aZ e sz v n xs Lo) (ho:jc G Lo w) (hown:w'.ownsRow 0 e sz v' n' xs') (hg:w.grownBy w' v.ownBlock) (hb:v'.ownBlock=v.ownBlock∨v'.ownBlock=some w.heap.size) :
  ∃ jA,aZ e sz v' n' xs' jA∧Change w w' G G Lo jA:=by
 have hrow:∀ k,v.ownBlock=some k->∃ p∈Lo,p.1=k:=by
  intro k hk
  rcases h.2 with ⟨h1,_,_⟩|⟨b,cap,cur,h1,h2,_⟩
  ·rw [h1] at hk;cases hk
  ·rw [h1] at hk;simp only [Value.ownBlock,jL] at hk;exact ⟨_,by rw [h2];exact List.mem_singleton_self _,hk⟩
 have hro:∀ k o,G k=some o->w'.heap[k]?=some o:=by
  intro k o hk
  rw [hg.block k (lt_of_heap (ho.ro k o hk)) (fun e'=>by
   obtain ⟨p,hp,e2⟩:=hrow k e'.symm
   have:=ho.sep p hp
   rw [e2,hk] at this;cases this)]
  exact ho.ro k o hk
 have hfr:∀ k,k < w.heap.size->(∀ p∈Lo,p.1≠k)->w'.heap[k]?=w.heap[k]?:=fun k hk hn=>hg.block k hk fun e'=>by
  obtain ⟨p,hp,e2⟩:=hrow k e'.symm
  exact hn p hp e2
 rcases hown.2 with ⟨h1,h2⟩|⟨b,cap,cur,h1,_,h3,h4,h5,h6,h7⟩
 ·exact ⟨[],⟨hown.1,.inl ⟨h1,h2,O⟩⟩,⟨hg.os,hg.tape,hg.output,hg.size,hfr,fun _ _ h=>h,fun _ _ h=>.inl h,⟨hro,fun _ h=>(by cases h),fun _ h=>(by cases h),List.Pairwise.nil⟩,fun _ h=>(by cases h)⟩⟩
 ·refine ⟨[(b,.cells cur e (0,0))],⟨hown.1,.inr ⟨b,cap,cur,h1,O,h4,h5,h6,h7⟩⟩,⟨hg.os,hg.tape,hg.output,hg.size,hfr,fun _ _ h=>h,fun _ _ h=>.inl h,⟨hro,fun p hp=>?_,fun p hp=>?_,by simp⟩,fun p hp=>?_⟩⟩
  ·rw [sJ.1 hp];exact h3
  ·rw [sJ.1 hp]
   cases hgb:G b with
   | none=>rfl
   | some o =>
    exfalso
    rw [h1] at hb
    rcases hb with hb|hb
    ·obtain ⟨p',hp',e2⟩:=hrow b (by rw [<- hb];rfl)
     have:=ho.sep p' hp'
     rw [e2,hgb] at this;cases this
    ·simp only [Value.ownBlock,jL] at hb
     have:=lt_of_heap (ho.ro b o hgb)
     omega
  ·rw [sJ.1 hp]
   rw [h1] at hb
   rcases hb with hb|hb
   ·obtain ⟨p',hp',e2⟩:=hrow b (by rw [<- hb];rfl)
    exact .inr ⟨p',hp',e2⟩
   ·simp only [Value.ownBlock,jL] at hb
    exact .inl (by simp only;omega)
theorem dV {t e:TypeId} {sz bytes:Nat} {zero:List aj} {agg:Bool} (hs:P.underlying t=some (.slice e)) (ht:Ty P e sz bytes zero agg) (hz:Nat.beq zero.length sz=true) (hsz:Nat.blt 0 sz=true) {x y:Operand} {v:aj} {n m c b2 o2:Nat} {xs news:List aj} (H:St N D w0 F G0 G (Li++Lo) T a w)
  (hw:Region.wanted ⟨some d,.call { callee:=.builtin .append,args:=#[x,y],argTypes:=#[t,t] },ty,pos,aC,g⟩ (yielded ops a.tmps)=true) (hx:ev T x=some v) (hy:ev T y=some (.slice (some ⟨b2,o2,none⟩) m c)) (hrow:aZ e sz v n xs Lo)
  (hn:news.length=m*sz) (hc:∀ j u,news[j]?=some u->w.cell? ⟨b2,o2+j,none⟩=some u) (h1:news.all Value.oneCell'=true) (h63:n+m<=maxLen) (hb:(n+m)*bytes<=140737488355328) (hd:Nat.blt d N=true)
  (k:∀ v' jA a' w',aZ e sz v' (n+m) (xs++news) jA->St N D w0 F G0 G (Li++jA) ((d,v') :: T) a' w'->WL r P ops Q rest a' w') :
  WL r P ops Q (⟨some d,.call { callee:=.builtin .append,args:=#[x,y],argTypes:=#[t,t] },ty,pos,aC,g⟩ :: rest) a w:=by
 obtain ⟨i,z,hi,hi1,hi2,hi3,hi4⟩:=ht.parts
 obtain ⟨v',w2,hrun,r1,r2,_,r4⟩:=run_append_own_at (P:=P) w 0 t ty e i z sz bytes hs hi hi3 hi1 hi2 (by rw [hi4];simpa using qY hz) (Eq.mp Nat.blt_eq hsz) v n xs (hrow.owns H.hp) ⟨b2,o2,none⟩ m c news hn (fun j u hj=>by rw [add_lit];exact hc j u hj) (fun u hu=>fM.1 h1 u hu) h63 hb (dO _)
 obtain ⟨jA,hr,hch⟩:=PK hrow H.hp.owns r1 r2 r4
 refine bX (v:=v') (w':=w2) hw O ?_ (k v' jA _ w2 hr (H.put hd v' (H.hp.change hch)))
 simp [execOp,resolve,invoke,builtin,H.ev hx,H.ev hy,bE,hrun]
theorem ady {t e:TypeId} {sz bytes:Nat} {zero:List aj} {agg:Bool} (hs:P.underlying t=some (.slice e)) (ht:Ty P e sz bytes zero agg) {x y:Operand} {A B:Option Addr} {n c c':Nat} (H:St N D w0 F G0 G L T a w)
  (hw:Region.wanted ⟨some d,.call { callee:=.builtin .append,args:=#[x,y],argTypes:=#[t,t] },ty,pos,aC,g⟩ (yielded ops a.tmps)=true) (hx:ev T x=some (.slice A n c)) (hy:ev T y=some (.slice B 0 c')) (hnc:n<=c) (hd:Nat.blt d N=true)
  (k:∀ a',St N D w0 F G0 G L ((d,.slice A n c) :: T) a' w->WL r P ops Q rest a' w) :
  WL r P ops Q (⟨some d,.call { callee:=.builtin .append,args:=#[x,y],argTypes:=#[t,t] },ty,pos,aC,g⟩ :: rest) a w:=by
 refine bX (v:=.slice A n c) (w':=w) hw O ?_ (k _ (H.put hd _ H.hp))
 have h1:∀ w,(Builtin.firstCells sz 0 (.slice B 0 c')).run P w=.ok #[] w:=by intro w;cases B <;> simp [Builtin.firstCells,loadCells,loadCellsFrom]
 have hle:n+0<=c:=by omega
 cases A <;> simp [execOp,resolve,invoke,builtin,H.ev hx,H.ev hy,bE,Builtin.append_,jK hs,ht.qO,Builtin.lenOf,hnc,h1,storeCells]
theorem wT {x:Operand} {fv:aj} {xs:List Operand} {vs:List aj} {ts:Array TypeId} {R:aj->GH->Prop} (H:St N D w0 F G0 G L T a w) (hw:Region.wanted ⟨some d,.call { callee:=.value x,args:=xs.toArray,argTypes:=ts },ty,pos,aC,g⟩ (yielded ops a.tmps)=true)
  (hf:ev T x=some fv) (hx:evs T xs=some vs) (hc:qV P fv vs w (bK w G R)) (hd:Nat.blt d N=true)
  (k:∀ v G' a' w',R v G'->(∀ k o,G k=some o->G' k=some o)->St N D w0 F G0 G' L ((d,v) :: T) a' w'->WL r P ops Q rest a' w'):WL r P ops Q (⟨some d,.call { callee:=.value x,args:=xs.toArray,argTypes:=ts },ty,pos,aC,g⟩ :: rest) a w:=by
 refine KY (nx:=_) (R:=bK w G R) hw O O ?_ ?_
 ·have h1:=H.evs hx
  have e:(execOp a.eval ⟨some d,.call { callee:=.value x,args:=xs.toArray,argTypes:=ts },ty,pos,aC,g⟩)=(do let d <- Deferred.ofValue fv vs.toArray;invoke d.target d.args:Sem Next):=by
   simp only [execOp,resolve,H.ev hf,List.map_toArray,h1]
  rw [e]
  exact hc.go
 ·rintro e w' ⟨v,G',rfl,hb,hx,hR⟩
  exact ⟨v,O,k v G' _ w' hR hx.1 (H.put hd v (H.hp.Md hb hx))⟩
end
def bU (G:GH) (sz:Nat) (rows:List (List Dat)) (xs:List aj):Prop :=
 ∃ css:List (List aj),xs=css.flatten∧css.length=rows.length∧∀ (j:Nat) (r:List Dat) (cs:List aj),rows[j]?=some r->css[j]?=some cs->aT G r cs∧cs.length=sz
theorem bU.nil {G:GH} {sz:Nat}:bU G sz [] []:=⟨[],O,O,fun j r cs h=>by simp at h⟩
theorem bU.mono {G G':GH} (hm:∀ k o,G k=some o->G' k=some o) {sz:Nat} {rows:List (List Dat)} {xs:List aj} (h:bU G sz rows xs):bU G' sz rows xs:=by
 obtain ⟨css,h1,h2,h3⟩:=h
 exact ⟨css,h1,h2,fun j r cs hr hc=>⟨(h3 j r cs hr hc).1.mono hm,(h3 j r cs hr hc).2⟩⟩
theorem bU.snoc {G:GH} {sz:Nat} {rows:List (List Dat)} {xs:List aj} (h:bU G sz rows xs) {q:List Dat} {cs:List aj} (hr:aT G q cs) (hl:cs.length=sz):bU G sz (rows++[q]) (xs++cs):=by
 obtain ⟨css,h1,h2,h3⟩:=h
 refine ⟨css++[cs],by simp [h1],by simp [h2],fun j r c hj hc=>?_⟩
 by_cases hlt:j < rows.length
 ·rw [sK hlt] at hj
  rw [sK V] at hc
  exact h3 j r c hj hc
 ·have IW:j=rows.length:=by
   have:=(fV.1 hj).1
   simp at this;omega
  subst IW
  rw [uJ (aV _),Nat.sub_self] at hj
  rw [uJ V,h2,Nat.sub_self] at hc
  simp only [uH,jL] at hj hc
  subst hj;subst hc
  exact ⟨hr,hl⟩
theorem QJ {sz:Nat}:∀ {css:List (List aj)} {j:Nat} {cs:List aj},(∀ (j:Nat) (cs:List aj),css[j]?=some cs->cs.length=sz)->css[j]?=some cs->∀ i,i < sz->css.flatten[j*sz+i]?=cs[i]?
 | [],_,_,_,h,_,_=>by simp at h
 | c :: css,0,cs,hl,h,i,hi=>by
  simp only [uH,jL] at h
  subst h
  have:=hl 0 c O
  simp only [List.flatten_cons,Nat.zero_mul,eP]
  rw [sK V]
 | c :: css,j+1,cs,hl,h,i,hi=>by
  have hc:=hl 0 c O
  have ih:=QJ (css:=css) (j:=j) (cs:=cs) (fun j cs hj=>hl (j+1) cs (by simpa using hj)) (by simpa using h) i hi
  simp only [List.flatten_cons]
  rw [uJ (by rw [hc,Nat.succ_mul];omega),<- ih]
  congr 1
  rw [hc,Nat.succ_mul];omega
theorem jm.cat {G:GH} {sz b:Nat}:∀ {rows:List (List Dat)} {o:Nat},jm G sz b o rows->∃ xs:List aj,xs.length=rows.length*sz∧(∀ j u,xs[j]?=some u->aQ G b (o+j)=some u)∧xs.all Value.oneCell'=true∧bU G sz rows xs
 | [],o,_=>⟨[],by simp,fun j u h=>by simp at h,O,bU.nil⟩
 | r :: rs,o,h=>by
  simp only [jm] at h
  obtain ⟨⟨cs,h1,h2,h3⟩,h4⟩:=h
  obtain ⟨xs,g1,g2,g3,css,g4,g5,g6⟩:=jm.cat h4
  refine ⟨cs++xs,by simp [h1,g1,Nat.succ_mul,Nat.add_comm],fun j u hj=>?_,by simp [h3.one,g3],cs :: css,by simp [g4],by simp [g5],fun j q c hj hc=>?_⟩
  ·by_cases hlt:j < cs.length
   ·rw [sK hlt] at hj;exact h2 j u hj
   ·rw [uJ V] at hj
    rw [<- g2 _ u hj];congr 1;omega
  ·cases j with
   | zero=>simp only [uH,jL] at hj hc;subst hj;subst hc;exact ⟨h3,h1⟩
   | succ j=>exact g6 j q c (by simpa using hj) (by simpa using hc)
theorem ay.cells {G:GH} {sz:Nat} {rows:List (List Dat)} {A:Option Addr} {n c:Nat} (h:ay G (.sl sz rows) (.slice A n c)):n=rows.length∧n<=c∧c<=maxLen∧(A=none->rows=[]) ∧
  (rows≠[]->∃ b o xs,A=some ⟨b,o,none⟩∧xs.length=n*sz∧(∀ j u,xs[j]?=some u->aQ G b (o+j)=some u)∧xs.all Value.oneCell'=true∧bU G sz rows xs):=by
 simp only [ay] at h
 obtain ⟨A',c',h1,h2,h3,h4⟩:=h
 injection h1 with e1 e2 e3
 subst e1;subst e2;subst e3
 refine ⟨O,h2,h3,fun hn=>?_,fun hne=>?_⟩
 ·apply Classical.byContradiction
  intro hne
  obtain ⟨b,o,e,_⟩:=h4 hne
  rw [hn] at e;cases e
 ·obtain ⟨b,o,e,hr⟩:=h4 hne
  obtain ⟨xs,g1,g2,g3,g4⟩:=hr.cat
  exact ⟨b,o,xs,e,g1,g2,g3,g4⟩
theorem ay.nY {G:GH} {sz:Nat} {A:Option Addr} {n c:Nat} (h:n=0) (hc:c<=maxLen):ay G (.sl sz []) (.slice A n c):=by
 subst h
 simp only [ay]
 exact ⟨A,c,O,dO _,hc,fun h=>absurd O h⟩
theorem ay.mP {G:GH} {e sz n b cap:Nat} {cur:Array aj} {xs:List aj} {rows:List (List Dat)} (hb:G b=some (.cells cur e (0,0))) (hl:rows.length=n) (hc:n<=cap) (hm:cap<=maxLen) (ht:cur.toList.take (n*sz)=xs) (lU:bU G sz rows xs) :
  ay G (.sl sz rows) (.slice (some ⟨b,0,none⟩) n cap):=by
 obtain ⟨css,h1,h2,h3⟩:=lU
 simp only [ay]
 refine ⟨_,cap,by rw [hl],V,hm,fun _=>⟨b,0,O,jm.mk fun k q hk=>?_⟩⟩
 have hkl:k < css.length:=by rw [h2];exact (fV.1 hk).1
 have hcs:css[k]?=some css[k]:=gU hkl
 obtain ⟨g1,g2⟩:=h3 k q _ hk hcs
 refine ⟨css[k],g2,fun j u hj=>?_,g1⟩
 have hjs:j < sz:=by rw [<- g2];exact (fV.1 hj).1
 have hlen:∀ (j:Nat) (cs:List aj),css[j]?=some cs->cs.length=sz:=by
  intro j cs hj
  have hjl:j < rows.length:=by rw [<- h2];exact (fV.1 hj).1
  exact (h3 j _ cs (gU hjl) hj).2
 have hf:=QJ hlen hcs j hjs
 rw [<- h1,<- ht,hj] at hf
 unfold aQ
 rw [hb]
 simp only
 have hlt:k*sz+j < n*sz:=by
  have:(k+1)*sz<=n*sz:=Nat.mul_le_mul_right _ V
  rw [Nat.succ_mul] at this;omega
 rw [oZ,aM hlt] at hf
 simpa using hf
theorem St.kU {N:Nat} {D:List Deferred} {w0:World} {F:Nat->Prop} {G0 G:GH} {Li Lo:OL} {T:List (Nat × aj)} {a:Act} {w:World} {e sz n:Nat} {v:aj} {xs:List aj} {rows:List (List Dat)} (H:St N D w0 F G0 G (Li++Lo) T a w)
  (hrow:aZ e sz v n xs Lo) (hl:rows.length=n) (lU:bU G sz rows xs):∃ G',(∀ k o,G k=some o->G' k=some o)∧ay G' (.sl sz rows) v∧St N D w0 F G0 G' Li T a w:=by
 rcases hrow.2 with ⟨rfl,h2,rfl⟩|⟨b,cap,cur,rfl,rfl,h3,h4,h5,h6⟩
 ·refine ⟨G,fun _ _ h=>h,?_,by simpa using H⟩
  have:rows=[]:=List.eq_nil_of_length_eq_zero V
  subst this
  simp only [ay]
  exact ⟨none,0,by simp,by simp,by simp [maxLen],fun h=>absurd O h⟩
 ·have hi:(Li++[(b,Obj.cells cur e (0,0))])[Li.length]?=some (b,.cells cur e (0,0)):=by simp
  have hn:=H.QU _ hi
  have hm:∀ k o,G k=some o->(G.add b (.cells cur e (0,0))) k=some o:=fun k o h=>GH.FN G hn k o h
  refine ⟨_,hm,ay.mP (GH.LX G b _) hl h3 h4 h6 (lU.mono hm),?_⟩
  have:=H.giveUp _ hi
  rwa [List.eraseIdx_append_of_length_le (aV _),Nat.sub_self,List.eraseIdx_zero,List.tail_cons,kr] at this
theorem St.gP {N:Nat} {D:List Deferred} {w0:World} {F:Nat->Prop} {G0 G:GH} {L:OL} {T:List (Nat × aj)} {a:Act} {w:World} {b:Nat} {o:Obj} (H:St N D w0 F G0 G ((b,o) :: L) T a w) :
  ∃ G',(∀ k o,G k=some o->G' k=some o)∧G' b=some o∧St N D w0 F G0 G' L T a w :=
 ⟨G.add b o,GH.FN G (H.QU 0 rfl),GH.LX G b o,H.giveUp 0 rfl⟩
theorem St.oI {N:Nat} {D:List Deferred} {w0:World} {F:Nat->Prop} {G0 G:GH} {L:OL} {T:List (Nat × aj)} {a:Act} {w:World} {b e sz:Nat} {cs:List aj} {d:List Dat} (H:St N D w0 F G0 G ((b,.cells cs.toArray e (0,0)) :: L) T a w) (hl:cs.length=sz) (hr:aT G d cs) :
  ∃ G',(∀ k o,G k=some o->G' k=some o)∧ay G' (.sl sz [d]) (.slice (some ⟨b,0,none⟩) 1 1)∧St N D w0 F G0 G' L T a w:=by
 obtain ⟨G',hm,hb,H⟩:=H.gP
 exact ⟨G',hm,ay.mP (xs:=cs) hb O (aV _) Y (by simp [<- hl]) (by simpa using (bU.nil (sz:=sz)).snoc (hr.mono hm) hl),H⟩
structure Now {α:Type} (xs:List AP) (P:α->AP) (J:Nat->GH->OL->Prop) (je j:Nat) (A:List α) (g:GH) (L:OL):Prop where
 now:J j g L
 rem:∀ i a,A[i]?=some a->xs[j+i]?=some (P a)
 len:j+A.length=je
theorem Now.head {α:Type} {xs:List AP} {P:α->AP} {J:Nat->GH->OL->Prop} {je j:Nat} {x:α} {A:List α} {g:GH} {L:OL} (h:Now xs P J je j (x :: A) g L):xs[j]?=some (P x):=h.rem 0 x O
theorem Now.step {α:Type} {xs:List AP} {P:α->AP} {J:Nat->GH->OL->Prop} {je j:Nat} {x:α} {A:List α} {g g':GH} {L L':OL} (h:Now xs P J je j (x :: A) g L) (hJ:J (j+1) g' L'):Now xs P J je (j+1) A g' L' :=
 ⟨hJ,fun i a hi=>by rw [show j+1+i=j+(i+1) by omega];exact h.rem (i+1) a (by simpa using hi),by have:=h.len;simp only [jB] at this;omega⟩
theorem Hp.zy {R:aj->GH->OL->Prop} {v:aj} {w0 w:World} {G0 G:GH} {L0 L L':OL} (h:Hp w0 (Fr w0 L0) G0 G L w) (hs:L'.Sublist L) (hR:R v G L'):jd w0 G0 L0 R (.returned v) w:=(h.drop hs).kY hR
section
variable {N:Nat} {D:List Deferred} {w0:World} {F:Nat->Prop} {G0 G:GH} {L Li Lo:OL} {T:List (Nat × aj)}
variable {r:Option Nat} {P:Program} {ops:Array Oper} {Q:Exit->Act->World->Prop} {rest:List Oper} {a:Act} {w:World}
variable {d:Nat} {ty:TypeId} {pos:String} {aC:Array Edge} {g:Option (Nat × Bool)}
theorem TQ {t e:TypeId} {sz bytes:Nat} {zero:List aj} {agg:Bool} (hs:P.underlying t=some (.slice e)) (ht:Ty P e sz bytes zero agg) (hz:Nat.beq zero.length sz=true) (hsz:Nat.blt 0 sz=true) {x y:Operand} {v:aj} {n m c:Nat} {A:Option Addr} {xs:List aj} {rows:List (List Dat)} (H:St N D w0 F G0 G (Li++Lo) T a w)
  (hw:Region.wanted ⟨some d,.call { callee:=.builtin .append,args:=#[x,y],argTypes:=#[t,t] },ty,pos,aC,g⟩ (yielded ops a.tmps)=true) (hx:ev T x=some v) (hy:ev T y=some (.slice A m c)) (hrow:aZ e sz v n xs Lo)
  (hrep:ay G (.sl sz rows) (.slice A m c)) (h63:n+m<=maxLen) (hb:(n+m)*bytes<=140737488355328) (hd:Nat.blt d N=true)
  (k:∀ v' jA news a' w',aZ e sz v' (n+m) (xs++news) jA->bU G sz rows news->St N D w0 F G0 G (Li++jA) ((d,v') :: T) a' w'->WL r P ops Q rest a' w') :
  WL r P ops Q (⟨some d,.call { callee:=.builtin .append,args:=#[x,y],argTypes:=#[t,t] },ty,pos,aC,g⟩ :: rest) a w:=by
 obtain ⟨hn,hc1,hc2,hnil,hxx⟩:=hrep.cells
 by_cases hr0:rows=[]
 ·have hm0:m=0:=by rw [hn,hr0];rfl
  subst hm0
  obtain ⟨A',c',rfl,h1,h2⟩:=hrow.shape
  refine ady hs ht H hw hx hy h1 hd fun a' H'=>?_
  exact k _ Lo [] a' w (by simpa using hrow) (by rw [hr0];exact bU.nil) H'
 ·obtain ⟨b,o,news,rfl,hxl,hxc,hx1,lU⟩:=hxx hr0
  exact dV hs ht hz hsz H hw hx hy hrow hxl (fun j u hj=>H.hp.aQ (hxc j u hj)) hx1 h63 hb hd fun v' jA a' w' hr' H'=>k v' jA news a' w' hr' lU H'
theorem J6 {t e:TypeId} {sz bytes:Nat} {zero:List aj} {agg:Bool} (hs:P.underlying t=some (.slice e)) (ht:Ty P e sz bytes zero agg) {x y z:Operand} {A:Option Addr} {n c:Nat} (lo hi:Nat) {p q:Int} (H:St N D w0 F G0 G L T a w)
  (hw:Region.wanted ⟨some d,.slice t x (some y) (some z) none,ty,pos,aC,g⟩ (yielded ops a.tmps)=true) (hx:ev T x=some (.slice A n c)) (hy:ev T y=some (.int .i64 p)) (hz:ev T z=some (.int .i64 q)) (hp:p=(lo:Int)) (hq:q=(hi:Int)) (h1:lo<=hi) (h2:hi<=c) (hd:Nat.blt d N=true)
  (k:∀ a',St N D w0 F G0 G L ((d,.slice (if c=lo then A else A.map (·.add (lo*sz))) (hi - lo) (c - lo)) :: T) a' w->WL r P ops Q rest a' w):WL r P ops Q (⟨some d,.slice t x (some y) (some z) none,ty,pos,aC,g⟩ :: rest) a w:=by
 subst hp;subst hq
 refine bX (v:=.slice (if c=lo then A else A.map (·.add (lo*sz))) (hi - lo) (c - lo)) (w':=w) hw O ?_ (k _ (H.put hd _ H.hp))
 simp [execOp,H.ev hx,H.ev hy,H.ev hz,Instr.sliceAt,Instr.slice,Instr.sliceBounds,Instr.sliceBound,bE,jK hs,ht.qO,asIntOf,h1,h2]
end
theorem ay.part {G:GH} {sz:Nat} {rows:List (List Dat)} {A:Option Addr} {n c:Nat} (h:ay G (.sl sz rows) (.slice A n c)) (lo hi:Nat) (h1:lo<=hi) (h2:hi<=rows.length) :
  ay G (.sl sz ((rows.drop lo).take (hi - lo))) (.slice (if c=lo then A else A.map (·.add (lo*sz))) (hi - lo) (c - lo)):=by
 obtain ⟨A',c',he,hc1,hc2,hg⟩:=h.slice
 injection he with e1 e2 e3
 subst e1;subst e3
 have hl:((rows.drop lo).take (hi - lo)).length=hi - lo:=by simp;omega
 simp only [ay]
 refine ⟨_,_,by rw [hl],by rw [hl];omega,V,fun hn=>?_⟩
 have hlt:lo < hi:=by
  rcases Nat.lt_or_ge lo hi with h|h
  ·exact h
  ·exact absurd (List.eq_nil_of_length_eq_zero (by rw [hl];omega)) hn
 obtain ⟨b,o,cs,hA,-⟩:=hg lo rows[lo] (by simp)
 subst hA
 refine ⟨b,o+lo*sz,by rw [aL V,oF,add_lit],jm.mk fun k r hk=>?_⟩
 rw [oZ] at hk
 split at hk
 ·rw [List.getElem?_drop] at hk
  obtain ⟨b',o',cs,hA,g1,g2,g3⟩:=hg (lo+k) r hk
  obtain ⟨rfl,rfl⟩:b=b'∧o=o':=by simpa using hA
  exact ⟨cs,g1,fun j u hj=>by rw [<- g2 j u hj];congr 1;rw [Nat.add_mul];omega,g3⟩
 ·cases hk
theorem bU.append {G:GH} {sz:Nat} {r1 r2:List (List Dat)} {x1 x2:List aj} (h1:bU G sz r1 x1) (h2:bU G sz r2 x2):bU G sz (r1++r2) (x1++x2):=by
 obtain ⟨c1,rfl,e1,f1⟩:=h1
 obtain ⟨c2,rfl,e2,f2⟩:=h2
 refine ⟨c1++c2,by simp,by simp [e1,e2],fun j r cs hr hc=>?_⟩
 by_cases hj:j < r1.length
 ·exact f1 j r cs (by rwa [sK hj] at hr) (by rwa [sK V] at hc)
 ·exact f2 (j - r1.length) r cs (by rwa [uJ V] at hr) (by rwa [uJ V,e1] at hc)
end
section
section
variable {N:Nat} {D:List Deferred} {w0:World} {F:Nat->Prop} {G0 G G1 G2:GH} {L L1 L2:OL} {T Xs:List (Nat × aj)}
variable {r:Option Nat} {P:Program} {Q:Exit->Act->World->Prop} {l:List Oper} {a a':Act} {w w':World}
theorem xU {x y:Nat} (h:x≠y):Nat.beq x y=false:=by
 cases h':Nat.beq x y with
 | false=>rfl
 | true=>exact absurd (qY h') h
theorem yw {i e:Nat} (h:cZ l i=some e):i < l.length:=by
 unfold cZ at h
 by_cases hl:i < l.length
 ·exact hl
 ·rw [List.getElem?_eq_none V] at h;cases h
theorem zx (A B C D':OL):(A++(B++(C++D'))).Perm ((A++(B++D'))++C):=by
 rw [lK A,lK B]
 exact List.Perm.append_left A (List.Perm.append_left B List.perm_append_comm)
theorem Ug:∀ (vs c:List aj) (o:Nat),o+vs.length<=c.length->setRow c o vs=c.take o++vs++c.drop (o+vs.length)
 | [],c,o,_=>by simp [setRow]
 | v :: vs,c,o,h=>by
  simp only [jB] at h
  rw [setRow,Ug vs (c.set o v) (o+1) (by simp;omega),List.take_set,List.drop_set,aM V,kg V]
  have e:((c.take o++[c[o]]).set o v)=c.take o++[v]:=by
   have hl:(c.take o).length=o:=by simp;omega
   rw [List.set_append,aL V,hl,Nat.sub_self];rfl
  rw [e,jB,show o+1+vs.length=o+(vs.length+1) by omega]
  simp
theorem St.weak (h:St N D w0 F G0 G L Xs a w) (hs:∀ t v,lk T t=some v->lk Xs t=some v):St N D w0 F G0 G L T a w:=⟨h.iD,fun t v ht=>h.get t v (hs t v ht),h.kK,h.hp⟩
end
end
section
structure xH (P:Program) (t:TypeId):Prop where
 h:(P.info? t).map (fun j=>j.size == 0)=some false
theorem xH.parts {P:Program} {t:TypeId} (h:xH P t):∃ j,P.info? t=some j∧j.size≠0:=by
 obtain ⟨j,h1,h2⟩:=kR.1 h.h
 exact ⟨j,h1,by simpa using h2⟩
structure U8 (P:Program) (e:TypeId):Prop where
 h:(P.info? e).map (fun i=>(i.zero,i.size,i.bytes))=some (some (.int .u8 0),1,1)
section
variable {N:Nat} {D:List Deferred} {w0:World} {F:Nat->Prop} {G0 G:GH} {L Li Lo:OL} {T:List (Nat × aj)}
variable {r:Option Nat} {P:Program} {ops:Array Oper} {Q:Exit->Act->World->Prop} {rest:List Oper} {a:Act} {w:World}
variable {d:Nat} {ty:TypeId} {pos:String} {aC:Array Edge} {g:Option (Nat × Bool)}
theorem Hp.shape (h:Hp w0 F G0 G L w) {i b:Nat} {c:Array aj} {e:TypeId} {fz:Nat × Nat} (hi:L[i]?=some (b,.cells c e fz)):w.shape? b=some (e,c.size):=by
 have:=h.own _ (iU hi)
 simp only at this
 simp [World.shape?,this]
theorem aea {t u te e:TypeId} {x:Operand} {b o:Nat} {c:Array aj} {fz:Nat × Nat} (hs:P.underlying t=some (.pointer te)) (hu:P.underlying u=some .unsafePointer) (hj:xH P te) (H:St N D w0 F G0 G L T a w) (hw:Region.wanted ⟨some d,.convert t u x,ty,pos,aC,g⟩ (yielded ops a.tmps)=true)
  (hx:ev T x=some (.pointer (some ⟨b,o,none⟩))) (i:Nat) (hi:L[i]?=some (b,.cells c e fz)) (ho:Nat.blt o c.size=true) (hd:Nat.blt d N=true)
  (k:∀ a',St N D w0 F G0 G L ((d,.pointer (some ⟨b,o,none⟩)) :: T) a' w->WL r P ops Q rest a' w):WL r P ops Q (⟨some d,.convert t u x,ty,pos,aC,g⟩ :: rest) a w:=by
 obtain ⟨j,h1,h2⟩:=hj.parts
 refine bX (v:=.pointer (some ⟨b,o,none⟩)) (w':=w) hw O ?_ (k _ (H.put hd _ H.hp))
 have h:=Lib.run_to_unsafe (P:=P) w ⟨b,o,none⟩ hs hu h1 h2 (H.hp.shape hi) (Eq.mp Nat.blt_eq ho)
 simp only [execOp,H.ev hx,bE,h,gJ,jC]
theorem adF {t u te e:TypeId} {x:Operand} {b o:Nat} {c:Array aj} {fz:Nat × Nat} (hs:P.underlying t=some .unsafePointer) (hu:P.underlying u=some (.pointer te)) (hj:xH P te) (H:St N D w0 F G0 G L T a w) (hw:Region.wanted ⟨some d,.convert t u x,ty,pos,aC,g⟩ (yielded ops a.tmps)=true)
  (hx:ev T x=some (.pointer (some ⟨b,o,none⟩))) (i:Nat) (hi:L[i]?=some (b,.cells c e fz)) (hl:liesAt P P.depth e (c.size / P.cellsOf e) o te 1=true) (hd:Nat.blt d N=true)
  (k:∀ a',St N D w0 F G0 G L ((d,.pointer (some ⟨b,o,none⟩)) :: T) a' w->WL r P ops Q rest a' w):WL r P ops Q (⟨some d,.convert t u x,ty,pos,aC,g⟩ :: rest) a w:=by
 obtain ⟨j,h1,h2⟩:=hj.parts
 refine bX (v:=.pointer (some ⟨b,o,none⟩)) (w':=w) hw O ?_ (k _ (H.put hd _ H.hp))
 have h:=Lib.run_from_unsafe (P:=P) w ⟨b,o,none⟩ hs hu h1 (H.hp.shape hi) hl
 simp only [execOp,H.ev hx,bE,h,gJ,jC]
theorem adP {f:FuncId} {xs:List Operand} {v:aj} {ts:Array TypeId} (hcf:∀ (w:World),(callFunc f #[v]).run P w=.ok (.value v) w) (H:St N D w0 F G0 G L T a w) (hw:Region.wanted ⟨some d,.call { callee:=.value (.func f),args:=xs.toArray,argTypes:=ts },ty,pos,aC,g⟩ (yielded ops a.tmps)=true)
  (hx:evs T xs=some [v]) (hd:Nat.blt d N=true)
  (k:∀ a',St N D w0 F G0 G L ((d,v) :: T) a' w->WL r P ops Q rest a' w):WL r P ops Q (⟨some d,.call { callee:=.value (.func f),args:=xs.toArray,argTypes:=ts },ty,pos,aC,g⟩ :: rest) a w:=by
 refine bX (v:=v) (w':=w) hw O ?_ (k _ (H.put hd _ H.hp))
 have h1:=H.evs hx
 simp [execOp,resolve,Act.eval,Deferred.ofValue,invoke,bE,h1,hcf]
theorem adp {f:FuncId} {fn:Func} (hf:P.funcs[f]?=some fn) (hname:(fn.name == "runtime.NumGoroutine")=false) (hb:fn.body.isNone=true) (hn:Extern.findNext fn=none) (he:Extern.find fn=some Extern.AbiNoEscape.same) (v:aj) (w:World):(callFunc f #[v]).run P w=.ok (.value v) w:=by
 rw [run_callFunc_extern hf hname hb hn he,Lib.run_noEscape]
 rfl
theorem TU {t u te:TypeId} (hs:P.underlying t=some (.pointer te)) {x:Operand} {p:Option Addr} (H:St N D w0 F G0 G L T a w) (hw:Region.wanted ⟨some d,.binOp .eql t x (.const (.pointer none)) u,ty,pos,aC,g⟩ (yielded ops a.tmps)=true) (hx:ev T x=some (.pointer p)) (hd:Nat.blt d N=true)
  (k:∀ a',St N D w0 F G0 G L ((d,.bool p.isNone) :: T) a' w->WL r P ops Q rest a' w):WL r P ops Q (⟨some d,.binOp .eql t x (.const (.pointer none)) u,ty,pos,aC,g⟩ :: rest) a w:=by
 refine bX (v:=.bool p.isNone) (w':=w) hw O ?_ (k _ (H.put hd _ H.hp))
 have h1:(Op.equal t (.pointer p) (.pointer none)).run P w=.ok p.isNone w:=by
  show (Op.equalIn (9999+1) t (.pointer p) (.pointer none)).run P w=_
  rw [Op.equalIn.eq_2,bE,jK hs]
  cases p <;> simp
 have h2:(do eqGuard .eql t x (.const (.pointer none)) (.pointer p) (.pointer none);binOp .eql t (.pointer p) (.pointer none):Sem aj).run P w=.ok (.bool p.isNone) w:=by
  have e:(do eqGuard .eql t x (.const (.pointer none)) (.pointer p) (.pointer none);binOp .eql t (.pointer p) (.pointer none):Sem aj)=(do pure (.bool (<- Op.equal t (.pointer p) (.pointer none))):Sem aj):=rfl
  rw [e,bE,h1];rfl
 have e0:execOp a.eval ⟨some d,.binOp .eql t x (.const (.pointer none)) u,ty,pos,aC,g⟩=(do pure (.value (<- (do eqGuard .eql t x (.const (.pointer none)) (.pointer p) (.pointer none);binOp .eql t (.pointer p) (.pointer none):Sem aj))):Sem Next):=by
  simp only [execOp,H.ev hx];rfl
 rw [e0,bE,h2]
 rfl
theorem adM {t u te:TypeId} (hs:P.underlying t=some (.pointer te)) (hj:xH P te) {x y:Operand} {p:Addr} (H:St N D w0 F G0 G L T a w) (hw:Region.wanted ⟨some d,.binOp .neq t x y u,ty,pos,aC,g⟩ (yielded ops a.tmps)=true) (hx:ev T x=some (.pointer (some p))) (hy:ev T y=some (.pointer (some p))) (hd:Nat.blt d N=true)
  (k:∀ a',St N D w0 F G0 G L ((d,.bool false) :: T) a' w->WL r P ops Q rest a' w):WL r P ops Q (⟨some d,.binOp .neq t x y u,ty,pos,aC,g⟩ :: rest) a w:=by
 obtain ⟨j,h1,h2⟩:=hj.parts
 refine bX (v:=.bool false) (w':=w) hw O ?_ (k _ (H.put hd _ H.hp))
 have h:=Lib.run_neq_ptr_same (P:=P) (w:=w) p hs h1
 simp only [execOp,H.ev hx,H.ev hy]
 simp [bE,eqGuard,h]
theorem adz {t u e:TypeId} (hs:P.underlying t=some (.slice e)) (hu:P.underlying u=some .string) (ht:U8 P e) {x y:Operand} {v:aj} {n:Nat} {xs:List aj} {s:ByteArray} (H:St N D w0 F G0 G (Li++Lo) T a w)
  (hw:Region.wanted ⟨some d,.call { callee:=.builtin .append,args:=#[x,y],argTypes:=#[t,u] },ty,pos,aC,g⟩ (yielded ops a.tmps)=true) (hx:ev T x=some v) (hy:ev T y=some (.string s)) (hrow:aZ e 1 v n xs Lo)
  (h63:n+s.size<=140737488355328) (hd:Nat.blt d N=true)
  (k:∀ v' jA a' w',aZ e 1 v' (n+s.size) (xs++Lib.strCells s) jA->(v=.slice none 0 0->s.size=0->v'=.slice none 0 0)->St N D w0 F G0 G (Li++jA) ((d,v') :: T) a' w'->WL r P ops Q rest a' w') :
  WL r P ops Q (⟨some d,.call { callee:=.builtin .append,args:=#[x,y],argTypes:=#[t,u] },ty,pos,aC,g⟩ :: rest) a w:=by
 obtain ⟨i,hi,hz⟩:=kR.1 ht.h
 simp only [dX] at hz
 have hown:=hrow.owns H.hp
 obtain ⟨v',w2,hrun,r1,r2,r3⟩:=Lib.run_append_own_string (P:=P) (w:=w) 0 t u ty e i hs hu hi hz.1 hz.2.1 hz.2.2 v n xs hown s (by simp only [maxLen];omega) h63 (dO _)
 have hxl:xs.length=n:=by simpa using hrow.1
 have hb:v'.ownBlock=v.ownBlock∨v'.ownBlock=some w.heap.size:=by
  rcases hown.2 with ⟨hv,hn⟩|⟨g,cap,cur,hv,_,hg,hnc,hcm,hcs,_⟩
  ·subst hv
   by_cases hm:s.size=0
   ·left;rw [r3.2 ⟨O,hm⟩]
   ·right
    have hr:=run_append_nil_string (P:=P) w t u ty e i (.int .u8 0) hs hu hi hz.1 s V V (by rw [hz.2.2];omega)
    rw [hrun] at hr
    injection hr with h1 h2
    rw [h1];rfl
  ·subst hv
   by_cases hroom:n+s.size<=cap
   ·left
    have hcs':cur.size=cap:=by simpa using hcs
    have hr:=Lib.run_append_room_string (P:=P) (w:=w) t u ty e i hs hu hi hz.2.1 g n cap cur hg s hroom V
    rw [hrun] at hr
    injection hr with h1 h2
    rw [h1];rfl
   ·right
    have holds:∀ j u,xs[j]?=some u->w.cell? ((⟨g,0,none⟩:Addr).add j)=some u:=hown.cells (g:=g) O
    have hr:=Lib.run_append_grow_string (P:=P) (w:=w) t u ty e i (.int .u8 0) hs hu hi hz.1 ⟨g,0,none⟩ n cap xs (by rw [hz.2.1];simpa using hxl) holds s V V (by rw [hz.2.2];exact growslice_fits V V)
    rw [hrun] at hr
    injection hr with h1 h2
    rw [h1];rfl
 obtain ⟨jA,hr,hch⟩:=PK hrow H.hp.owns r1 r2 hb
 refine bX (v:=v') (w':=w2) hw O ?_ (k v' jA _ w2 hr (fun h1 h2=>r3.2 ⟨h1,h2⟩) (H.put hd v' (H.hp.change hch)))
 simp [execOp,resolve,invoke,builtin,H.ev hx,H.ev hy,bE,hrun]
theorem adV {t:TypeId} {x:Operand} {p:Addr} {n c:Nat} (H:St N D w0 F G0 G L T a w) (hw:Region.wanted ⟨some d,.call { callee:=.builtin .unsafeSliceData,args:=#[x],argTypes:=#[t] },ty,pos,aC,g⟩ (yielded ops a.tmps)=true) (hx:ev T x=some (.slice (some p) n c)) (hc:c≠0) (hd:Nat.blt d N=true)
  (k:∀ a',St N D w0 F G0 G L ((d,.pointer (some p)) :: T) a' w->WL r P ops Q rest a' w):WL r P ops Q (⟨some d,.call { callee:=.builtin .unsafeSliceData,args:=#[x],argTypes:=#[t] },ty,pos,aC,g⟩ :: rest) a w:=by
 refine bX (v:=.pointer (some p)) (w':=w) hw O ?_ (k _ (H.put hd _ H.hp))
 have h:=Lib.run_unsafeSliceData_row (P:=P) (w:=w) #[t] ty p n c hc
 simp [execOp,resolve,invoke,builtin,H.ev hx,bE,h]
theorem afv {w:World} {b n:Nat} {c:Array aj} {e:TypeId} {fz:Nat × Nat} (h:w.heap[b]?=some (.cells c e fz)) (hn:n≠0):∃ Bd,mZ b (.cells c e Bd) w (w.freeze ⟨b,0,none⟩ n):=by
 unfold World.freeze
 rw [aL hn]
 refine ⟨if fz.1 == fz.2 then (0,0+n) else (min fz.1 0,max fz.2 (0+n)),O,O,O,by simp,?_,fun k hk=>?_⟩
 ·simp [Array.getElem?_modify,h]
 ·simp [Array.getElem?_modify,Ne.symm hk]
theorem Ud {pt it e:TypeId} {x y:Operand} {b i:Nat} {cur:Array aj} {fz:Nat × Nat} (l:List UInt8) (hp:P.underlying pt=some (.pointer e)) (hc:P.cellsOf e=1) (h0:l≠[]) (h63:l.length<=9223372036854775807) (H:St N D w0 F G0 G L T a w)
  (hw:Region.wanted ⟨some d,.call { callee:=.builtin .unsafeString,args:=#[x,y],argTypes:=#[pt,it] },ty,pos,aC,g⟩ (yielded ops a.tmps)=true) (hx:ev T x=some (.pointer (some ⟨b,0,none⟩))) (hy:ev T y=some (.int .i64 (l.length:Int)))
  (hi:L[i]?=some (b,.cells cur e fz)) (hl:cur.toList.take l.length=Lib.byteCells l) (hd:Nat.blt d N=true)
  (k:∀ Bd a' w',St N D w0 F G0 G (L.set i (b,.cells cur e Bd)) ((d,.string ⟨l.toArray⟩) :: T) a' w'->WL r P ops Q rest a' w'):WL r P ops Q (⟨some d,.call { callee:=.builtin .unsafeString,args:=#[x,y],argTypes:=#[pt,it] },ty,pos,aC,g⟩ :: rest) a w:=by
 have hb:=H.hp.own _ (iU hi)
 simp only at hb
 have hlen:l.length<=cur.size:=by
  have:=ko List.length hl
  simp only [List.length_take,Lib.byteCells_length,Array.length_toList] at this
  omega
 obtain ⟨Bd,hu⟩:=afv (n:=l.length) hb (by simpa using h0)
 have h:=Lib.run_unsafeString_row (P:=P) w pt it ty e hp hc b cur.size (H.hp.shape hi) l h0 hlen h63 (fun j x hj=>by
  rw [add_lit,eP]
  simp only [World.cell?,hb]
  have h2:(cur.toList.take l.length)[j]?=some (.int .u8 x.toNat):=by rw [hl];simp [Lib.byteCells,hj]
  rw [oZ] at h2
  split at h2
  ·simpa using h2
  ·cases h2)
 refine bX (v:=.string ⟨l.toArray⟩) (w':=w.freeze ⟨b,0,none⟩ l.length) hw O ?_ (k Bd _ _ (H.put hd _ (H.hp.upd hi hu)))
 simp [execOp,resolve,invoke,builtin,H.ev hx,H.ev hy,bE,h]
theorem QD (sz n:Nat):∀ (css:List (List aj)) (k:Nat) (pre z:List aj),pre.length=k*sz->z.length=css.length*sz->(∀ c∈css,c.length=sz)->k+css.length=n ->
  qz ((List.range n).map fun i=>(i*sz,sz)) (pre++z) ((css.zipIdx k).map fun p=>(p.2,p.1))=some (pre++css.flatten)
 | [],k,pre,z,_,hz,_,_=>by
  have:z=[]:=List.eq_nil_of_length_eq_zero (by simpa using hz)
  subst this
  simp [qz]
 | c :: css,k,pre,z,hp,hz,hc,hn=>by
  have hcl:=hc c nP
  simp only [jB] at hz hn
  have hpl:((List.range n).map fun i=>(i*sz,sz))[k]?=some (k*sz,sz):=by
   rw [oD,List.getElem?_range V];rfl
  have hz1:z.length=sz+css.length*sz:=by rw [hz,Nat.add_mul,Nat.one_mul,Nat.add_comm]
  have hle:k*sz+c.length<=(pre++z).length:=by rw [gW,hp,hcl];omega
  have e1:Nat.beq c.length sz=true:=by rw [hcl];exact Nat.beq_refl sz
  have e2:Nat.ble (k*sz+c.length) (pre++z).length=true:=Eq.mpr Nat.ble_eq hle
  rw [List.zipIdx_cons,gV]
  simp only [qz,hpl,e1,e2,Bool.and_self,cond_true]
  have e3:setRow (pre++z) (k*sz) c=(pre++c)++z.drop sz:=by
   rw [Ug _ _ _ hle,<- hp,List.take_left' O,List.drop_append,List.drop_of_length_le V,uI,hcl]
   congr 2;omega
  rw [e3,QD sz n css (k+1) (pre++c) (z.drop sz) (by rw [gW,hp,hcl,Nat.succ_mul]) (by rw [List.length_drop];omega) (fun q hq=>hc q (List.mem_cons_of_mem _ hq)) V]
  simp
theorem wS {t e:TypeId} {sz bytes:Nat} {zero:List aj} {agg:Bool} (hs:P.underlying t=some (.slice e)) (ht:Ty P e sz bytes zero agg) {n:Nat} {xs:List (Nat × Operand)} {vs:List (Nat × aj)} (css:List (List aj)) (H:St N D w0 F G0 G L T a w) (hw:Region.wanted ⟨some d,.buildSlice t n xs.toArray,ty,pos,aC,g⟩ (yielded ops a.tmps)=true)
  (hx:pts T xs=some vs) (hv:vs.map (fun x=>(x.1,x.2.cells.toList))=(css.zipIdx 0).map fun p=>(p.2,p.1)) (hl:css.all (fun c=>Nat.beq c.length sz)=true) (hcn:Nat.beq css.length n=true) (hn:Nat.ble (n*sz) 1000=true) (hn0:Nat.beq (n*sz) 0=false) (hd:Nat.blt d N=true)
  (k:∀ b a' w',w0.heap.size<=b->St N D w0 F G0 G ((b,.cells css.flatten.toArray e (0,0)) :: L) ((d,.slice (some ⟨b,0,none⟩) n n) :: T) a' w'->WL r P ops Q rest a' w'):WL r P ops Q (⟨some d,.buildSlice t n xs.toArray,ty,pos,aC,g⟩ :: rest) a w:=by
 have hcn':css.length=n:=qY hcn
 refine eU (vs':=(css.zipIdx 0).map fun p=>(p.2,p.1)) hs ht ((List.range (n*sz)).map (fun i=>zero[i % zero.length]!)) css.flatten H hw hx hv hn hn0 O (fun i q h=>?_) ?_ hd k
 ·rw [oD] at h
  obtain ⟨j,hj,rfl⟩:=kR.1 h
  obtain ⟨h1,h2⟩:=fV.1 hj
  rw [List.getElem_range] at h2
  rw [h2]
 ·have h:=QD sz n css 0 [] ((List.range (n*sz)).map (fun i=>zero[i % zero.length]!)) (by simp) (by simp [hcn']) (fun c hc=>qY (fM.1 hl c hc)) V
  simpa using h
end
end
section
structure FM (P:Program) (s n off:Nat):Prop where
 h:(match P.underlying s with|some (.struct fs)=>(fs[n]?).bind fun f=>((P.underlying f.type).map (fun|.struct _=>true|.array _ _=>true|_=>false)).map fun g=>(f.offset,g)|_=>none)=some (off,false)
theorem FM.parts {P:Program} {s n off:Nat} (h:FM P s n off):∃ fs fl u,P.underlying s=some (.struct fs)∧fs[n]?=some fl∧P.underlying fl.type=some u∧(match u with|.struct _=>true|.array _ _=>true|_=>false)=false∧fl.offset=off:=by
 obtain ⟨h⟩:=h
 split at h
 ·rename_i fs hs
  obtain ⟨fl,hf,h2⟩:=Option.bind_eq_some_iff.1 h
  obtain ⟨b,hb,h3⟩:=kR.1 h2
  obtain ⟨u,hu,h4⟩:=kR.1 hb
  simp only [dX] at h3
  refine ⟨fs,fl,u,hs,hf,hu,?_,h3.1⟩
  rw [<- h3.2,<- h4]
  cases u <;> rfl
 ·cases h
def tY (s:ByteArray) (p:Nat):List aj:=if p < s.size then [.bool true,.int .i64 p,.int .i32 (Utf8.decode s p).1] else [.bool false]
def zu (s:ByteArray) (p:Nat):Nat:=if p < s.size then p+(Utf8.decode s p).2 else p
theorem acH {s:ByteArray} {p:Nat}:(tY s p)[0]?=some (.bool (decide (p < s.size))):=by
 unfold tY;split <;> simp_all
theorem S9 {s:ByteArray} {p:Nat} (h:p < s.size):tY s p=[.bool true,.int .i64 p,.int .i32 (Utf8.decode s p).1]:=aM h
theorem SY {s:ByteArray} {p:Nat} (h:p < s.size):zu s p=p+(Utf8.decode s p).2:=aM h
theorem XY (s:ByteArray) (p:Nat):1<=(Utf8.decode s p).2:=by
 simp only [Utf8.decode]
 repeat' split
 all_goals simp
def iY (s:ByteArray):Nat->Nat->List (Nat × Nat)
 | 0,_=>[]
 | f+1,p=>if p < s.size then (p,(Utf8.decode s p).1) :: iY s f (p+(Utf8.decode s p).2) else []
def eD (s:ByteArray):List (Nat × Nat):=iY s s.size 0
theorem zC (s:ByteArray):∀ f p,(iY s f p).length<=f
 | 0,_=>by simp [iY]
 | f+1,p=>by
  rw [iY];split
  ·rw [jB];have:=zC s f (p+(Utf8.decode s p).2);omega
  ·simp
theorem TN (s:ByteArray):∀ f p acc,Conv.runesFrom s f p acc=acc++((iY s f p).map fun x=>Value.int .i32 (x.2:Int)).toArray
 | 0,p,acc=>by simp [Conv.runesFrom,iY]
 | f+1,p,acc=>by
  rw [Conv.runesFrom,iY]
  split
  ·show Conv.runesFrom s f (p+(Utf8.decode s p).2) (acc.push (.int .i32 (Int.ofNat (Utf8.decode s p).1)))=_
   rw [TN s f];simp
  ·simp
section
variable {N:Nat} {D:List Deferred} {w0:World} {F:Nat->Prop} {G0 G:GH} {L Li Lo:OL} {T:List (Nat × aj)}
variable {r:Option Nat} {P:Program} {ops:Array Oper} {Q:Exit->Act->World->Prop} {rest:List Oper} {a:Act} {w:World}
variable {d:Nat} {ty:TypeId} {pos:String} {aC:Array Edge} {g:Option (Nat × Bool)}
theorem ER {t yt:TypeId} {x y:Operand} {p q:Int} (z:Int) (H:St N D w0 F G0 G L T a w) (hw:Region.wanted ⟨some d,.binOp .rem t x y yt,ty,pos,aC,g⟩ (yielded ops a.tmps)=true) (hx:ev T x=some (.int .i64 p)) (hy:ev T y=some (.int .i64 q)) (hq:¬ q=0) (hz:p.tmod q=z) (hd:Nat.blt d N=true)
  (k:∀ a',St N D w0 F G0 G L ((d,.int .i64 z) :: T) a' w->WL r P ops Q rest a' w):WL r P ops Q (⟨some d,.binOp .rem t x y yt,ty,pos,aC,g⟩ :: rest) a w:=by
 subst hz
 refine bX (v:=.int .i64 (p.tmod q)) (w':=w) hw O ?_ (k _ (H.put hd _ H.hp))
 simp [execOp,H.ev hx,H.ev hy,eqGuard,binOp,Op.intDiv,hq]
theorem aec {s:TypeId} {x:Operand} {n off:Nat} {cs:Array aj} {v:aj} (hs:FM P s n off) (H:St N D w0 F G0 G L T a w) (hw:Region.wanted ⟨some d,.field s x n,ty,pos,aC,g⟩ (yielded ops a.tmps)=true) (hx:ev T x=some (.agg cs)) (hv:cs[off]?=some v) (hd:Nat.blt d N=true)
  (k:∀ a',St N D w0 F G0 G L ((d,v) :: T) a' w->WL r P ops Q rest a' w):WL r P ops Q (⟨some d,.field s x n,ty,pos,aC,g⟩ :: rest) a w:=by
 obtain ⟨fs,fl,u,h1,h2,h3,h4,h5⟩:=hs.parts
 have ha:(isAgg fl.type).run P w=.ok false w:=by
  unfold isAgg
  simp only [bE,jK h3,gJ]
  cases u <;> simp_all
 refine bX (v:=v) (w':=w) hw O ?_ (k _ (H.put hd _ H.hp))
 subst h5
 simp [execOp,Instr.field,part,asAgg,bE,H.ev hx,jK h1,h2,ha,hv]
theorem adR {t:TypeId} {x:Operand} {s:ByteArray} (ht:P.underlying t=some .string) (H:St N D w0 F G0 G L T a w) (hw:Region.wanted ⟨some d,.range t x,ty,pos,aC,g⟩ (yielded ops a.tmps)=true) (hx:ev T x=some (.string s)) (hd:Nat.blt d N=true)
  (k:∀ b a' w',w0.heap.size<=b->St N D w0 F G0 G ((b,.stringIter s 0) :: L) ((d,.pointer (some ⟨b,0,none⟩)) :: T) a' w'->WL r P ops Q rest a' w'):WL r P ops Q (⟨some d,.range t x,ty,pos,aC,g⟩ :: rest) a w:=by
 refine bX (v:=.pointer (some ⟨w.heap.size,0,none⟩)) (w':=w.iter s 0) hw O ?_ (k _ _ _ H.hp.size (H.put hd _ (H.hp.alloc _)))
 simp only [execOp,H.ev hx,bE,run_range_string w t s ht,gJ,jC]
theorem afw {w:World} {b p p':Nat} {s:ByteArray} (h:w.heap[b]?=some (.stringIter s p)):mZ b (.stringIter s p') w (w.iterAt b s p'):=by
 have hlt:b < w.heap.size:=(Array.getElem?_eq_some_iff.1 h).1
 refine ⟨O,O,O,by simp [World.iterAt],by simp [World.iterAt,hlt],fun k hk=>?_⟩
 simp only [World.iterAt]
 rw [Array.getElem?_setIfInBounds_ne (Ne.symm hk)]
theorem adO {x:Operand} {s:ByteArray} {b p i:Nat} (H:St N D w0 F G0 G L T a w) (hw:Region.wanted ⟨some d,.next x true,ty,pos,aC,g⟩ (yielded ops a.tmps)=true) (hx:ev T x=some (.pointer (some ⟨b,0,none⟩))) (hi:L[i]?=some (b,.stringIter s p)) (hd:Nat.blt d N=true)
  (k:∀ a' w',St N D w0 F G0 G (L.set i (b,.stringIter s (zu s p))) ((d,.tuple (tY s p).toArray) :: T) a' w'->WL r P ops Q rest a' w'):WL r P ops Q (⟨some d,.next x true,ty,pos,aC,g⟩ :: rest) a w:=by
 have ho:w.heap[b]?=some (.stringIter s p):=H.hp.own _ (iU hi)
 by_cases h:p < s.size
 ·have k2:=k (a.put (some d) (.tuple (tY s p).toArray)) (w.iterAt b s (zu s p)) (H.put hd _ (H.hp.upd hi (afw ho)))
  refine bX (v:=.tuple (tY s p).toArray) (w':=w.iterAt b s (zu s p)) hw O ?_ k2
  rw [S9 h,SY h]
  simp only [execOp,H.ev hx,bE,Lib.run_next_any_at w b s p _ ho h,gJ,jC]
 ·have e:zu s p=p:=aL h
  have hs:L.set i (b,.stringIter s (zu s p))=L:=by
   rw [e];apply List.ext_getElem?;intro j
   rw [List.getElem?_set]
   split
   ·rename_i hij;subst hij
    split
    ·exact hi.symm
    ·rename_i hj;rw [List.getElem?_eq_none V]
   ·rfl
  have k2:=k (a.put (some d) (.tuple (tY s p).toArray)) w (by rw [hs];exact H.put hd _ H.hp)
  refine bX (v:=.tuple (tY s p).toArray) (w':=w) hw O ?_ k2
  rw [show tY s p=[.bool false] from aL h]
  simp only [execOp,H.ev hx,bE,Lib.run_next_end_at w b s p _ ho h,gJ,jC]
theorem adS {t u e:TypeId} {x:Operand} {s:ByteArray} (ht:P.underlying t=some .string) (hu:P.underlying u=some (.slice e)) (he:P.underlying e=some (.int .i32)) (H:St N D w0 F G0 G L T a w) (hw:Region.wanted ⟨some d,.convert t u x,ty,pos,aC,g⟩ (yielded ops a.tmps)=true) (hx:ev T x=some (.string s)) (hz:s.size<=4294967296) (hd:Nat.blt d N=true)
  (k:∀ v Lo a' w',aZ e 1 v (eD s).length ((eD s).map fun x=>Value.int .i32 (x.2:Int)) Lo->St N D w0 F G0 G (Lo++L) ((d,v) :: T) a' w'->WL r P ops Q rest a' w'):WL r P ops Q (⟨some d,.convert t u x,ty,pos,aC,g⟩ :: rest) a w:=by
 have hr:=TN s s.size 0 #[]
 have hl:=zC s s.size 0
 have hsz:(Conv.runesFrom s s.size 0 #[]).size=(eD s).length:=by rw [hr];simp [eD]
 have hc:=run_runes_of_string (P:=P) w t u e s ht hu he (by rw [hsz];unfold eD;omega)
 have hge:=grownCap_ge w (eD s).length 0 e
 have hml:(eD s).length<=maxLen:=by
  have:maxLen=9223372036854775807:=rfl
  unfold eD;omega
 rw [hsz] at hc
 have hrow:aZ e 1 (.slice (some ⟨w.heap.size,0,none⟩) (eD s).length (grownCap w (eD s).length 0 e)) (eD s).length ((eD s).map fun x=>Value.int .i32 (x.2:Int)) [(w.heap.size,.cells (Conv.runesFrom s s.size 0 #[]++Array.replicate (grownCap w (eD s).length 0 e - (eD s).length) (.int .i32 0)) e (0,0))]:=by
  refine ⟨by simp,.inr ⟨_,_,_,O,O,hge,grownCap_le_maxLen w _ 0 e hml,?_,?_⟩⟩
  ·simp only [Array.size_append,hsz,Array.size_replicate];omega
  ·rw [hr,Array.toList_append,Nat.mul_one]
   simp only [Array.empty_append,eD]
   rw [List.take_left' (by simp)]
 have k2:=k _ _ _ _ hrow (H.put hd _ (H.hp.drew.alloc _))
 refine bX (v:=.slice (some ⟨w.heap.size,0,none⟩) (eD s).length (grownCap w (eD s).length 0 e)) (w':=w.drew.alloc _) hw O ?_ k2
 simp only [execOp,H.ev hx,bE,hc,gJ,jC]
theorem adQ {t u e:TypeId} {x:Operand} {b o n c:Nat} (zs:List Int) (ht:P.underlying t=some (.slice e)) (he:P.underlying e=some (.int .i32)) (hu:P.underlying u=some .string) (H:St N D w0 F G0 G L T a w) (hw:Region.wanted ⟨some d,.convert t u x,ty,pos,aC,g⟩ (yielded ops a.tmps)=true) (hx:ev T x=some (.slice (some ⟨b,o,none⟩) n c)) (hn:zs.length=n)
  (hc:∀ j (h:j < zs.length),w.cell? ⟨b,o+j,none⟩=some (.int .i32 zs[j])) (hd:Nat.blt d N=true)
  (k:∀ a',St N D w0 F G0 G L ((d,.string (runesBytes zs)) :: T) a' w->WL r P ops Q rest a' w):WL r P ops Q (⟨some d,.convert t u x,ty,pos,aC,g⟩ :: rest) a w:=by
 have hr:=run_convert_runes (P:=P) w t u e ⟨b,o,none⟩ n c zs V ht he hu (fun j hj=>by
  have h:=hc j hj
  rw [List.getD_eq_getElem?_getD,gU hj,add_lit]
  exact h)
 rw [gX V] at hr
 refine bX (v:=.string (runesBytes zs)) (w':=w) hw O ?_ (k _ (H.put hd _ H.hp))
 simp only [execOp,H.ev hx,bE,hr,gJ,jC]
theorem Uc {t:TypeId} {x y z:Operand} {s:ByteArray} {ky kz:IntKind} {p q:Int} (lo hi:Nat) (ht:P.underlying t=some .string) (H:St N D w0 F G0 G L T a w) (hw:Region.wanted ⟨some d,.slice t x (some y) (some z) none,ty,pos,aC,g⟩ (yielded ops a.tmps)=true) (hx:ev T x=some (.string s)) (hy:ev T y=some (.int ky p)) (hz:ev T z=some (.int kz q)) (hp:p=(lo:Int)) (hq:q=(hi:Int)) (h1:lo<=hi) (h2:hi<=s.size) (hd:Nat.blt d N=true)
  (k:∀ a',St N D w0 F G0 G L ((d,.string (s.extract lo hi)) :: T) a' w->WL r P ops Q rest a' w):WL r P ops Q (⟨some d,.slice t x (some y) (some z) none,ty,pos,aC,g⟩ :: rest) a w:=by
 subst hp;subst hq
 have hr:=run_slice_string (P:=P) w t s ky kz (lo:Int) (hi:Int) ht V V V
 rw [Int.toNat_natCast,Int.toNat_natCast] at hr
 refine bX (v:=.string (s.extract lo hi)) (w':=w) hw O ?_ (k _ (H.put hd _ H.hp))
 simp only [execOp,H.ev hx,oF,Option.map_none,H.ev hy,H.ev hz,bE,run_sliceAt_string w t _ _ _ _ ht,hr,gJ,jC]
theorem Ub {t:TypeId} {x y:Operand} {s:ByteArray} {ky:IntKind} {p:Int} (lo:Nat) (ht:P.underlying t=some .string) (H:St N D w0 F G0 G L T a w) (hw:Region.wanted ⟨some d,.slice t x (some y) none none,ty,pos,aC,g⟩ (yielded ops a.tmps)=true) (hx:ev T x=some (.string s)) (hy:ev T y=some (.int ky p)) (hp:p=(lo:Int)) (h1:lo<=s.size) (hd:Nat.blt d N=true)
  (k:∀ a',St N D w0 F G0 G L ((d,.string (s.extract lo s.size)) :: T) a' w->WL r P ops Q rest a' w):WL r P ops Q (⟨some d,.slice t x (some y) none none,ty,pos,aC,g⟩ :: rest) a w:=by
 subst hp
 have hr:=run_slice_string_l (P:=P) w t s ht ky (lo:Int) V V
 rw [Int.toNat_natCast] at hr
 refine bX (v:=.string (s.extract lo s.size)) (w':=w) hw O ?_ (k _ (H.put hd _ H.hp))
 simp only [execOp,H.ev hx,oF,Option.map_none,H.ev hy,bE,run_sliceAt_string w t _ _ _ _ ht,hr,gJ,jC]
theorem adX {t e:TypeId} {sz bytes:Nat} {zero:List aj} {agg:Bool} (hs:P.underlying t=some (.slice e)) (ht:Ty P e sz bytes zero agg) {x y:Operand} {A:Option Addr} {n c:Nat} (lo:Nat) {p:Int} (H:St N D w0 F G0 G L T a w)
  (hw:Region.wanted ⟨some d,.slice t x (some y) none none,ty,pos,aC,g⟩ (yielded ops a.tmps)=true) (hx:ev T x=some (.slice A n c)) (hy:ev T y=some (.int .i64 p)) (hp:p=(lo:Int)) (h1:lo<=n) (hd:Nat.blt d N=true)
  (k:∀ a',St N D w0 F G0 G L ((d,.slice (if c=lo then A else A.map (·.add (lo*sz))) (n - lo) (c - lo)) :: T) a' w->WL r P ops Q rest a' w):WL r P ops Q (⟨some d,.slice t x (some y) none none,ty,pos,aC,g⟩ :: rest) a w:=by
 subst hp
 refine bX (v:=.slice (if c=lo then A else A.map (·.add (lo*sz))) (n - lo) (c - lo)) (w':=w) hw O ?_ (k _ (H.put hd _ H.hp))
 simp [execOp,H.ev hx,H.ev hy,Instr.sliceAt,Instr.slice,Instr.sliceBounds,Instr.sliceBound,bE,jK hs,ht.qO,asIntOf,h1]
theorem TR {t e:TypeId} {n sz bytes:Nat} {zero z:List aj} {agg:Bool} (hs:P.underlying t=some (.array n e)) (ht:Ty P e sz bytes zero agg) (hz:(P.info? t).map (fun i=>i.zero.map fun z=>z.cells.toList)=some (some z)) {xs:List (Nat × Operand)} {vs:List (Nat × aj)} {vs':List (Nat × List aj)} (cs:List aj) (H:St N D w0 F G0 G L T a w) (hw:Region.wanted ⟨some d,.build t xs.toArray,ty,pos,aC,g⟩ (yielded ops a.tmps)=true)
  (hx:pts T xs=some vs) (hv:vs.map (fun x=>(x.1,x.2.cells.toList))=vs') (hpl:∀ i q,((List.range n).map fun i=>(i*sz,sz))[i]?=some q->(some (i*sz,sz):Option (Nat × Nat))=some q) (hf:qz ((List.range n).map fun i=>(i*sz,sz)) z vs'=some cs) (hd:Nat.blt d N=true)
  (k:∀ a',St N D w0 F G0 G L ((d,.agg cs.toArray) :: T) a' w->WL r P ops Q rest a' w):WL r P ops Q (⟨some d,.build t xs.toArray,ty,pos,aC,g⟩ :: rest) a w:=by
 refine bX (v:=.agg cs.toArray) (w':=w) hw O ?_ (k _ (H.put hd _ H.hp))
 obtain ⟨i,hi,hi2⟩:=kR.1 hz
 obtain ⟨z0,hz0,hz1⟩:=kR.1 hi2
 have hzv:(zeroValue t).run P w=.ok z0 w:=by simp [zeroValue,bE,wR hi,hz0]
 have hzc:z0.cells=z.toArray:=by rw [<- hz1]
 have Bl:=fill_eq (fun i=>some (i*sz,sz)) _ hpl vs vs' z cs hv hf
 simp only [execOp,List.map_toArray,H.pts hx,Instr.build,bE,hzv,jK hs,gJ,ht.qO,hzc,Bl,jC]
end
end
theorem DJ {s:ByteArray} {a n:Nat}:∀ (f k:Nat) (low high p:Int),(jN s a n f k low high p).2.2=true->k<=n->n<=k+f ->
  (jN s a n f k low high p).2.1=n∧∀ j,k<=j->j < n->a+j < s.size∧(if j=k then low<=dZ s (a+j)∧dZ s (a+j)<=high else 128<=dZ s (a+j)∧dZ s (a+j)<=191)
 | 0,k,low,high,p,_,h1,h2=>by
  have hk:k=n:=by omega
  subst hk;exact ⟨by rw [jN],fun j hj hj2=>by omega⟩
 | f+1,k,low,high,p,h,h1,h2=>by
  rw [jN] at h |-
  by_cases hn:n<=k
  ·rw [aM hn];exact ⟨by dsimp only;omega,fun j hj hj2=>by omega⟩
  rw [aL hn] at h |-
  by_cases hb:s.size<=a+k∨dZ s (a+k) < low∨high < dZ s (a+k)
  ·rw [aM hb] at h;cases h
  rw [aL hb] at h |-;obtain ⟨e1,e2⟩:=DJ f (k+1) 128 191 _ h V V;refine ⟨e1,fun j hj hj2=>?_⟩
  by_cases hjk:j=k
  ·subst hjk;rw [aM O];omega
  rw [aL hjk];have:=e2 j V hj2
  split at this
  ·omega
  exact this
theorem vR {s:ByteArray} {i:Nat} (h:i < s.size):dZ s i=((s.get! i).toNat:Int):=by
 have e:s.get! i=s[i]:=by
  unfold ByteArray.get!
  exact getElem!_pos s.data i h
 rw [oG h,e]
theorem tC {s:ByteArray} {i:Nat} (hi:i < s.size) (h:(dP s i).2.2=true):(Utf8.decode s i).2=(dP s i).2.1∧¬ ((Utf8.decode s i).1=65533∧(Utf8.decode s i).2=1) ∧
  (∀ j,0 < j->j < (dP s i).2.1->i+j < s.size∧128<=dZ s (i+j)∧dZ s (i+j)<=191)∧¬ (128<=dZ s i∧dZ s i<=191):=by
 have hb:=vR hi;have hlt:(s.get! i).toNat < 256:=(s.get! i).toNat_lt;obtain ⟨B,hB⟩:∃ B,B=(s.get! i).toNat:=⟨_,O⟩;rw [<- hB] at hb hlt
 unfold dP at h |-
 simp only at h |-
 have ht:fC (dZ s i)=fC (B:Int):=by rw [hb]
 rw [ht] at h |-
 by_cases c1:B < 128
 ·have e3:(fC (B:Int)).2.2=1:=by simp only [fC];rw [iw]
  rw [dh,aM e3]
  have hd:Utf8.decode s i=(B,1):=by
   unfold Utf8.decode
   simp only [qm,<- hB]
   rw [iw]
  rw [hd];exact ⟨O,by simp;omega,fun j h1 h2=>by simp at h2;omega,V⟩
 by_cases c2:B < 194∨244 < B
 ·have e3:(fC (B:Int)).2.2=0:=by simp only [fC];rw [dh,iw]
  rw [aM e3] at h;cases h
 by_cases c3:B < 224
 ·have e3:(fC (B:Int)).2.2=2:=by simp only [fC];rw [dh,dh,iw]
  have e1:(fC (B:Int)).1=128∧(fC (B:Int)).2.1=191:=by simp only [fC];refine ⟨?_,?_⟩ <;> (rw [dh,dh])
  rw [dh,dh,e3,e1.1,e1.2] at h |-;obtain ⟨q1,q2⟩:=DJ _ _ _ _ _ h Y Y;have b1:=q2 1 Y Y;rw [aM O] at b1;have g1:=vR b1.1;obtain ⟨B1,hB1⟩:∃ B1,B1=(s.get! (i+1)).toNat:=⟨_,O⟩;rw [<- hB1] at g1;rw [q1]
  have hd:Utf8.decode s i=((B % 32)*64+B1 % 64,2):=by
   unfold Utf8.decode
   simp only [qm,<- hB,<- hB1]
   rw [dh,aM (by simp [b1.1];omega),iw]
  rw [hd];refine ⟨O,by simp,fun j h1 h2=>?_,V⟩
  obtain rfl:j=1:=by have:j < 2:=h2;omega
  exact ⟨b1.1,b1.2⟩
 by_cases c4:B < 240
 ·have e3:(fC (B:Int)).2.2=3:=by simp only [fC];rw [dh,dh,dh,iw]
  have e1:128<=(fC (B:Int)).1∧(fC (B:Int)).2.1<=191∧(B=224->(fC (B:Int)).1=160)∧(B=237->(fC (B:Int)).2.1=159):=by
   simp only [fC]
   refine ⟨?_,?_,fun e=>?_,fun e=>?_⟩
   ·split
    ·omega
    split <;> omega
   ·split
    ·omega
    split <;> omega
   ·rw [iw]
   rw [iw]
  obtain ⟨lo,hlo⟩:∃ x,x=(fC (B:Int)).1:=⟨_,O⟩;obtain ⟨hi',hhi⟩:∃ x,x=(fC (B:Int)).2.1:=⟨_,O⟩;rw [dh,dh,e3,<- hlo,<- hhi] at h |-;rw [<- hlo,<- hhi] at e1;obtain ⟨q1,q2⟩:=DJ _ _ _ _ _ h Y Y;have b1:=q2 1 Y Y;have b2:=q2 2 Y Y;rw [aM O] at b1;rw [aL Y] at b2;have g1:=vR b1.1;have g2:=vR b2.1;obtain ⟨B1,hB1⟩:∃ B1,B1=(s.get! (i+1)).toNat:=⟨_,O⟩;obtain ⟨B2,hB2⟩:∃ B2,B2=(s.get! (i+2)).toNat:=⟨_,O⟩;rw [<- hB1] at g1;rw [<- hB2] at g2;rw [q1]
  have hv:Utf8.valid (((B % 16)*4096+(B1 % 64)*64+B2 % 64:Nat):Int)=true:=by
   simp only [Utf8.valid,Bool.or_eq_true,gq,gG]
   have agx:=e1.2.2.2
   omega
  have hd:Utf8.decode s i=((B % 16)*4096+(B1 % 64)*64+B2 % 64,3):=by
   unfold Utf8.decode
   simp only [qm,<- hB,<- hB1,<- hB2]
   have agw:=e1.2.2.1;rw [dh,aL (by simp;omega),aM (by simp [b1.1,b2.1];omega),aM (by simp only [gq,gG];exact ⟨V,hv⟩)]
  rw [hd];refine ⟨O,by simp,fun j h1 h2=>?_,V⟩;have h2':j < 3:=h2
  rcases (show j=1∨j=2 by omega) with rfl|rfl
  ·exact ⟨b1.1,V,V⟩
  exact ⟨b2.1,b2.2⟩
 have e3:(fC (B:Int)).2.2=4:=by simp only [fC];rw [dh,dh,dh,dh]
 have e1:128<=(fC (B:Int)).1∧(fC (B:Int)).2.1<=191∧(B=240->(fC (B:Int)).1=144)∧(B=244->(fC (B:Int)).2.1=143):=by
  simp only [fC]
  refine ⟨?_,?_,fun e=>?_,fun e=>?_⟩
  ·split
   ·omega
   split <;> omega
  ·split
   ·omega
   split <;> omega
  ·rw [dh,iw]
  rw [dh,iw]
 obtain ⟨lo,hlo⟩:∃ x,x=(fC (B:Int)).1:=⟨_,O⟩;obtain ⟨hi',hhi⟩:∃ x,x=(fC (B:Int)).2.1:=⟨_,O⟩;rw [dh,dh,e3,<- hlo,<- hhi] at h |-;rw [<- hlo,<- hhi] at e1;obtain ⟨q1,q2⟩:=DJ _ _ _ _ _ h Y Y;have b1:=q2 1 Y Y;have b2:=q2 2 Y Y;have b3:=q2 3 Y Y;rw [aM O] at b1;rw [aL Y] at b2 b3;have g1:=vR b1.1;have g2:=vR b2.1;have g3:=vR b3.1;obtain ⟨B1,hB1⟩:∃ B1,B1=(s.get! (i+1)).toNat:=⟨_,O⟩;obtain ⟨B2,hB2⟩:∃ B2,B2=(s.get! (i+2)).toNat:=⟨_,O⟩;obtain ⟨B3,hB3⟩:∃ B3,B3=(s.get! (i+3)).toNat:=⟨_,O⟩;rw [<- hB1] at g1;rw [<- hB2] at g2;rw [<- hB3] at g3;rw [q1];have agy:=e1.2.2.1;have agz:=e1.2.2.2
 have hv:Utf8.valid (((B % 8)*262144+(B1 % 64)*4096+(B2 % 64)*64+B3 % 64:Nat):Int)=true:=by
  simp only [Utf8.valid,Bool.or_eq_true,gq,gG]
  omega
 have hd:Utf8.decode s i=((B % 8)*262144+(B1 % 64)*4096+(B2 % 64)*64+B3 % 64,4):=by
  unfold Utf8.decode
  simp only [qm,<- hB,<- hB1,<- hB2,<- hB3]
  rw [dh,aL (by simp;omega),aL (by simp;omega),aM (by simp [b1.1,b2.1,b3.1];omega),aM (by simp only [gq,gG];exact ⟨V,hv⟩)]
 rw [hd];refine ⟨O,by simp,fun j h1 h2=>?_,V⟩;have h2':j < 4:=h2
 rcases (show j=1∨j=2∨j=3 by omega) with rfl|rfl|rfl
 ·exact ⟨b1.1,V,V⟩
 ·exact ⟨b2.1,b2.2⟩
 exact ⟨b3.1,b3.2⟩
theorem nL {s:ByteArray} {i:Nat} (h:eH s i < 0) (hi:i < s.size):(dP s i).2.2=true∧eH s (i+(dP s i).2.1) < 0:=by
 rw [eH,dif_pos hi] at h
 split at h
 ·rename_i h2;exact ⟨h2,h⟩
 omega
theorem uQ {s:ByteArray} {i:Nat} (h:eH s i < 0) (hi:i < s.size):0 < (dP s i).2.1∧i+(dP s i).2.1<=s.size:=by
 have h1:=(nL h hi).1;have h2:=(yj s i hi).2 h1
 omega
theorem OO {p:Prop} (h:p:=by
 intro e;have:=ko List.length e;rw [List.length_drop,<- Go.Lib.size_eq] at this
 simp at this;omega):p:=h
theorem Vb {s:ByteArray}:∀ (q i:Nat),s.size - i<=q->eH s i < 0->Go.Lib.validD (s.data.toList.drop i)=true
 | 0,i,hq,_=>by
  rw [List.drop_eq_nil_of_le (by have:=Go.Lib.size_eq s;omega)];rfl
 | q+1,i,hq,h=>by
  by_cases hi:i < s.size
  ·have hne:s.data.toList.drop i≠[]:=by
    exact OO
   have hs:=nL h hi;have hd:=uQ h hi;have he:=tC hi hs.1;rw [Go.Lib.validD_step _ hne,Go.Lib.decodeL_drop,aL he.2.1,List.drop_drop,he.1];exact Vb q (i+(dP s i).2.1) V hs.2
  rw [List.drop_eq_nil_of_le (by have:=Go.Lib.size_eq s;omega)];rfl
theorem Ca {s:ByteArray} {f i:Nat} (hf:s.size - i<=f) (hi:i < s.size):iY s f i=(i,(Utf8.decode s i).1) :: iY s (f - 1) (i+(Utf8.decode s i).2):=by
 match f,hf with
 | 0,hf=>omega
 | f+1,_=>rw [iY,aM hi];rfl
theorem wQ {s:ByteArray} {f i:Nat} (hi:¬ i < s.size):iY s f i=[]:=by
 match f with
 | 0=>rfl
 | f+1=>rw [iY,aL hi]
def oL (s:ByteArray) (i:Nat):Bool:=decide (¬ (128<=dZ s i∧dZ s i<=191))
theorem ZH {s:ByteArray} {i n:Nat} (h0:oL s i=true) (h1:∀ j,0 < j->j < n->oL s (i+j)=false) (hn:0 < n):(List.range' i n).filter (oL s)=[i]:=by
 obtain ⟨k,rfl⟩:∃ k,n=k+1:=⟨n - 1,V⟩;rw [List.range'_succ,List.filter_cons,aM h0]
 have:(List.range' (i+1) k).filter (oL s)=[]:=by
  rw [List.filter_eq_nil_iff];intro a ha;rw [List.mem_range'_1] at ha;have:=h1 (a - i) V V;rw [show i+(a - i)=a by omega] at this
  simp [this]
 rw [this]
theorem Mc {s:ByteArray}:∀ (q i f:Nat),s.size - i<=q->s.size - i<=f->eH s i < 0->i<=s.size->(List.range' i (s.size - i)).filter (oL s)=(iY s f i).map (·.1)
 | 0,i,f,hq,_,_,_=>by rw [wQ V,show s.size - i=0 by omega];rfl
 | q+1,i,f,hq,hf,h,hle=>by
  by_cases hi:i < s.size
  ·have hs:=nL h hi;have hd:=uQ h hi;have he:=tC hi hs.1;obtain ⟨n,hn⟩:∃ n,n=(dP s i).2.1:=⟨_,O⟩;rw [<- hn] at hs hd he;rw [Ca hf hi,gV,he.1,<- Mc q (i+n) (f - 1) V V hs.2 V];rw [show s.size - i=n+(s.size - (i+n)) by omega,<- List.range'_append_1,List.filter_append]
   rw [ZH (by simp only [oL,gG];exact he.2.2.2) (fun j h1 h2=>by
    have:=he.2.2.1 j h1 h2
    simp only [oL,ng,xO];exact this.2) hd.1]
   rfl
  rw [wQ V,show s.size - i=0 by omega];rfl
def Ey (s:ByteArray):List Nat:=(eD s).map (·.1)++[s.size]
def rz (s:ByteArray):List Nat:=(List.range s.size).filter (oL s)++[s.size]
theorem Ma {s:ByteArray} (hv:dW s=true):rz s=Ey s:=by
 have hf:eH s 0 < 0:=by simpa [dW] using hv
 rw [rz,Ey,eD,<- Mc _ 0 s.size (aV _) V hf (dO _),List.range_eq_range']
 rfl
theorem Zj (r:Nat):(Utf8.encode (r:Int)).data.toList=Go.Lib.encodeRune (r:Int):=by
 have big:∀ x:Nat,(x:Int).toNat=x:=fun x=>Int.toNat_natCast x
 unfold Utf8.encode Go.Lib.encodeRune
 simp only
 by_cases c1:r<=127
 ·have hv:Utf8.valid (r:Int)=true:=by simp only [Utf8.valid,Bool.or_eq_true,gq,gG];omega
  rw [aM hv,Go.Lib.encodeRuneZ_one V V,big,iw]
  rfl
 by_cases c2:r<=2047
 ·have hv:Utf8.valid (r:Int)=true:=by simp only [Utf8.valid,Bool.or_eq_true,gq,gG];omega
  rw [aM hv,Go.Lib.encodeRuneZ_two V V,big,dh,iw]
  simp only [gV,sM]
  rw [show (192+(r:Int) / 64).toNat=192+r / 64 by omega,show (128+(r:Int) % 64).toNat=128+r % 64 by omega]
 by_cases c3:r<=65535∧¬ (55296<=r∧r<=57343)
 ·have hv:Utf8.valid (r:Int)=true:=by simp only [Utf8.valid,Bool.or_eq_true,gq,gG];omega
  rw [aM hv,Go.Lib.encodeRuneZ_three V,big,dh,dh,iw]
  simp only [gV,sM]
  rw [show (224+(r:Int) / 4096).toNat=224+r / 4096 by omega,show (128+(r:Int) / 64 % 64).toNat=128+r / 64 % 64 by omega,show (128+(r:Int) % 64).toNat=128+r % 64 by omega]
 by_cases c4:65536<=r∧r<=1114111
 ·have hv:Utf8.valid (r:Int)=true:=by simp only [Utf8.valid,Bool.or_eq_true,gq,gG];omega
  rw [aM hv,Go.Lib.encodeRuneZ_four V V,big,dh,dh,dh]
  simp only [gV,sM]
  rw [show (240+(r:Int) / 262144).toNat=240+r / 262144 by omega,show (128+(r:Int) / 4096 % 64).toNat=128+r / 4096 % 64 by omega,show (128+(r:Int) / 64 % 64).toNat=128+r / 64 % 64 by omega,show (128+(r:Int) % 64).toNat=128+r % 64 by omega]
 have hv:¬ Utf8.valid (r:Int)=true:=by simp only [Utf8.valid,Bool.or_eq_true,gq,gG];omega
 rw [aL hv,Go.Lib.encodeRuneZ_bad V]
 decide
theorem Zi {s:ByteArray} {i:Nat} (h:eH s i < 0) (hi:i < s.size):(Utf8.encode ((Utf8.decode s i).1:Int)).data.toList=(s.data.toList.drop i).take (Utf8.decode s i).2:=by
 have hne:s.data.toList.drop i≠[]:=by
  exact OO
 have he:=tC hi (nL h hi).1;have h1:=Go.Lib.encode_decode _ hne (by rw [Go.Lib.decodeL_drop];exact he.2.1);rw [Go.Lib.decodeL_drop] at h1;rw [<- h1,Zj]
theorem TP:∀ (ns:List Int) (b:ByteArray),(ns.foldl (fun r n=>r++Utf8.encode n) b).data.toList=b.data.toList++ns.flatMap fun n=>(Utf8.encode n).data.toList
 | [],b=>by simp
 | n :: ns,b=>by
  rw [List.foldl_cons,TP ns]
  simp [ByteArray.data_append]
theorem adu (ns:List Int):(runesBytes ns).data.toList=ns.flatMap fun n=>(Utf8.encode n).data.toList:=by
 rw [runesBytes,TP];rfl
def eG (s:ByteArray):Nat->Nat->Nat
 | i,0=>i
 | i,j+1=>if i < s.size then eG s (i+(Utf8.decode s i).2) j else i
theorem xL {s:ByteArray}:∀ (j i:Nat),eH s i < 0->i<=s.size->i<=eG s i j∧eG s i j<=s.size
 | 0,i,_,h=>⟨aV _,h⟩
 | j+1,i,hf,h=>by
  rw [eG]
  split
  ·rename_i hi
   have hd:=uQ hf hi;have he:=tC hi (nL hf hi).1;have:=xL j (i+(Utf8.decode s i).2) (by rw [he.1];exact (nL hf hi).2) V
   omega
  omega
theorem LY {s:ByteArray}:∀ (j i f:Nat),s.size - i<=f->eH s i < 0->i<=s.size->j<=(iY s f i).length->((iY s f i).map (·.1)++[s.size])[j]?=some (eG s i j)
 | j,i,f,hf,h,hle,hj=>by
  by_cases hi:i < s.size
  ·have hd:=uQ h hi;have he:=tC hi (nL h hi).1;rw [Ca hf hi] at hj |-
   cases j with
   | zero=>rfl
   | succ j =>
    rw [eG,aM hi,gV,lJ,List.getElem?_cons_succ];exact LY j (i+(Utf8.decode s i).2) (f - 1) V (by rw [he.1];exact (nL h hi).2) V (by simpa using hj)
  rw [wQ hi] at hj |-
  simp at hj;subst hj
  have:i=s.size:=by omega
  simp [eG,this]
theorem U7 {s:ByteArray}:∀ (j i f:Nat),s.size - i<=f->eH s i < 0->i<=s.size->(((iY s f i).take j).map fun x=>(x.2:Int)).flatMap (fun n=>(Utf8.encode n).data.toList)=(s.data.toList.drop i).take (eG s i j - i)
 | 0,i,f,_,_,_=>by simp [eG]
 | j+1,i,f,hf,h,hle=>by
  by_cases hi:i < s.size
  ·have hd:=uQ h hi;have he:=tC hi (nL h hi).1
   have hs2:eH s (i+(Utf8.decode s i).2) < 0:=by rw [he.1];exact (nL h hi).2
   have ha:=xL j (i+(Utf8.decode s i).2) hs2 V;rw [Ca hf hi,List.take_succ_cons,gV,List.flatMap_cons,Zi h hi,U7 j (i+(Utf8.decode s i).2) (f - 1) V hs2 V,eG,aM hi,<- List.drop_drop,<- List.take_add]
   congr 1;omega
  rw [wQ hi,eG,aL hi];simp
theorem Tx {s:ByteArray}:∀ (u i f:Nat),s.size - i<=f->eH s i < 0->i<=s.size->∃ g,s.size - eG s i u<=g∧(iY s f i).drop u=iY s g (eG s i u)
 | 0,i,f,hf,_,_=>⟨f,hf,O⟩
 | u+1,i,f,hf,h,hle=>by
  by_cases hi:i < s.size
  ·have hd:=uQ h hi;have he:=tC hi (nL h hi).1;rw [Ca hf hi,eG,aM hi,List.drop_succ_cons];exact Tx u (i+(Utf8.decode s i).2) (f - 1) V (by rw [he.1];exact (nL h hi).2) V
  rw [wQ hi,eG,aL hi];exact ⟨0,V,by simp [iY]⟩
theorem FQ {s:ByteArray}:∀ (u i:Nat),eH s i < 0->i<=s.size->eH s (eG s i u) < 0
 | 0,i,h,_=>h
 | u+1,i,h,hle=>by
  rw [eG];split
  ·rename_i hi
   have hd:=uQ h hi;have he:=tC hi (nL h hi).1;exact FQ u _ (by rw [he.1];exact (nL h hi).2) V
  exact h
theorem FP {s:ByteArray}:∀ (u i v:Nat),eG s i (u+v)=eG s (eG s i u) v
 | 0,i,v=>by rw [eP];rfl
 | u+1,i,v=>by
  rw [show u+1+v=(u+v)+1 by omega,eG,eG]
  split
  ·exact FP u _ v
  rename_i hi
  cases v with
  | zero=>rfl
  | succ v=>rw [eG,aL hi]
theorem Zr (s:ByteArray) (a b:Nat):(s.extract a b).data.toList=(s.data.toList.drop a).take (b - a):=by
 simp [ByteArray.data_extract]
theorem afu {s:ByteArray} (hv:dW s=true) {u v:Nat} (huv:u<=v):runesBytes ((((eD s).map fun x=>(x.2:Int)).drop u).take (v - u))=s.extract (eG s 0 u) (eG s 0 v):=by
 have hf:eH s 0 < 0:=by simpa [dW] using hv
 obtain ⟨g,hg,e⟩:=Tx u 0 s.size V hf (dO _);have ha:=xL u 0 hf (dO _);have hok:=FQ u 0 hf (dO _);have h1:=U7 (v - u) (eG s 0 u) g hg hok ha.2;rw [<- FP,show u+(v - u)=v by omega] at h1
 have h2:(runesBytes ((((eD s).map fun x=>(x.2:Int)).drop u).take (v - u))).data.toList=(s.extract (eG s 0 u) (eG s 0 v)).data.toList:=by
  rw [adu,<- List.map_drop,<- List.map_take,eD,e,h1,Zr]
 exact ByteArray.ext (Array.ext' h2)
theorem Td {s:ByteArray} (hv:dW s=true) {u:Nat} (hu:u<=(eD s).length):(Ey s)[u]?=some (eG s 0 u):=by
 have hf:eH s 0 < 0:=by simpa [dW] using hv
 exact LY u 0 s.size V hf (dO _) hu
section
section
variable {N:Nat} {D:List Deferred} {w0:World} {F:Nat->Prop} {G0 G:GH} {L Li Lo:OL} {T:List (Nat × aj)}
variable {r:Option Nat} {P:Program} {ops:Array Oper} {Q:Exit->Act->World->Prop} {rest:List Oper} {a:Act} {w:World}
variable {d:Nat} {ty:TypeId} {pos:String} {aC:Array Edge} {g:Option (Nat × Bool)}
theorem adL {x y z:Operand} {t t' t'':TypeId} {kd:IntKind} {p q s:Int} (H:St N D w0 F G0 G L T a w) (hw:Region.wanted ⟨some d,.call { callee:=.builtin .max,args:=#[x,y,z],argTypes:=#[t,t',t''] },ty,pos,aC,g⟩ (yielded ops a.tmps)=true) (hx:ev T x=some (.int kd p)) (hy:ev T y=some (.int kd q)) (hz:ev T z=some (.int kd s)) (hd:Nat.blt d N=true)
  (k:∀ a',St N D w0 F G0 G L ((d,.int kd (max (max p q) s)) :: T) a' w->WL r P ops Q rest a' w):WL r P ops Q (⟨some d,.call { callee:=.builtin .max,args:=#[x,y,z],argTypes:=#[t,t',t''] },ty,pos,aC,g⟩ :: rest) a w:=by
 refine bX (v:=.int kd (max (max p q) s)) (w':=w) hw O ?_ (k _ (H.put hd _ H.hp))
 have e:∀ p q:Int,(if q > p then q else p)=max p q:=by intro p q;omega
 simp [execOp,resolve,invoke,builtin,Builtin.max_,Builtin.max2,H.ev hx,H.ev hy,H.ev hz,bE,e]
theorem aco (z:aj) (n:Nat):madeCells #[z] n=(List.replicate n z).toArray:=by
 apply Array.ext
 ·simp [madeCells]
 ·intro i h1 h2
  simp [madeCells,Nat.mod_one]
theorem lW {t e:TypeId} {z:aj} {bytes:Nat} {x y:Operand} {p:Int} (n:Nat) (hs:P.underlying t=some (.slice e)) (ht:Ty P e 1 bytes [z] false) (H:St N D w0 F G0 G L T a w) (hw:Region.wanted ⟨some d,.makeSlice t x y,ty,pos,aC,g⟩ (yielded ops a.tmps)=true)
  (hx:ev T x=some (.int .i64 p)) (hy:ev T y=some (.int .i64 p)) (hp:p=(n:Int)) (hb:bytes*n<=281474976710656) (h63:n<=9223372036854775807) (hd:Nat.blt d N=true)
  (k:∀ b a' w',w0.heap.size<=b->St N D w0 F G0 G ((b,.cells (List.replicate n z).toArray e (0,0)) :: L) ((d,.slice (some ⟨b,0,none⟩) n n) :: T) a' w'->WL r P ops Q rest a' w'):WL r P ops Q (⟨some d,.makeSlice t x y,ty,pos,aC,g⟩ :: rest) a w:=by
 obtain ⟨i,z0,hi,hi1,hi2,hi3,hi4⟩:=ht.parts
 subst hp
 have hz:z0.cells=#[z]:=by rw [hi4]
 have hb':(i.bytes:Int)*(n:Int)<=281474976710656:=by
  rw [hi2,<- Int.natCast_mul];omega
 have hr:=run_make (P:=P) w t e i z0 hs hi hi3 .i64 .i64 (n:Int) (n:Int) V (Int.le_refl _) hb' V
 rw [hi1,hz,Nat.mul_one,Int.toNat_natCast,aco] at hr
 refine bX (v:=.slice (some ⟨w.heap.size,0,none⟩) n n) (w':=w.alloc (.cells (List.replicate n z).toArray e (0,0))) hw O ?_ (k _ _ _ H.hp.size (H.put hd _ (H.hp.alloc _)))
 simp only [execOp,H.ev hx,H.ev hy,bE,hr,gJ,jC]
theorem mQ {t e:TypeId} {n sz bytes:Nat} {zero:List aj} {agg:Bool} (hs:P.underlying t=some (.array n e)) (ht:Ty P e sz bytes zero agg) {x y:Operand} {b o:Nat} {kd:IntKind} {z:Int} (i:Nat) (H:St N D w0 F G0 G L T a w) (hw:Region.wanted ⟨some d,.indexAddr t x y,ty,pos,aC,g⟩ (yielded ops a.tmps)=true)
  (hx:ev T x=some (.pointer (some ⟨b,o,none⟩))) (hy:ev T y=some (.int kd z)) (hz:z=(i:Int)) (hn:i < n) (hd:Nat.blt d N=true)
  (k:∀ a',St N D w0 F G0 G L ((d,.pointer (some ⟨b,o+i*sz,none⟩)) :: T) a' w->WL r P ops Q rest a' w):WL r P ops Q (⟨some d,.indexAddr t x y,ty,pos,aC,g⟩ :: rest) a w:=by
 subst hz
 refine bX (v:=.pointer (some ⟨b,o+i*sz,none⟩)) (w':=w) hw O ?_ (k _ (H.put hd _ H.hp))
 have hr:(0:Int)<=i∧(i:Int) < (n:Int):=by omega
 simp only [execOp,Instr.indexAt,asIntOf,bE,H.ev hx,H.ev hy,jK hs,gJ,jC,Instr.sureAddr,aM hr,ht.qO,add_lit,Int.toNat_natCast]
theorem TS {x:Operand} {t e:TypeId} {A:Option Addr} {n c:Nat} (hs:P.underlying t=some (.slice e)) (H:St N D w0 F G0 G L T a w) (hw:Region.wanted ⟨some d,.call { callee:=.builtin .cap,args:=#[x],argTypes:=#[t] },ty,pos,aC,g⟩ (yielded ops a.tmps)=true) (hx:ev T x=some (.slice A n c)) (hd:Nat.blt d N=true)
  (k:∀ a',St N D w0 F G0 G L ((d,.int .i64 c) :: T) a' w->WL r P ops Q rest a' w):WL r P ops Q (⟨some d,.call { callee:=.builtin .cap,args:=#[x],argTypes:=#[t] },ty,pos,aC,g⟩ :: rest) a w :=
 bX (v:=.int .i64 c) (w':=w) hw O (by simp [execOp,resolve,invoke,builtin,Builtin.cap_,H.ev hx,bE,jK hs,goInt]) (k _ (H.put hd _ H.hp))
theorem Ua {t e:TypeId} {sz bytes:Nat} {zero:List aj} {agg:Bool} (hs:P.underlying t=some (.slice e)) (ht:Ty P e sz bytes zero agg) {x z:Operand} {A:Option Addr} {n c:Nat} (hi:Nat) {q:Int} (H:St N D w0 F G0 G L T a w)
  (hw:Region.wanted ⟨some d,.slice t x none (some z) none,ty,pos,aC,g⟩ (yielded ops a.tmps)=true) (hx:ev T x=some (.slice A n c)) (hz:ev T z=some (.int .i64 q)) (hq:q=(hi:Int)) (h2:hi<=c) (hd:Nat.blt d N=true)
  (k:∀ a',St N D w0 F G0 G L ((d,.slice A hi c) :: T) a' w->WL r P ops Q rest a' w):WL r P ops Q (⟨some d,.slice t x none (some z) none,ty,pos,aC,g⟩ :: rest) a w:=by
 subst hq
 refine bX (v:=.slice A hi c) (w':=w) hw O ?_ (k _ (H.put hd _ H.hp))
 simp [execOp,H.ev hx,H.ev hz,Instr.sliceAt,Instr.slice,Instr.sliceBounds,Instr.sliceBound,bE,jK hs,ht.qO,asIntOf,h2]
 intro _
 cases A with
 | none=>rfl
 | some p=>simp [Addr.add]
theorem adn {w:World} (t u ty e:TypeId) (i:TypeInfo) (z:aj) (hs:P.underlying t=some (.slice e)) (hu:P.underlying u=some (.int .i64)) (hi:P.info? e=some i) (hz:i.zero=some z) (n:Nat) (hn:0 < n) (hsz:0 < i.size) (h63:(n:Int)<=9223372036854775807) (h48:n*i.bytes<=281474976710656) :
  (Builtin.append_ #[t,u] ty #[.slice none 0 0,.int .i64 n]).run P w=.ok (.slice (some ⟨w.heap.size,0,none⟩) n (grownCap w n 0 e)) (w.drew.alloc (.cells (Builtin.zeroCells z.cells n++Builtin.zeroCells z.cells (grownCap w n 0 e - n)) e)):=by
 have w1:=tQ (z:=(n:Int)) V V
 have n1:¬ ((n:Int) < 0):=by omega
 have n2:¬ (281474976710656 < (n:Int)*i.bytes):=by rw [<- Int.natCast_mul];omega
 have n3:¬ n=0:=by omega
 have n4:¬ i.size=0:=by omega
 have n5:¬ (9223372036854775807 < (n:Int)):=by omega
 have n6:Builtin.nextslicecap n 0=n:=by simp [Builtin.nextslicecap,hn]
 have n7:¬ (281474976710656 < n*i.bytes):=by omega
 simp [Builtin.append_,run_underlying hs,run_underlying hu,sizeOf,typeInfo,zeroValue,hi,hz,asInt,asIntOf,w1,n1,n2,n3,n4,n5,n6,n7,Question.forced,newRow,grownCap,Builtin.firstCells]
 intro h
 rcases Nat.mul_eq_zero.1 h with h|h <;> omega
theorem adA {t u e:TypeId} {sz bytes:Nat} {zero:List aj} {agg:Bool} (hs:P.underlying t=some (.slice e)) (hu:P.underlying u=some (.int .i64)) (ht:Ty P e sz bytes zero agg) (hzl:Nat.beq zero.length sz=true) (hsz:Nat.blt 0 sz=true) {x y:Operand} {n:Nat} (H:St N D w0 F G0 G L T a w)
  (hw:Region.wanted ⟨some d,.call { callee:=.builtin .append,args:=#[x,y],argTypes:=#[t,u] },ty,pos,aC,g⟩ (yielded ops a.tmps)=true) (hx:ev T x=some (.slice none 0 0)) (hy:ev T y=some (.int .i64 (n:Int))) (hn:0 < n) (h63:n<=maxLen) (h48:n*bytes<=281474976710656) (hd:Nat.blt d N=true)
  (k:∀ b cap cur a' w',w0.heap.size<=b->n<=cap->cap<=maxLen->cur.size=cap*sz->St N D w0 F G0 G ((b,.cells cur e (0,0)) :: L) ((d,.slice (some ⟨b,0,none⟩) n cap) :: T) a' w'->WL r P ops Q rest a' w') :
  WL r P ops Q (⟨some d,.call { callee:=.builtin .append,args:=#[x,y],argTypes:=#[t,u] },ty,pos,aC,g⟩ :: rest) a w:=by
 obtain ⟨i,z,hi,hi1,hi2,hi3,hi4⟩:=ht.parts
 have hsz0:0 < sz:=Eq.mp Nat.blt_eq hsz
 have hzc:z.cells.size=sz:=by rw [hi4];simpa using qY hzl
 have h63':(n:Int)<=9223372036854775807:=by have hml:maxLen=9223372036854775807:=rfl;omega
 have hr:=adn (P:=P) (w:=w) t u ty e i z hs hu hi hi3 n hn V h63' (by rw [hi2];exact h48)
 have hge:=grownCap_ge w n 0 e
 refine bX (v:=.slice (some ⟨w.heap.size,0,none⟩) n (grownCap w n 0 e)) (w':=w.drew.alloc (.cells (Builtin.zeroCells z.cells n++Builtin.zeroCells z.cells (grownCap w n 0 e - n)) e)) hw O ?_ (k _ _ _ _ _ H.hp.size hge (grownCap_le_maxLen w n 0 e h63) ?_ (H.put hd _ (H.hp.drew.alloc _)))
 ·simp only [execOp,resolve,invoke,builtin,H.ev hx,H.ev hy,bE,List.map_toArray,gV,sM,jC,gJ,hr]
 ·simp only [Array.size_append,size_zeroCells,hzc]
  rw [<- Nat.add_mul];congr 1;omega
end
end
section
abbrev aD (b o : Nat) : Value := .pointer (some ⟨b, o, none⟩)
end
end Go.Proofs.YtomebajfpcjoeaaDoor
