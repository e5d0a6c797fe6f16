/-
  What the claim stands on, part 1: Lg Op Oq Cb Rep Dr Sq Cp Row Dy Bd Ut Utf.
-/
import Derived.Test.YtomebajfpcjoeaaDoorProg
import Derived.CallsIn
import Derived.TacticsIn
import Derived.RangeFuncIn
import Derived.RangeFuncLeaves
import Derived.RangeFuncRecord
import Derived.Below
import Derived.KernelRfl
import Derived.Maps.AppendAt
import Derived.IntWalk
import Derived.OrdersIn
import Derived.Test.YtomebajfpcjoeaaDoorRows
import Derived.Lib.Builder
import Derived.Lib.UnsafeStr
import Derived.Lib.AppendStr
import Derived.Laws.Externs
import Derived.Lib.OthersKept
import Derived.Laws.IdiomStrings
import Derived.Laws.Cover4
import Derived.Laws.Slices
import Derived.Laws.Strings2
import Derived.Lib.MapLaws
import Derived.Lib.ValidLaws
import Derived.Lib.RuneBytes
import Derived.Lib.TrimUEq
namespace Go.Proofs.YtomebajfpcjoeaaDoor
set_option linter.all false
open Go.Proofs.Tryd
theorem O.{u} {α:Sort u} {a:α}:a=a:=rfl
theorem V {p:Prop} (h:p:=by omega):p:=h
theorem Z {p:Prop} (h:p:=by kernel_rfl):p:=h
theorem Y {p:Prop} (h:p:=by decide):p:=h
section
theorem aL:True:=trivial
theorem aJ.{u}:∀ {c:Prop} {h:Decidable c},¬c->∀ {α:Sort u} {t e:α},(if c then t else e)=e:=@if_neg
theorem aM.{u}:∀ {c:Prop} {h:Decidable c},c->∀ {α:Sort u} {t e:α},(if c then t else e)=t:=@if_pos
theorem bD:∀ (n:Nat),n<=n:=@Nat.le_refl
theorem bN.{u_1,u_2}:∀ {α:Type u_1} {β:Type u_2} {xs:List α} (f:α->β),List.length (List.map f xs)=List.length xs:=@List.length_map
theorem bZ:∀ {α β:Type} (P:Go.Program) (w:Go.World) (x:Go.Sem α) (f:α->Go.Sem β),   Go.Sem.run P (x >>= f) w=Go.Result.andThen (Go.Sem.run P x w) fun a w'=>Go.Sem.run P (f a) w':=@Go.Sem.run_bind
theorem dH:∀ {p:Prop} [inst:Decidable p],(decide p=true)=p:=@decide_eq_true_eq
theorem dU:∀ (n:Nat),0<=n:=@Nat.zero_le
theorem dV.{u_1}:∀ {α:Type u_1} {l:List α} {n:Nat} (h:n < List.length l),l[n]∈l:=@List.getElem_mem
theorem fC:∀ (n:Nat),0+n=n:=@Nat.zero_add
theorem fP.{u,v}:∀ {α:Type u} {β:Type v} (fst:α) (snd:β) (Oh:α) (QW:β),   ((fst,snd)=(Oh,QW))=(fst=Oh∧snd=QW):=@Prod.mk.injEq
theorem gq.{u_1}:∀ {α:Type u_1} {p:α->Bool} {l:List α},List.all l p=true↔∀ (x:α),x∈l->p x=true:=@List.all_eq_true
theorem gT:∀ (a b:Bool),((a && b)=true)=(a=true∧b=true):=@Bool.and_eq_true
theorem iI.{u_1}:∀ {α:Type u_1} {i:Nat} {a:α} {l:List α},l[i]?=some a↔∃ h,l[i]=a:=@List.getElem?_eq_some_iff
theorem iK.{u}:∀ {α:Type u} {xs bs:List α},List.length (xs++bs)=List.length xs+List.length bs:=@List.length_append
theorem iR.{u_1}:∀ {α:Type u_1} {l:List α} {i:Nat} (h:i < List.length l),l[i]?=some l[i]:=@List.getElem?_eq_getElem
theorem iT.{u,v}:∀ {α:Type u} {β:Type v} {f:α->β} {a:α} {l:List α},List.map f (a :: l)=f a :: List.map f l:=@List.map_cons
theorem iU.{u_1}:∀ {α:Type u_1} {i:Nat} {l:List α},List.length l<=i->List.take i l=l:=@List.take_of_length_le
theorem iX:∀ {α β:Type} (a:α) (w:Go.World) (f:α->Go.World->Go.Result β),Go.Result.andThen (Go.Result.ok a w) f=f a w:=@Go.Result.andThen_ok
theorem jD.{u,v}:∀ {α:Sort u} {β:Sort v} {a₁ a₂:α} (f:α->β),a₁=a₂->f a₁=f a₂:=@congrArg
theorem jK.{u_1}:∀ {α:Type u_1} {l:List α} {i:Nat} {a:α},l[i]?=some a->a∈l:=@List.mem_of_getElem?
theorem ku.{u}:∀ {α:Type u} (val R8:α),(some val=some R8)=(val=R8):=@Option.some.injEq
theorem kC.{u_1,u_2}:∀ {α:Type u_1} {β:Type u_2} {f:α->β} {l₁ l₂:List α},List.map f (l₁++l₂)=List.map f l₁++List.map f l₂:=@List.map_append
theorem kI.{u}:∀ {α:Type u} {a:α} {xs:List α},List.length (a :: xs)=List.length xs+1:=@List.length_cons
theorem kJ:∀ {α:Type} (P:Go.Program) (w:Go.World) (a:α),Go.Sem.run P (pure a) w=Go.Result.ok a w:=@Go.Sem.run_pure
theorem lZ.{u_1}:∀ {α:Type u_1} {i:Nat} {l:List α} (h:i < List.length l),List.take (i+1) l=List.take i l++[l[i]]:=@List.take_succ_eq_append_getElem
theorem mg.{u}:∀ {α:Type u} (xs:List α),xs++[]=xs:=@List.append_nil
theorem mG.{u_1,u_2}:∀ {α:Type u_1} {b:α} {Sz:Type u_2} {x:Option Sz} {f:Sz->α},   Option.map f x=some b↔∃ a,x=some a∧f a=b:=@Option.map_eq_some_iff
theorem nQ.{u}:∀ {α:Type u} {a:α} {xs bs:List α},a :: xs++bs=a :: (xs++bs):=@List.cons_append
theorem nR.{u}:∀ {α:Type u} (xs bs cs:List α),xs++bs++cs=xs++(bs++cs):=@List.append_assoc
theorem oL.{u_1}:∀ {α:Type u_1} {b:α} {l:List α} {a:α},a∈b :: l↔a=b∨a∈l:=@List.mem_cons
theorem oM.{u_1,u_2}:∀ {α:Type u_1} {β:Type u_2} (a:α) (f:α->β),Option.map f (some a)=some (f a):=@Option.map_some
theorem pR:∀ {p:Prop} {x:Decidable p},decide p=false↔¬p:=@decide_eq_false_iff_not
theorem qF.{u}:∀ {α:Type u} {R:α->α->Prop} {a:α} {l:List α},   List.Pairwise R (a :: l)↔(∀ (a':α),a'∈l->R a a')∧List.Pairwise R l:=@List.pairwise_cons
theorem qG.{u_1,u_2}:∀ {α:Type u_1} {β:Type u_2} {f:α->β} {l:List α} {i:Nat},(List.map f l)[i]?=Option.map f l[i]?:=@List.getElem?_map
theorem qH.{u_1}:∀ {α:Type u_1} {a:α} {l:List α},a∈a :: l:=@List.mem_cons_self
theorem qI:∀ {m n:Nat},m∈List.range n↔m < n:=@List.mem_range
theorem qZ:∀ (n:Nat),n+0=n:=@Nat.add_zero
theorem ru.{u,v}:∀ {α:Type u} {β:Type v} {f:α->β},List.map f []=[]:=@List.map_nil
theorem sj.{u_1}:∀ {α:Type u_1} {l:List α} {i j:Nat},(List.take i l)[j]?=if j < i then l[j]? else none:=@List.getElem?_take
theorem sw.{u_1}:∀ {α:Type u_1} [inst:BEq α] [LawfulBEq α] {a:α} {xs:List α},List.contains xs a=true↔a∈xs:=@List.contains_iff_mem
theorem sD.{u_1}:∀ {α:Type u_1} {l:List α},List.take (List.length l) l=l:=@List.take_length
theorem tY:∀ {p:Prop} [inst:Decidable p],decide p=true->p:=@of_decide_eq_true
theorem uW:∀ {n m:Nat},Nat.beq n m=true->n=m:=@Nat.eq_of_beq_eq_true
theorem vX.{u_1}:∀ {α:Type u_1} {a:α} {s t:List α},a∈s++t↔a∈s∨a∈t:=@List.mem_append
theorem vY.{u_1}:∀ {α:Type u_1} {a b:α},a∈[b]↔a=b:=@List.mem_singleton
theorem vZ.{u_1}:∀ {α:Type u_1} {l₁ l₂:List α} {i:Nat},i < List.length l₁->(l₁++l₂)[i]?=l₁[i]?:=@List.getElem?_append_left
theorem xI.{u_1}:∀ {α:Type u_1} {a:α} {l:List α},(a :: l)[0]?=some a:=@List.getElem?_cons_zero
theorem xJ.{u}:∀ {α:Type u} (xs:List α),[]++xs=xs:=@List.nil_append
theorem xK.{u_1}:∀ {α:Type u_1} {l₁ l₂:List α} {i:Nat},List.length l₁<=i->(l₁++l₂)[i]?=l₂[i - List.length l₁]?:=@List.getElem?_append_right
theorem yN.{u_1}:∀ {α:Type u_1} (l:List α),List.Sublist l l:=@List.Sublist.refl
theorem Ae:(false=true)=False:=@Bool.false_eq_true
theorem Af:∀ {p:Prop} [Decidable p],¬¬p↔p:=@Decidable.not_not
abbrev av := Value
theorem oO {a b:Bool} (h:a=b):Value.bool a=Value.bool b:=congrArg _ h
end
abbrev bX (f : FuncId) : Prop := ∀ (args : Array Value) (w : World), (callFunc f args).run Tryd.prog w = .ok (.enter f args) w
open Go.RowKit
section
def FW (r:Option Nat):Fence:={ Fence.wide with round:=r }
theorem DZ (r:Option Nat):(FW r).depth.isSome=true->1<=(0:Nat):=by intro h;cases h
abbrev WP (r:Option Nat) (P:Program) (c:Code) (Q:Exit->Act->World->Prop) (a:Act) (w:World):Prop:=c.wpIn (FW r) 0 P Q a w
abbrev WL (r:Option Nat) (P:Program) (ops:Array Oper) (Q:Exit->Act->World->Prop) (l:List Oper) (a:Act) (w:World):Prop:=wpListIn (FW r) 0 P ops Q l a w
theorem GZ {r:Option Nat} {n:Nat} {P:Program} {f:FuncId} {args:Array av} {w:World} {R:Ending->World->Prop} (h:Calls P f args w R):CallsIn (FW r) n P f args w R:=callsIn_wide.2 h
theorem Un {r:Option Nat} {n:Nat} {P:Program} {f:FuncId} {args:Array av} {w:World} {R:Ending->World->Prop} (h:CallsIn (FW r) n P f args w R):Calls P f args w R:=callsIn_wide.1 h
def lk:List (Nat × av)->Nat->Option av
 | [],_=>none
 | (s,v) :: r,t=>bif Nat.beq s t then some v else lk r t
theorem qP (t:Nat) (v:av) (T:List (Nat × av)):lk ((t,v) :: T) t=some v:=by simp [lk]
theorem oW {s t:Nat} (h:s≠t) (v:av) (T:List (Nat × av)):lk ((s,v) :: T) t=lk T t:=by
 have:Nat.beq s t=false:=by
  cases h':Nat.beq s t with
  | false=>rfl
  | true=>exact absurd (uW h') h
 simp [lk,this]
def ev (T:List (Nat × av)):Operand->Option av
 | .tmp t=>lk T t
 | .const v=>some v
 | .global g=>some (.pointer (some ⟨g,0,none⟩))
 | .func f=>some (.func (.func f) #[] #[])
def evs (T:List (Nat × av)):List Operand->Option (List av)
 | []=>some []
 | x :: r=>match ev T x,evs T r with|some v,some vs=>some (v :: vs)|_,_=>none
abbrev GH:=Nat->Option Obj
structure Hp (w0:World) (F:Nat->Prop) (G0 G:GH) (L:List (Nat × Obj)) (w:World):Prop where
 os:w.os=w0.os
 tape:w.tape=w0.tape
 output:w.output=w0.output
 size:w0.heap.size<=w.heap.size
 pV:∀ k,F k->k < w0.heap.size
 fr:∀ k,F k->w.heap[k]?=w0.heap[k]?
 ro:∀ k o,G k=some o->w.heap[k]?=some o
 gm:∀ k o,G0 k=some o->G k=some o
 gx:∀ k o,G k=some o->G0 k=some o∨¬ F k
 own:∀ p∈L,w.heap[p.1]?=some p.2
 pE:∀ p∈L,G p.1=none
 ou:∀ p∈L,¬ F p.1
 nd:L.Pairwise fun p q=>p.1≠q.1
structure St (N:Nat) (D:List Deferred) (w0:World) (F:Nat->Prop) (G0 G:GH) (L:List (Nat × Obj)) (T:List (Nat × av)) (a:Act) (w:World):Prop where
 jv:a.tmps.size=N
 get:∀ t v,lk T t=some v->a.tmps[t]?=some v
 mJ:a.defers=D
 hp:Hp w0 F G0 G L w
theorem lt_of_heap {w:World} {k:Nat} {o:Obj} (h:w.heap[k]?=some o):k < w.heap.size:=(Array.getElem?_eq_some_iff.1 h).1
structure pQ (b:Nat) (o:Obj) (w w':World):Prop where
 os:w'.os=w.os
 tape:w'.tape=w.tape
 output:w'.output=w.output
 size:w'.heap.size=w.heap.size
 this:w'.heap[b]?=some o
 others:∀ k,k≠b->w'.heap[k]?=w.heap[k]?
section
variable {N:Nat} {D:List Deferred} {w0 w w':World} {F:Nat->Prop} {G0 G G':GH} {L L':List (Nat × Obj)} {T:List (Nat × av)} {a:Act} {b:Nat} {o o':Obj}
theorem Hp.lt (h:Hp w0 F G0 G L w) {p:Nat × Obj} (hp:p∈L):p.1 < w.heap.size:=lt_of_heap (h.own p hp)
theorem Hp.alloc (h:Hp w0 F G0 G L w) (o:Obj):Hp w0 F G0 G ((w.heap.size,o) :: L) (w.alloc o):=by
 have hold:∀ k,k < w.heap.size->(w.alloc o).heap[k]?=w.heap[k]?:=fun k hk=>Below.heap_alloc w o k hk
 refine ⟨h.os,h.tape,h.output,by simp;exact Nat.le_succ_of_le h.size,h.pV,fun k hk=>(hold k (Nat.lt_of_lt_of_le (h.pV k hk) h.size)).trans (h.fr k hk),fun k o' hk=>(hold k (lt_of_heap (h.ro k o' hk))).trans (h.ro k o' hk),h.gm,h.gx,?_,?_,?_,?_⟩
 ·intro p hp
  rcases oL.1 hp with rfl|hp
  ·show (w.heap.push o)[w.heap.size]?=some o;simp
  ·exact (hold _ (h.lt hp)).trans (h.own p hp)
 ·intro p hp
  rcases oL.1 hp with rfl|hp
  ·cases hg:G w.heap.size with
   | none=>rfl
   | some o'=>exact absurd (lt_of_heap (h.ro _ _ hg)) (Nat.lt_irrefl _)
  ·exact h.pE p hp
 ·intro p hp
  rcases oL.1 hp with rfl|hp
  ·intro hf;exact absurd (Nat.lt_of_lt_of_le (h.pV _ hf) h.size) (Nat.lt_irrefl _)
  ·exact h.ou p hp
 ·refine qF.2 ⟨fun q hq=>?_,h.nd⟩
  have:=h.lt hq
  simp only;omega
theorem Hp.below (h:Hp w0 F G0 G L w) (hb:Below w.heap.size w w'):Hp w0 F G0 G L w':=by
 refine ⟨hb.os.trans h.os,hb.tape.trans h.tape,hb.output.trans h.output,Nat.le_trans h.size hb.size,h.pV,fun k hk=>(hb.block k (Nat.lt_of_lt_of_le (h.pV k hk) h.size)).trans (h.fr k hk),fun k o hk=>(hb.block k (lt_of_heap (h.ro k o hk))).trans (h.ro k o hk),h.gm,h.gx,fun p hp=>(hb.block _ (h.lt hp)).trans (h.own p hp),h.pE,h.ou,h.nd⟩
def Ext (n1:Nat) (G G':GH) (w':World):Prop:=(∀ k o,G k=some o->G' k=some o)∧(∀ k o,G' k=some o->G k=some o∨n1<=k)∧(∀ k o,G' k=some o->w'.heap[k]?=some o)
theorem Hp.Ms (h:Hp w0 F G0 G L w) (hb:Below w.heap.size w w') (hx:Ext w.heap.size G G' w'):Hp w0 F G0 G' L w':=by
 have h':=h.below hb
 refine ⟨h'.os,h'.tape,h'.output,h'.size,h'.pV,h'.fr,hx.2.2,fun k o hk=>hx.1 k o (h.gm k o hk),fun k o hk=>?_,h'.own,fun p hp=>?_,h'.ou,h'.nd⟩
 ·rcases hx.2.1 k o hk with hk|hk
  ·exact h.gx k o hk
  ·exact .inr fun hf=>absurd (Nat.lt_of_lt_of_le (h.pV k hf) h.size) V
 ·cases hg:G' p.1 with
  | none=>rfl
  | some o =>
   rcases hx.2.1 _ _ hg with hk|hk
   ·rw [h.pE p hp] at hk;cases hk
   ·exact absurd (h.lt hp) V
theorem JR:∀ {L:List (Nat × Obj)} {i b:Nat} {o o':Obj},L.Pairwise (fun p q=>p.1≠q.1)->L[i]?=some (b,o)->(L.set i (b,o')).Pairwise fun p q=>p.1≠q.1
 | [],_,_,_,_,h,_=>h
 | p :: L,0,b,o,o',h,hi=>by
  simp only [xI,ku] at hi
  subst hi
  exact qF.2 ⟨(qF.1 h).1,(qF.1 h).2⟩
 | p :: L,i+1,b,o,o',h,hi=>by
  simp only [List.getElem?_cons_succ] at hi
  refine qF.2 ⟨fun q hq=>?_,JR (qF.1 h).2 hi⟩
  rcases List.mem_or_eq_of_mem_set hq with hq|rfl
  ·exact (qF.1 h).1 q hq
  ·exact (qF.1 h).1 (b,o) (jK hi)
theorem JI:∀ {L:List (Nat × Obj)} {i:Nat} {p q:Nat × Obj},L.Pairwise (fun p q=>p.1≠q.1)->L[i]?=some p->q∈L->q.1=p.1->q=p
 | [],_,_,_,_,h,_,_=>by simp at h
 | x :: L,0,p,q,h,hi,hq,e=>by
  simp only [xI,ku] at hi
  subst hi
  rcases oL.1 hq with rfl|hq
  ·rfl
  ·exact absurd e.symm ((qF.1 h).1 q hq)
 | x :: L,i+1,p,q,h,hi,hq,e=>by
  simp only [List.getElem?_cons_succ] at hi
  rcases oL.1 hq with rfl|hq
  ·exact absurd e ((qF.1 h).1 p (jK hi))
  ·exact JI (qF.1 h).2 hi hq e
theorem Hp.upd (h:Hp w0 F G0 G L w) {i:Nat} (hi:L[i]?=some (b,o)) (hu:pQ b o' w w'):Hp w0 F G0 G (L.set i (b,o')) w':=by
 have hm:(b,o)∈L:=jK hi
 refine ⟨hu.os.trans h.os,hu.tape.trans h.tape,hu.output.trans h.output,hu.size ▸ h.size,h.pV,fun k hk=>?_,fun k o hk=>?_,h.gm,h.gx,fun p hp=>?_,fun p hp=>?_,fun p hp=>?_,JR h.nd hi⟩
 ·exact (hu.others k (fun e=>h.ou _ hm (e ▸ hk))).trans (h.fr k hk)
 ·refine (hu.others k (fun e=>?_)).trans (h.ro k o hk)
  have:=h.pE _ hm
  rw [<- e,hk] at this;cases this
 ·by_cases e:p.1=b
  ·rcases List.mem_or_eq_of_mem_set hp with hp'|rfl
   ·obtain ⟨j,hj⟩:=List.getElem?_of_mem hp
    have hib:i < L.length:=(iI.1 hi).1
    have hset:(L.set i (b,o'))[i]?=some (b,o'):=by simp [hib]
    have:=JI (JR (o':=o') h.nd hi) hset hp e
    rw [this];exact hu.this
   ·exact hu.this
  ·rcases List.mem_or_eq_of_mem_set hp with hp|rfl
   ·exact (hu.others _ e).trans (h.own p hp)
   ·exact absurd O e
 ·rcases List.mem_or_eq_of_mem_set hp with hp|rfl
  ·exact h.pE p hp
  ·exact (h.pE (b,o) hm:G b=none)
 ·rcases List.mem_or_eq_of_mem_set hp with hp|rfl
  ·exact h.ou p hp
  ·exact (h.ou (b,o) hm:¬ F b)
theorem Hp.drew (h:Hp w0 F G0 G L w):Hp w0 F G0 G L w.drew:=⟨h.os,h.tape,h.output,h.size,h.pV,h.fr,h.ro,h.gm,h.gx,h.own,h.pE,h.ou,h.nd⟩
theorem Hp.drop (h:Hp w0 F G0 G L w) (hs:L'.Sublist L):Hp w0 F G0 G L' w:=⟨h.os,h.tape,h.output,h.size,h.pV,h.fr,h.ro,h.gm,h.gx,fun p hp=>h.own p (hs.subset hp),fun p hp=>h.pE p (hs.subset hp),fun p hp=>h.ou p (hs.subset hp),h.nd.sublist hs⟩
theorem Hp.dR {Pl dx Lo:List (Nat × Obj)} (h:Hp w0 F G0 G (Pl++Lo) w) (idx:List Nat) (hi:idx.Nodup) (hL:idx.map (fun i=>Pl[i]?)=dx.map some):Hp w0 F G0 G (dx++Lo) w:=by
 have hget:∀ (j:Nat) (p:Nat × Obj),dx[j]?=some p->∃ i:Nat,idx[j]?=some i∧Pl[i]?=some p:=by
  intro j p hp
  have h1:(idx.map (fun i=>Pl[i]?))[j]?=some (some p):=by rw [hL];simp [hp]
  rw [qG] at h1
  obtain ⟨i,hi1,hi2⟩:=mG.1 h1
  exact ⟨i,hi1,hi2⟩
 have hmem:∀ p∈dx++Lo,p∈Pl++Lo:=by
  intro p hp
  rcases vX.1 hp with hp|hp
  ·obtain ⟨j,hj⟩:=List.getElem?_of_mem hp
   obtain ⟨i,_,hi2⟩:=hget j p hj
   exact List.mem_append_left _ (jK hi2)
  ·exact List.mem_append_right _ hp
 have hnd:=List.pairwise_append.1 h.nd
 refine ⟨h.os,h.tape,h.output,h.size,h.pV,h.fr,h.ro,h.gm,h.gx,fun p hp=>h.own p (hmem p hp),fun p hp=>h.pE p (hmem p hp),fun p hp=>h.ou p (hmem p hp),List.pairwise_append.2 ⟨?_,hnd.2.1,fun p hp q hq=>?_⟩⟩
 ·refine List.pairwise_iff_getElem.2 fun x y hx hy hxy=>?_
  obtain ⟨i,hi1,hi2⟩:=hget x _ (iR hx)
  obtain ⟨j,hj1,hj2⟩:=hget y _ (iR hy)
  have hij:i≠j:=by
   intro e
   subst e
   obtain ⟨hx1,hx2⟩:=iI.1 hi1
   obtain ⟨hy1,hy2⟩:=iI.1 hj1
   exact (List.pairwise_iff_getElem.1 hi x y hx1 hy1 hxy) (by rw [hx2,hy2])
  obtain ⟨hi3,hi4⟩:=iI.1 hi2
  obtain ⟨hj3,OC⟩:=iI.1 hj2
  rcases Nat.lt_or_ge i j with hlt|hge
  ·rw [<- hi4,<- OC];exact List.pairwise_iff_getElem.1 hnd.1 i j hi3 hj3 hlt
  ·rw [<- hi4,<- OC];exact Ne.symm (List.pairwise_iff_getElem.1 hnd.1 j i hj3 hi3 V)
 ·obtain ⟨j,hj⟩:=List.getElem?_of_mem hp
  obtain ⟨i,_,hi2⟩:=hget j p hj
  exact hnd.2.2 p (jK hi2) q hq
def GH.add (G:GH) (b:Nat) (o:Obj):GH:=fun k=>if k=b then some o else G k
theorem GH.GA (G:GH) {b:Nat} {o:Obj} (hn:G b=none) (k:Nat) (o':Obj) (h:G k=some o'):(G.add b o) k=some o':=by
 unfold GH.add;rw [aJ (fun e=>by subst e;rw [hn] at h;cases h)];exact h
theorem GH.Mh (G:GH) (b:Nat) (o:Obj):(G.add b o) b=some o:=by simp [GH.add]
theorem Hp.giveUp (h:Hp w0 F G0 G L w) (i:Nat) (hi:L[i]?=some (b,o)):Hp w0 F G0 (G.add b o) (L.eraseIdx i) w:=by
 have hm:(b,o)∈L:=jK hi
 have hsub:(L.eraseIdx i).Sublist L:=List.eraseIdx_sublist L i
 have hne:∀ p∈L.eraseIdx i,p.1≠b:=by
  intro p hp e
  have h1:=JI h.nd hi (hsub.subset hp) e
  subst h1
  obtain ⟨j,hj,hjp⟩:=List.mem_eraseIdx_iff_getElem?.1 hp
  have hnd:=h.nd
  have hij:j≠i:=hj
  have hlt1:j < L.length:=(iI.1 hjp).1
  have hlt2:i < L.length:=(iI.1 hi).1
  have e1:=(iI.1 hjp).2
  have e2:=(iI.1 hi).2
  rcases Nat.lt_or_ge j i with hlt|hge
  ·exact (List.pairwise_iff_getElem.1 hnd j i hlt1 hlt2 hlt) (by rw [e1,e2])
  ·exact (List.pairwise_iff_getElem.1 hnd i j hlt2 hlt1 V) (by rw [e1,e2])
 refine ⟨h.os,h.tape,h.output,h.size,h.pV,h.fr,fun k o' hk=>?_,fun k o' hk=>GH.GA G (h.pE _ hm) k o' (h.gm k o' hk),fun k o' hk=>?_,fun p hp=>h.own p (hsub.subset hp),fun p hp=>?_,fun p hp=>h.ou p (hsub.subset hp),h.nd.sublist hsub⟩
 ·unfold GH.add at hk
  split at hk
  ·rename_i e;subst e;cases hk;exact h.own _ hm
  ·exact h.ro k o' hk
 ·unfold GH.add at hk
  split at hk
  ·rename_i e;subst e;exact .inr (h.ou _ hm)
  ·exact h.gx k o' hk
 ·unfold GH.add
  rw [aJ (hne p hp)]
  exact h.pE p (hsub.subset hp)
theorem St.ev (h:St N D w0 F G0 G L T a w) {x:Operand} {v:av} (hx:Proofs.YtomebajfpcjoeaaDoor.ev T x=some v):a.eval x=v:=by
 cases x with
 | tmp t =>
  have:=h.get t v hx
  simp only [Act.eval,Array.getD_eq_getD_getElem?,this,Option.getD_some]
 | const u=>simp only [Proofs.YtomebajfpcjoeaaDoor.ev,ku] at hx;subst hx;rfl
 | global g=>simpa [Proofs.YtomebajfpcjoeaaDoor.ev,Act.eval] using hx
 | func f=>simpa [Proofs.YtomebajfpcjoeaaDoor.ev,Act.eval] using hx
theorem St.evs (h:St N D w0 F G0 G L T a w):∀ {xs:List Operand} {vs:List av},Proofs.YtomebajfpcjoeaaDoor.evs T xs=some vs->xs.map a.eval=vs
 | [],vs,hx=>by simp [Proofs.YtomebajfpcjoeaaDoor.evs] at hx;subst hx;rfl
 | x :: xs,vs,hx=>by
  unfold Proofs.YtomebajfpcjoeaaDoor.evs at hx
  split at hx
  ·rename_i v vs' h1 h2
   simp only [ku] at hx
   subst hx
   rw [iT,h.ev h1,h.evs h2]
  ·cases hx
theorem St.put (h:St N D w0 F G0 G L T a w) {d:Nat} (hd:Nat.blt d N=true) (v:av) (H':Hp w0 F G0 G' L' w'):St N D w0 F G0 G' L' ((d,v) :: T) (a.put (some d) v) w':=by
 have hlt:d < a.tmps.size:=by rw [h.jv];exact Eq.mp Nat.blt_eq hd
 refine ⟨by simp [Act.put,h.jv],fun t u ht=>?_,h.mJ,H'⟩
 simp only [Act.put,Array.getElem?_setIfInBounds]
 by_cases e:d=t
 ·subst e
  rw [qP] at ht
  simp [hlt];simpa using ht
 ·rw [oW e] at ht
  simp [e];exact h.get t u ht
theorem St.move (h:St N D w0 F G0 G L T a w) (H':Hp w0 F G0 G' L' w'):St N D w0 F G0 G' L' T a w':=⟨h.jv,h.get,h.mJ,H'⟩
def Kr (T:List (Nat × av)):List (Nat × av)->Prop
 | []=>True
 | (t,v) :: r=>lk T t=some v∧Kr T r
theorem Rh {T:List (Nat × av)}:∀ {T':List (Nat × av)},Kr T T'->∀ {t v},lk T' t=some v->lk T t=some v
 | [],_,_,_,h=>by simp [lk] at h
 | (s,u) :: r,hs,t,v,h=>by
  by_cases e:s=t
  ·subst e;rw [qP] at h;exact h ▸ hs.1
  ·rw [oW e] at h;exact Rh hs.2 h
theorem St.sub (h:St N D w0 F G0 G L T a w) {T':List (Nat × av)} (hs:Kr T T'):St N D w0 F G0 G L T' a w:=⟨h.jv,fun t v ht=>h.get t v (Rh hs ht),h.mJ,h.hp⟩
theorem St.dR {Pl dx Lo:List (Nat × Obj)} (h:St N D w0 F G0 G (Pl++Lo) T a w) (idx:List Nat) (hi:idx.Nodup) (hL:idx.map (fun i=>Pl[i]?)=dx.map some):St N D w0 F G0 G (dx++Lo) T a w:=⟨h.jv,h.get,h.mJ,h.hp.dR idx hi hL⟩
end
end
section
section base
variable {r:Option Nat} {P:Program} {ops:Array Oper} {Q:Exit->Act->World->Prop} {rest:List Oper} {a:Act} {w w':World} {o:Oper}
def Fp:Op->Bool
 | .defer _=>false
 | _=>true
theorem Ka {o:Oper} {ro:Option Nat} {ρ:Operand->av} (h:Fp o.op=true):o.semAt ro ρ=execOp ρ o :=
 Oper.semAt_eq ro ρ o fun c e=>by rw [e] at h;cases h
theorem aj (h:Q .normal a w):WL r P ops Q [] a w:=wpListIn_nil h
theorem Ld (hw:Region.wanted o (yielded ops a.tmps)=true) (h:o.wpIn (FW r) 0 P a w (WL r P ops Q rest) Q):WL r P ops Q (o :: rest) a w:=by
 show wpListIn (FW r) 0 P ops Q (o :: rest) a w
 unfold wpListIn
 rw [aM hw]
 exact h
theorem Sm (hw:Region.wanted o (yielded ops a.tmps)=false) (h:WL r P ops Q rest (a.put o.dst undef) w):WL r P ops Q (o :: rest) a w:=by
 show wpListIn (FW r) 0 P ops Q (o :: rest) a w
 unfold wpListIn
 rw [aJ (by simp [hw])]
 exact ⟨fun _ _=>trivial,h⟩
theorem dQ {v:av} (hw:Region.wanted o (yielded ops a.tmps)=true) (hd:Fp o.op=true) (h:(execOp a.eval o).run P w=.ok (.value v) w')
  (k:WL r P ops Q rest (a.put o.dst v) w'):WL r P ops Q (o :: rest) a w:=by
 refine Ld hw ⟨fun _ _=>trivial,?_⟩
 rw [Ka hd,h]
 exact k
theorem Sq (hw:Region.wanted o (yielded ops a.tmps)=true) (hd:Fp o.op=true) (h:(execOp a.eval o).run P w=.ok .skip w')
  (k:WL r P ops Q rest (a.put o.dst undef) w'):WL r P ops Q (o :: rest) a w:=by
 refine Ld hw ⟨fun _ _=>trivial,?_⟩
 rw [Ka hd,h]
 exact k
def After (P:Program) (nx:Result Next) (R:Ending->World->Prop):Prop :=
 match nx with
 | .ok (.enter f args) w'=>Calls P f args w' R
 | .ok (.round l f tmps assign body) w'=>RoundIn (FW none) 0 P l f tmps assign body w' R
 | _=>False
structure uR (P:Program) (fv:av) (args:List av) (w:World) (R:Ending->World->Prop):Prop where
 go:After P ((do let d <- Deferred.ofValue fv args.toArray;invoke d.target d.args:Sem Next).run P w) R
theorem Lb {nx:Result Next} {R:Ending->World->Prop} (hw:Region.wanted o (yielded ops a.tmps)=true) (hd:Fp o.op=true) (h:(execOp a.eval o).run P w=nx) (hc:After P nx R)
  (k:∀ e w',R e w'->∃ v,e=.returned v∧WL r P ops Q rest (a.put o.dst v) w'):WL r P ops Q (o :: rest) a w:=by
 refine Ld hw ⟨fun _ _=>trivial,?_⟩
 rw [Ka hd,h]
 cases nx with
 | halt x y=>exact hc.elim
 | ok x w1 =>
  cases x with
  | enter f args =>
   refine ⟨DZ r,(GZ hc).mono fun e w2 hR=>?_⟩
   obtain ⟨v,rfl,hk⟩:=k e w2 hR
   exact hk
  | round l f tmps assign body =>
   have hc':RoundIn (FW none) 0 P l f tmps assign body w1 R:=hc
   refine ⟨DZ r,?_⟩
   have h2:RoundIn (FW r) (0 - 1) P l f tmps assign body w1 R:=⟨aL,fun c cs hr=>hc'.2 c cs (room_wide _)⟩
   exact h2.mono fun e w2 hR=>by obtain ⟨v,rfl,hk⟩:=k e w2 hR;exact hk
  | _=>exact hc.elim
end base
section steps
variable {N:Nat} {D:List Deferred} {w0:World} {F:Nat->Prop} {G0 G:GH} {L:List (Nat × Obj)} {T:List (Nat × av)}
variable {r:Option Nat} {P:Program} {ops:Array Oper} {Q:Exit->Act->World->Prop} {rest:List Oper} {a:Act} {w:World}
variable {d:Nat} {ty:TypeId} {pos:String} {aG:Array Edge} {g:Option (Nat × Bool)}
theorem wn {op:Op} {dst:Option Tmp} {y:Nat->Option Bool}:Region.wanted ⟨dst,op,ty,pos,aG,none⟩ y=true:=rfl
theorem Sy (H:St N D w0 F G0 G L T a w) {j t:Nat} {b:Bool} (hj:(ops[j]?).bind (·.dst)=some t) (ht:lk T t=some (.bool b)):yielded ops a.tmps j=some b:=by
 unfold yielded
 rw [hj]
 simp [H.get t _ ht]
theorem wg (H:St N D w0 F G0 G L T a w) {op:Op} {dst:Option Tmp} {j t:Nat} {want b:Bool} (hj:(ops[j]?).bind (·.dst)=some t) (ht:lk T t=some (.bool b)) (hb:b=want) :
  Region.wanted ⟨dst,op,ty,pos,aG,some (j,want)⟩ (yielded ops a.tmps)=true:=by
 simp [Region.wanted,Sy H hj ht,hb]
theorem QH (H:St N D w0 F G0 G L T a w) {op:Op} {j t:Nat} {want b:Bool} (hj:(ops[j]?).bind (·.dst)=some t) (ht:lk T t=some (.bool b)) (hb:b=!want) (hd:Nat.blt d N=true)
  (k:∀ a',St N D w0 F G0 G L ((d,undef) :: T) a' w->WL r P ops Q rest a' w):WL r P ops Q (⟨some d,op,ty,pos,aG,some (j,want)⟩ :: rest) a w:=by
 refine Sm ?_ (k _ (H.put hd undef H.hp))
 simp only [Region.wanted,Sy H hj ht,hb]
 cases want <;> rfl
theorem aaW (H:St N D w0 F G0 G L T a w) {op:Op} {j t:Nat} {want:Bool} (hj:(ops[j]?).bind (·.dst)=some t) (ht:lk T t=some undef) (hd:Nat.blt d N=true)
  (k:∀ a',St N D w0 F G0 G L ((d,undef) :: T) a' w->WL r P ops Q rest a' w):WL r P ops Q (⟨some d,op,ty,pos,aG,some (j,want)⟩ :: rest) a w:=by
 refine Sm ?_ (k _ (H.put hd undef H.hp))
 have h:yielded ops a.tmps j=none:=by
  unfold yielded
  rw [hj]
  simp [H.get t _ ht,undef]
 simp only [Region.wanted,h]
 cases want <;> rfl
theorem abb (_H:St N D w0 F G0 G L T a w) (t:Nat) {b:Bool} {X:Prop} (_ht:lk T t=some (.bool b)) (h1:b=true->X) (h0:b=false->X):X:=by cases b <;> simp_all
theorem lH {x:Operand} {v:av} (H:St N D w0 F G0 G L T a w) (hw:Region.wanted ⟨some d,.move x,ty,pos,aG,g⟩ (yielded ops a.tmps)=true) (hx:ev T x=some v) (hd:Nat.blt d N=true)
  (k:∀ a',St N D w0 F G0 G L ((d,v) :: T) a' w->WL r P ops Q rest a' w):WL r P ops Q (⟨some d,.move x,ty,pos,aG,g⟩ :: rest) a w :=
 dQ (v:=v) (w':=w) hw O (by simp [execOp,H.ev hx]) (k _ (H.put hd v H.hp))
theorem aaE {x:Operand} {v:av} (H:St N D w0 F G0 G L T a w) (hw:Region.wanted ⟨some d,.assign x,ty,pos,aG,g⟩ (yielded ops a.tmps)=true) (hx:ev T x=some v) (hd:Nat.blt d N=true)
  (k:∀ a',St N D w0 F G0 G L ((d,v) :: T) a' w->WL r P ops Q rest a' w):WL r P ops Q (⟨some d,.assign x,ty,pos,aG,g⟩ :: rest) a w :=
 dQ (v:=v) (w':=w) hw O (by simp [execOp,H.ev hx]) (k _ (H.put hd v H.hp))
theorem QF {c x y:Operand} {b:Bool} {v:av} (H:St N D w0 F G0 G L T a w) (hw:Region.wanted ⟨some d,.pick c x y,ty,pos,aG,g⟩ (yielded ops a.tmps)=true) (hc:ev T c=some (.bool b)) (hb:b=true) (hx:ev T x=some v) (hd:Nat.blt d N=true)
  (k:∀ a',St N D w0 F G0 G L ((d,v) :: T) a' w->WL r P ops Q rest a' w):WL r P ops Q (⟨some d,.pick c x y,ty,pos,aG,g⟩ :: rest) a w :=
 dQ (v:=v) (w':=w) hw O (by simp [execOp,H.ev hx,H.ev hc,asBool,hb]) (k _ (H.put hd v H.hp))
theorem QE {c x y:Operand} {b:Bool} {v:av} (H:St N D w0 F G0 G L T a w) (hw:Region.wanted ⟨some d,.pick c x y,ty,pos,aG,g⟩ (yielded ops a.tmps)=true) (hc:ev T c=some (.bool b)) (hb:b=false) (hx:ev T y=some v) (hd:Nat.blt d N=true)
  (k:∀ a',St N D w0 F G0 G L ((d,v) :: T) a' w->WL r P ops Q rest a' w):WL r P ops Q (⟨some d,.pick c x y,ty,pos,aG,g⟩ :: rest) a w :=
 dQ (v:=v) (w':=w) hw O (by simp [execOp,H.ev hx,H.ev hc,asBool,hb]) (k _ (H.put hd v H.hp))
class Und (P:Program) (t:TypeId) (d:outParam TypeDesc):Prop where
 h:P.underlying t=some d
class Ty (P:Program) (t:TypeId) (sz bytes:outParam Nat) (zero:outParam (List av)) (agg:outParam Bool):Prop where
 info:(P.info? t).map (fun i=>(i.size,i.bytes,i.zero.map fun z=>z.cells.toList))=some (sz,bytes,some zero)
 ag:(P.underlying t).map (fun|.struct _=>true|.array _ _=>true|_=>false)=some agg
theorem Ty.parts {t:TypeId} {sz bytes:Nat} {zero:List av} {agg:Bool} (h:Ty P t sz bytes zero agg):∃ i z,P.info? t=some i∧i.size=sz∧i.bytes=bytes∧i.zero=some z∧z.cells=zero.toArray:=by
 obtain ⟨i,hi,hx⟩:=mG.1 h.info
 simp only [fP] at hx
 obtain ⟨z,hz,hzz⟩:=mG.1 hx.2.2
 exact ⟨i,z,hi,hx.1,hx.2.1,hz,by rw [<- hzz]⟩
theorem zJ {t:TypeId} {i:TypeInfo} (h:P.info? t=some i) (w:World):(typeInfo t).run P w=.ok i w:=by simp [typeInfo,program,Sem.run,bZ,h]
theorem Ty.uK {t:TypeId} {sz bytes:Nat} {zero:List av} {agg:Bool} (h:Ty P t sz bytes zero agg) (w:World):(sizeOf t).run P w=.ok sz w:=by
 obtain ⟨i,z,hi,h1,-,-,-⟩:=h.parts
 simp [sizeOf,bZ,zJ hi,h1]
theorem Ty.Qw {t:TypeId} {sz bytes:Nat} {zero:List av} {agg:Bool} (h:Ty P t sz bytes zero agg) (w:World):∃ z,(zeroValue t).run P w=.ok z w∧z.cells=zero.toArray:=by
 obtain ⟨i,z,hi,-,-,h1,h2⟩:=h.parts
 exact ⟨z,by simp [zeroValue,bZ,zJ hi,h1],h2⟩
theorem lq {t:TypeId} {u:TypeDesc} (h:P.underlying t=some u) (w:World):(underlying t).run P w=.ok u w:=by simp [underlying,program,Sem.run,bZ,h]
theorem Ty.J3 {t:TypeId} {sz bytes:Nat} {zero:List av} {agg:Bool} (h:Ty P t sz bytes zero agg) (w:World):(isAgg t).run P w=.ok agg w:=by
 obtain ⟨u,hu,hx⟩:=mG.1 h.ag
 unfold isAgg
 simp only [bZ,lq hu,iX]
 cases u <;> simp_all
theorem kE {elem:TypeId} {sz bytes:Nat} {zero:List av} {agg:Bool} (ht:Ty P elem sz bytes zero agg) (H:St N D w0 F G0 G L T a w) (hw:Region.wanted ⟨some d,.alloc elem,ty,pos,aG,g⟩ (yielded ops a.tmps)=true) (hd:Nat.blt d N=true)
  (k:∀ b a' w',w0.heap.size<=b->St N D w0 F G0 G ((b,.cells zero.toArray elem (0,0)) :: L) ((d,.pointer (some ⟨b,0,none⟩)) :: T) a' w'->WL r P ops Q rest a' w'):WL r P ops Q (⟨some d,.alloc elem,ty,pos,aG,g⟩ :: rest) a w:=by
 obtain ⟨z,hz,hzc⟩:=ht.Qw w
 refine dQ (v:=.pointer (some ⟨w.heap.size,0,none⟩)) (w':=w.alloc (.cells zero.toArray elem (0,0))) hw O ?_ (k _ _ _ H.hp.size (H.put hd _ (H.hp.alloc _)))
 simp [execOp,Instr.alloc,bZ,hz,newVar,newRow,newObj,Sem.run,hzc]
theorem oo {elem:TypeId} {x:Operand} {v:av} {cs:List av} (H:St N D w0 F G0 G L T a w) (hw:Region.wanted ⟨some d,.box elem x,ty,pos,aG,g⟩ (yielded ops a.tmps)=true) (hx:ev T x=some v) (hc:v.cells=cs.toArray) (hd:Nat.blt d N=true)
  (k:∀ b a' w',w0.heap.size<=b->St N D w0 F G0 G ((b,.cells cs.toArray elem (0,0)) :: L) ((d,.pointer (some ⟨b,0,none⟩)) :: T) a' w'->WL r P ops Q rest a' w'):WL r P ops Q (⟨some d,.box elem x,ty,pos,aG,g⟩ :: rest) a w:=by
 refine dQ (v:=.pointer (some ⟨w.heap.size,0,none⟩)) (w':=w.alloc (.cells cs.toArray elem (0,0))) hw O ?_ (k _ _ _ H.hp.size (H.put hd _ (H.hp.alloc _)))
 simp [execOp,Instr.box,bZ,newVar,newRow,newObj,Sem.run,H.ev hx,hc]
def aR (G:GH) (b o:Nat):Option av:=match G b with|some (.cells c _ _)=>c[o]?|_=>none
theorem Hp.aR (h:Hp w0 F G0 G L w) {b o:Nat} {v:av} (hg:Proofs.YtomebajfpcjoeaaDoor.aR G b o=some v):w.cell? ⟨b,o,none⟩=some v:=by
 unfold Proofs.YtomebajfpcjoeaaDoor.aR at hg
 split at hg
 ·rename_i c e f he
  simp only [World.cell?,h.ro b _ he]
  exact hg
 ·cases hg
theorem Hp.jc (h:Hp w0 F G0 G L w) (i:Nat) {b o:Nat} {c:Array av} {e:TypeId} {fz:Nat × Nat} {v:av} (hi:L[i]?=some (b,.cells c e fz)) (hv:c[o]?=some v):w.cell? ⟨b,o,none⟩=some v:=by
 have:=h.own _ (jK hi)
 simp only [World.cell?] at *
 rw [this]
 exact hv
theorem add_lit (b o n:Nat):(⟨b,o,none⟩:Addr).add n=⟨b,o+n,none⟩:=by
 unfold Addr.add
 split
 ·rename_i h;subst h;rfl
 ·rfl
theorem Qt {b o:Nat} {v:av} (h:w.cell? ⟨b,o,none⟩=some v):(load ⟨b,o,none⟩).run P w=.ok v w:=by simp [load,Sem.run,h]
theorem run_loadCells (b:Nat) (w:World):∀ (cs:List av) (o i:Nat) (acc:Array av),(∀ j v,cs[j]?=some v->w.cell? ⟨b,o+i+j,none⟩=some v) ->
  (loadCellsFrom ⟨b,o,none⟩ i cs.length acc).run P w=.ok (acc++cs.toArray) w
 | [],o,i,acc,_=>by simp [loadCellsFrom,Sem.run]
 | c :: cs,o,i,acc,h=>by
  have h0:=h 0 c O
  have ih:=run_loadCells b w cs o (i+1) (acc.push c) (fun j v hj=>by have:=h (j+1) v (by simpa using hj);rw [<- this];congr 2;omega)
  simp only [loadCellsFrom,kI,bZ,add_lit,Qt (P:=P) (by simpa using h0),iX,ih]
  congr 1
  apply Array.ext'
  simp
theorem iM {t:TypeId} {sz bytes:Nat} {zero:List av} (ht:Ty P t sz bytes zero false) {x:Operand} {b o:Nat} {v:av} (H:St N D w0 F G0 G L T a w) (hw:Region.wanted ⟨some d,.load t x,ty,pos,aG,g⟩ (yielded ops a.tmps)=true)
  (hx:ev T x=some (.pointer (some ⟨b,o,none⟩))) (hc:w.cell? ⟨b,o,none⟩=some v) (hd:Nat.blt d N=true)
  (k:∀ a',St N D w0 F G0 G L ((d,v) :: T) a' w->WL r P ops Q rest a' w):WL r P ops Q (⟨some d,.load t x,ty,pos,aG,g⟩ :: rest) a w:=by
 refine dQ (v:=v) (w':=w) hw O ?_ (k _ (H.put hd v H.hp))
 simp only [execOp,Instr.loadAt,Instr.sureAddr,loadVar,bZ,H.ev hx,ht.J3,iX,kJ,Ae,if_false,Qt hc]
theorem dX {t:TypeId} {sz bytes:Nat} {zero:List av} (ht:Ty P t sz bytes zero true) {x:Operand} {b o:Nat} {cs:List av} (H:St N D w0 F G0 G L T a w) (hw:Region.wanted ⟨some d,.load t x,ty,pos,aG,g⟩ (yielded ops a.tmps)=true)
  (hx:ev T x=some (.pointer (some ⟨b,o,none⟩))) (hl:cs.length=sz) (hc:∀ j v,cs[j]?=some v->w.cell? ⟨b,o+j,none⟩=some v) (hd:Nat.blt d N=true)
  (k:∀ a',St N D w0 F G0 G L ((d,.agg cs.toArray) :: T) a' w->WL r P ops Q rest a' w):WL r P ops Q (⟨some d,.load t x,ty,pos,aG,g⟩ :: rest) a w:=by
 refine dQ (v:=.agg cs.toArray) (w':=w) hw O ?_ (k _ (H.put hd _ H.hp))
 have h1:=run_loadCells (P:=P) b w cs o 0 #[] (fun j v hj=>by simpa using hc j v hj)
 simp only [Array.empty_append,hl] at h1
 simp [execOp,Instr.loadAt,Instr.sureAddr,loadVar,bZ,H.ev hx,ht.J3,ht.uK,loadCells,h1]
theorem Hp.dG (h:Hp w0 F G0 G L w) (i:Nat) {b o:Nat} {c:List av} {e:TypeId} {fz:Nat × Nat} {cs:List av} (hi:L[i]?=some (b,.cells c.toArray e fz)) (hv:(c.drop o).take cs.length=cs):∀ j v,cs[j]?=some v->w.cell? ⟨b,o+j,none⟩=some v:=by
 intro j v hj
 refine h.jc i hi ?_
 rw [<- hv,sj] at hj
 split at hj
 ·rw [List.getElem?_drop] at hj
  simpa using hj
 ·cases hj
theorem acI {b o:Nat} {c:Array av} {e:TypeId} {fz:Nat × Nat} (h:w.heap[b]?=some (.cells c e fz)) (v:av):pQ b (.cells (c.setIfInBounds o v) e fz) w (w.setCell ⟨b,o,none⟩ v):=by
 refine ⟨O,O,O,by simp,?_,fun k hk=>Below.heap_setCell w _ v k hk⟩
 simp [World.setCell,Array.getElem?_modify,h]
theorem pQ.trans {b:Nat} {o1 o2:Obj} {w1 w2 w3:World} (h:pQ b o1 w1 w2) (k:pQ b o2 w2 w3):pQ b o2 w1 w3 :=
 ⟨k.os.trans h.os,k.tape.trans h.tape,k.output.trans h.output,k.size.trans h.size,k.this,fun j hj=>(k.others j hj).trans (h.others j hj)⟩
theorem pQ.refl {b:Nat} {o:Obj} {w:World} (h:w.heap[b]?=some o):pQ b o w w:=⟨O,O,O,O,h,fun _ _=>rfl⟩
def oneCell':av->Bool
 | .agg _|.tuple _=>false
 | _=>true
def setRow (c:List av):Nat->List av->List av
 | _,[]=>c
 | o,v :: vs=>setRow (c.set o v) (o+1) vs
theorem aaw {b o:Nat} {c:Array av} {e:TypeId} {v:av} (hb:w.heap[b]?=some (.cells c e (0,0))) (ho:o < c.size) (hv:oneCell' v=true) :
  (store ⟨b,o,none⟩ v).run P w=.ok () (w.setCell ⟨b,o,none⟩ v):=by
 have h1:w.cell? ⟨b,o,none⟩=some c[o]:=by simp [World.cell?,hb,ho]
 have h2:w.frozen? ⟨b,o,none⟩=false:=by simp [World.frozen?,hb]
 unfold store
 cases v <;> first|(simp [oneCell'] at hv;done)|(simp only [Sem.run,h1,h2];rfl)
theorem Qv (b:Nat) (e:TypeId) (o0:Nat):∀ (vs:List av) (i:Nat) (c:List av) (w:World),w.heap[b]?=some (.cells c.toArray e (0,0))->o0+i+vs.length<=c.length->(∀ v∈vs,oneCell' v=true) ->
  ∃ w',(storeCells ⟨b,o0,none⟩ vs i).run P w=.ok () w'∧pQ b (.cells (setRow c (o0+i) vs).toArray e (0,0)) w w'
 | [],i,c,w,hb,_,_=>⟨w,by simp [storeCells,Sem.run],pQ.refl hb⟩
 | v :: vs,i,c,w,hb,hl,hv=>by
  simp only [kI] at hl
  have hr:=aaw (P:=P) (o:=o0+i) (v:=v) hb (by simp;omega) (hv v (by simp))
  have hu:=acI (o:=o0+i) hb v
  have hb':=hu.this
  simp only [List.setIfInBounds_toArray] at hb' hu
  obtain ⟨w2,h2,u2⟩:=Qv b e o0 vs (i+1) (c.set (o0+i) v) _ hb' (by simp;omega) (fun u hu=>hv u (by simp [hu]))
  refine ⟨w2,?_,?_⟩
  ·simp only [storeCells,bZ,add_lit,hr,iX,h2]
  ·exact hu.trans u2
theorem pz {t:TypeId} {sz bytes:Nat} {zero:List av} {agg:Bool} (ht:Ty P t sz bytes zero agg) {x y:Operand} (i:Nat) {b o:Nat} {c:List av} {e:TypeId} {v:av} {vs:List av} (c':List av) (H:St N D w0 F G0 G L T a w) (hw:Region.wanted ⟨none,.store t x y,ty,pos,aG,g⟩ (yielded ops a.tmps)=true)
  (hx:ev T x=some (.pointer (some ⟨b,o,none⟩))) (hi:L[i]?=some (b,.cells c.toArray e (0,0))) (hy:ev T y=some v) (hvs:v.cells=vs.toArray) (hl:Nat.beq vs.length sz=true) (h1:vs.all oneCell'=true) (hle:Nat.ble (o+vs.length) c.length=true) (hset:setRow c o vs=c')
  (k:∀ w',St N D w0 F G0 G (L.set i (b,.cells c'.toArray e (0,0))) T a w'->WL r P ops Q rest a w'):WL r P ops Q (⟨none,.store t x y,ty,pos,aG,g⟩ :: rest) a w:=by
 have hb:=H.hp.own _ (jK hi)
 obtain ⟨w2,h2,u2⟩:=Qv (P:=P) b e o vs 0 c w hb (by simpa using Nat.le_of_ble_eq_true hle) (fun u hu=>gq.1 h1 u hu)
 simp only [qZ,hset] at u2
 refine Sq (w':=w2) hw O ?_ (k w2 (H.move (H.hp.upd hi u2)))
 have hl':vs.length=sz:=uW hl
 simp [execOp,Instr.storeAt,Instr.sureAddr,storeVar,bZ,H.ev hx,H.ev hy,ht.uK,hvs,hl',h2]
class gQ (P:Program) (s n:Nat) (off:outParam Nat):Prop where
 h:(match P.underlying s with|some (.struct fs)=>(fs[n]?).bind fun f=>(P.info? f.type).map fun i=>(f.offset,i.size == 0)|_=>none)=some (off,false)
theorem gQ.parts {s n off:Nat} (h:gQ P s n off):∃ fs fl i,P.underlying s=some (.struct fs)∧fs[n]?=some fl∧P.info? fl.type=some i∧fl.offset=off∧i.size≠0:=by
 obtain ⟨h⟩:=h
 split at h
 ·rename_i fs hs
  obtain ⟨fl,hf,h2⟩:=Option.bind_eq_some_iff.1 h
  obtain ⟨i,hi,h3⟩:=mG.1 h2
  simp only [fP,beq_eq_false_iff_ne] at h3
  exact ⟨fs,fl,i,hs,hf,hi,h3.1,h3.2⟩
 ·cases h
theorem FI {s:TypeId} {x:Operand} {n b o off:Nat} (hs:gQ P s n off) (H:St N D w0 F G0 G L T a w) (hw:Region.wanted ⟨some d,.fieldAddr s x n,ty,pos,aG,g⟩ (yielded ops a.tmps)=true)
  (hx:ev T x=some (.pointer (some ⟨b,o,none⟩))) (hd:Nat.blt d N=true)
  (k:∀ a',St N D w0 F G0 G L ((d,.pointer (some ⟨b,o+off,none⟩)) :: T) a' w->WL r P ops Q rest a' w):WL r P ops Q (⟨some d,.fieldAddr s x n,ty,pos,aG,g⟩ :: rest) a w:=by
 obtain ⟨fs,fl,i,h1,h2,h3,h4,h5⟩:=hs.parts
 refine dQ (v:=.pointer (some ⟨b,o+off,none⟩)) (w':=w) hw O ?_ (k _ (H.put hd _ H.hp))
 simp only [execOp,Instr.fieldAt,Instr.sureAddr,bZ,H.ev hx,lq h1,h2,iX,kJ,fieldPlace,sizeOf,zJ h3,aJ h5,add_lit,h4]
theorem aT {s e:TypeId} {sz bytes:Nat} {zero:List av} {agg:Bool} (hs:P.underlying s=some (.slice e)) (ht:Ty P e sz bytes zero agg) {x y:Operand} {b o n c:Nat} {kd:IntKind} {z:Int} (i:Nat) (H:St N D w0 F G0 G L T a w) (hw:Region.wanted ⟨some d,.indexAddr s x y,ty,pos,aG,g⟩ (yielded ops a.tmps)=true)
  (hx:ev T x=some (.slice (some ⟨b,o,none⟩) n c)) (hy:ev T y=some (.int kd z)) (hz:z=(i:Int)) (hn:i < n) (hd:Nat.blt d N=true)
  (k:∀ a',St N D w0 F G0 G L ((d,.pointer (some ⟨b,o+i*sz,none⟩)) :: T) a' w->WL r P ops Q rest a' w):WL r P ops Q (⟨some d,.indexAddr s x y,ty,pos,aG,g⟩ :: rest) a w:=by
 subst hz
 refine dQ (v:=.pointer (some ⟨b,o+i*sz,none⟩)) (w':=w) hw O ?_ (k _ (H.put hd _ H.hp))
 have hr:(0:Int)<=i∧(i:Int) < (n:Int):=by omega
 simp only [execOp,Instr.indexAt,asIntOf,bZ,H.ev hx,H.ev hy,lq hs,iX,kJ,aM hr,ht.uK,add_lit,Int.toNat_natCast]
theorem fZ {x:Operand} {n:Nat} {vs:List av} {v:av} (H:St N D w0 F G0 G L T a w) (hw:Region.wanted ⟨some d,.extract x n,ty,pos,aG,g⟩ (yielded ops a.tmps)=true) (hx:ev T x=some (.tuple vs.toArray)) (hv:vs[n]?=some v) (hd:Nat.blt d N=true)
  (k:∀ a',St N D w0 F G0 G L ((d,v) :: T) a' w->WL r P ops Q rest a' w):WL r P ops Q (⟨some d,.extract x n,ty,pos,aG,g⟩ :: rest) a w :=
 dQ (v:=v) (w':=w) hw O (by simp [execOp,Instr.extract,H.ev hx,hv]) (k _ (H.put hd _ H.hp))
theorem sU {x:Operand} {p:Addr} (H:St N D w0 F G0 G L T a w) (hw:Region.wanted ⟨some d,.nilCheck x,ty,pos,aG,g⟩ (yielded ops a.tmps)=true) (hx:ev T x=some (.pointer (some p))) (hd:Nat.blt d N=true)
  (k:∀ a',St N D w0 F G0 G L ((d,.pointer (some p)) :: T) a' w->WL r P ops Q rest a' w):WL r P ops Q (⟨some d,.nilCheck x,ty,pos,aG,g⟩ :: rest) a w :=
 dQ (v:=.pointer (some p)) (w':=w) hw O (by simp [execOp,H.ev hx]) (k _ (H.put hd _ H.hp))
theorem DC {fn:Fn} {xs:List Operand} {vs:List av} (H:St N D w0 F G0 G L T a w) (hw:Region.wanted ⟨some d,.makeFunc fn #[] xs.toArray,ty,pos,aG,g⟩ (yielded ops a.tmps)=true) (hx:evs T xs=some vs) (hd:Nat.blt d N=true)
  (k:∀ a',St N D w0 F G0 G L ((d,.func fn #[] vs.toArray) :: T) a' w->WL r P ops Q rest a' w):WL r P ops Q (⟨some d,.makeFunc fn #[] xs.toArray,ty,pos,aG,g⟩ :: rest) a w :=
 dQ (v:=.func fn #[] vs.toArray) (w':=w) hw O (by simp [execOp,Instr.makeFunc,H.evs hx]) (k _ (H.put hd _ H.hp))
def um (pl:List (Nat × Nat)):List av->List (Nat × List av)->Option (List av)
 | c,[]=>some c
 | c,(i,vs) :: rest=>match pl[i]? with
  | none=>none
  | some (off,size)=>bif Nat.beq vs.length size && Nat.ble (off+vs.length) c.length then um pl (setRow c off vs) rest else none
theorem Od (off:Nat):∀ (vs:List av) (j:Nat) (c:List av),
  ((vs.zipIdx j).toArray).foldl (fun cs (x:av × Nat)=>cs.setIfInBounds (off+x.2) x.1) c.toArray=(setRow c (off+j) vs).toArray
 | [],j,c=>by simp [setRow]
 | v :: vs,j,c=>by
  have ih:=Od off vs (j+1) (c.set (off+j) v)
  simp only [List.zipIdx_cons,List.foldl_toArray'] at *
  simp only [List.foldl_cons,List.setIfInBounds_toArray]
  exact ih
theorem fill_eq (place:Nat->Option (Nat × Nat)) (pl:List (Nat × Nat)) (hp:∀ i q,pl[i]?=some q->place i=some q):∀ (parts:List (Nat × av)) (Fy:List (Nat × List av)) (c c':List av),
  parts.map (fun x=>(x.1,x.2.cells.toList))=Fy->um pl c Fy=some c'->Instr.fill place c.toArray parts=some c'.toArray
 | [],Fy,c,c',hm,h=>by subst hm;simp [um] at h;subst h;rfl
 | (i,v) :: parts,Fy,c,c',hm,h=>by
  subst hm
  simp only [iT,um] at h
  split at h
  ·cases h
  ·rename_i off size hq
   cases hcond:(Nat.beq v.cells.toList.length size && Nat.ble (off+v.cells.toList.length) c.length) with
   | false=>rw [hcond] at h;cases h
   | true =>
    rw [hcond] at h
    simp only [gT] at hcond
    have e1:=uW hcond.1
    have e2:=Nat.le_of_ble_eq_true hcond.2
    have ih:=fill_eq place pl hp parts _ (setRow c off v.cells.toList) c' O h
    have hf:=Od off v.cells.toList 0 c
    simp only [qZ] at hf
    simp only [Array.length_toList] at e1 e2
    unfold Instr.fill
    rw [hp i _ hq]
    have hz:(v.cells.zipIdx:Array (av × Nat))=((v.cells.toList.zipIdx 0).toArray):=by
     apply Array.ext';simp
    simp only [e1,ne_eq,not_true_eq_false,Ae,decide_false,Bool.false_or,List.size_toArray]
    rw [aJ (by simp;omega),hz,hf]
    exact ih
structure qX (P:Program) (t:TypeId) (pl:List (Nat × Nat)) (zero:List av):Prop where
 h:(match P.underlying t with|some (.struct fs)=>some (fs.toList.map fun f=>(f.offset,(P.info? f.type).map (·.size)))|_=>none)=some (pl.map fun q=>(q.1,some q.2))
 z:(P.info? t).map (fun i=>i.zero.map fun z=>z.cells.toList)=some (some zero)
end steps
end
section
section steps
variable {N:Nat} {D:List Deferred} {w0:World} {F:Nat->Prop} {G0 G:GH} {L:List (Nat × Obj)} {T:List (Nat × av)}
variable {r:Option Nat} {P:Program} {ops:Array Oper} {Q:Exit->Act->World->Prop} {rest:List Oper} {a:Act} {w:World}
variable {d:Nat} {ty:TypeId} {pos:String} {aG:Array Edge} {g:Option (Nat × Bool)}
theorem qX.parts {t:TypeId} {pl:List (Nat × Nat)} {zero:List av} (h:qX P t pl zero):∃ fs i z,P.underlying t=some (.struct fs)∧P.info? t=some i∧i.zero=some z∧z.cells=zero.toArray ∧
  fs.toList.map (fun f=>(f.offset,(P.info? f.type).map (·.size)))=pl.map fun q=>(q.1,some q.2):=by
 obtain ⟨h,hz⟩:=h
 obtain ⟨i,hi,hx⟩:=mG.1 hz
 obtain ⟨z,hz1,hz2⟩:=mG.1 hx
 split at h
 ·rename_i fs hs
  exact ⟨fs,i,z,hs,hi,hz1,by rw [<- hz2],by simpa using h⟩
 ·cases h
theorem Qu (w:World):∀ (fs:List Field) (pl:List (Nat × Nat)),fs.map (fun f=>(f.offset,(P.info? f.type).map (·.size)))=pl.map (fun q=>(q.1,some q.2)) ->
  (fs.mapM (fun f=>(do pure (f.offset,<- sizeOf f.type):Sem (Nat × Nat)))).run P w=.ok pl w
 | [],[],_=>by simp [Sem.run]
 | [],q :: pl,h=>by simp at h
 | f :: fs,[],h=>by simp at h
 | f :: fs,q :: pl,h=>by
  simp only [iT,List.cons.injEq,fP] at h
  obtain ⟨⟨h1,h2⟩,h3⟩:=h
  obtain ⟨i,hi,hs⟩:=mG.1 h2
  have ih:=Qu w fs pl h3
  have hsz:(sizeOf f.type).run P w=.ok q.2 w:=by simp only [sizeOf,bZ,zJ hi,iX,kJ,hs]
  simp only [List.mapM_cons,bZ,hsz,iX,kJ,ih,h1]
theorem run_build {t:TypeId} {pl:List (Nat × Nat)} {zero:List av} (h:qX P t pl zero) {parts:Array (Nat × av)} {cs:List av}
  (hf:um pl zero (parts.toList.map fun x=>(x.1,x.2.cells.toList))=some cs) (w:World):(Instr.build t parts).run P w=.ok (.agg cs.toArray) w:=by
 obtain ⟨fs,i,z,h1,h2,h3,h4,h5⟩:=h.parts
 have hm:=Qu (P:=P) w fs.toList pl h5
 have hm':(fs.mapM (fun f=>(do pure (f.offset,<- sizeOf f.type):Sem (Nat × Nat)))).run P w=.ok pl.toArray w:=by
  rw [Array.mapM_eq_mapM_toList]
  simp only [map_eq_pure_bind,bZ,hm,iX,kJ]
 have CO:=fill_eq (fun i=>pl.toArray[i]?) pl (fun i q hq=>by simpa using hq) parts.toList _ zero cs O hf
 simp only [Instr.build,zeroValue,bZ,zJ h2,h3,iX,kJ,h4,lq h1,hm',CO]
def pts (T:List (Nat × av)):List (Nat × Operand)->Option (List (Nat × av))
 | []=>some []
 | (i,x) :: q=>match ev T x,pts T q with|some v,some vs=>some ((i,v) :: vs)|_,_=>none
theorem St.pts (H:St N D w0 F G0 G L T a w):∀ {xs:List (Nat × Operand)} {vs:List (Nat × av)},Proofs.YtomebajfpcjoeaaDoor.pts T xs=some vs->xs.map (fun x=>(x.1,a.eval x.2))=vs
 | [],vs,hx=>by simp [Proofs.YtomebajfpcjoeaaDoor.pts] at hx;subst hx;rfl
 | (i,x) :: xs,vs,hx=>by
  unfold Proofs.YtomebajfpcjoeaaDoor.pts at hx
  split at hx
  ·rename_i v vs' h1 h2
   simp only [ku] at hx
   subst hx
   rw [iT,H.ev h1,H.pts h2]
  ·cases hx
theorem kF {t:TypeId} {pl:List (Nat × Nat)} {zero:List av} (ht:qX P t pl zero) {xs:List (Nat × Operand)} {vs:List (Nat × av)} {vs':List (Nat × List av)} (cs:List av) (H:St N D w0 F G0 G L T a w) (hw:Region.wanted ⟨some d,.build t xs.toArray,ty,pos,aG,g⟩ (yielded ops a.tmps)=true)
  (hx:pts T xs=some vs) (hv:vs.map (fun x=>(x.1,x.2.cells.toList))=vs') (hf:um pl zero vs'=some cs) (hd:Nat.blt d N=true)
  (k:∀ a',St N D w0 F G0 G L ((d,.agg cs.toArray) :: T) a' w->WL r P ops Q rest a' w):WL r P ops Q (⟨some d,.build t xs.toArray,ty,pos,aG,g⟩ :: rest) a w:=by
 refine dQ (v:=.agg cs.toArray) (w':=w) hw O ?_ (k _ (H.put hd _ H.hp))
 have h1:=run_build ht (parts:=(vs.toArray)) (cs:=cs) (by simpa [hv] using hf) w
 simp only [execOp,List.map_toArray,H.pts hx,bZ,h1,iX,kJ]
theorem eU {t e:TypeId} {sz bytes:Nat} {zero:List av} {agg:Bool} (hs:P.underlying t=some (.slice e)) (ht:Ty P e sz bytes zero agg) {n:Nat} {xs:List (Nat × Operand)} {vs:List (Nat × av)} {vs':List (Nat × List av)} (z:List av) (cs:List av) (H:St N D w0 F G0 G L T a w) (hw:Region.wanted ⟨some d,.buildSlice t n xs.toArray,ty,pos,aG,g⟩ (yielded ops a.tmps)=true)
  (hx:pts T xs=some vs) (hv:vs.map (fun x=>(x.1,x.2.cells.toList))=vs') (hn:Nat.ble (n*sz) 1000=true) (hn0:Nat.beq (n*sz) 0=false) (hz:(List.range (n*sz)).map (fun i=>zero[i % zero.length]!)=z) (hpl:∀ i q,((List.range n).map fun i=>(i*sz,sz))[i]?=some q->(some (i*sz,sz):Option (Nat × Nat))=some q)
  (hf:um ((List.range n).map fun i=>(i*sz,sz)) z vs'=some cs) (hd:Nat.blt d N=true)
  (k:∀ b a' w',w0.heap.size<=b->St N D w0 F G0 G ((b,.cells cs.toArray e (0,0)) :: L) ((d,.slice (some ⟨b,0,none⟩) n n) :: T) a' w'->WL r P ops Q rest a' w'):WL r P ops Q (⟨some d,.buildSlice t n xs.toArray,ty,pos,aG,g⟩ :: rest) a w:=by
 refine dQ (v:=.slice (some ⟨w.heap.size,0,none⟩) n n) (w':=w.alloc (.cells cs.toArray e (0,0))) hw O ?_ (k _ _ _ H.hp.size (H.put hd _ (H.hp.alloc _)))
 obtain ⟨z0,hz0,hzc⟩:=ht.Qw w
 have h16:¬ n*sz > 2 ^ 24:=by have:=Nat.le_of_ble_eq_true hn;simp;omega
 have h0:¬ n*sz=0:=by intro e;rw [e] at hn0;cases hn0
 have CO:=fill_eq (fun i=>some (i*sz,sz)) _ hpl vs vs' z cs hv hf
 have hz':(Array.range (n*sz)).map (fun x=>zero.toArray[x % zero.toArray.size]!)=z.toArray:=by
  rw [<- hz];apply Array.ext';simp
 simp only [execOp,List.map_toArray,H.pts hx,Instr.buildSlice,bZ,lq hs,iX,ht.uK,aJ h16,aJ h0,hz0,hzc,kJ,hz',CO,newRow,newObj,Sem.run]
 rfl
theorem wL {z:Int} (h1:-9223372036854775808<=z) (h2:z < 9223372036854775808):IntKind.i64.wrap z=z:=by
 unfold IntKind.wrap
 have e:(2:Int) ^ 64=18446744073709551616:=by decide
 have e':(2:Int) ^ (64 - 1)=9223372036854775808:=by decide
 simp only [IntKind.bits,IntKind.signed,Bool.true_and,e,e',dH]
 split <;> omega
theorem nK {x y:Operand} {t yt:TypeId} {p q:Int} (z:Int) (H:St N D w0 F G0 G L T a w) (hw:Region.wanted ⟨some d,.binOp .add t x y yt,ty,pos,aG,g⟩ (yielded ops a.tmps)=true) (hx:ev T x=some (.int .i64 p)) (hy:ev T y=some (.int .i64 q)) (hz:p+q=z) (h1:-9223372036854775808<=z) (h2:z < 9223372036854775808) (hd:Nat.blt d N=true)
  (k:∀ a',St N D w0 F G0 G L ((d,.int .i64 z) :: T) a' w->WL r P ops Q rest a' w):WL r P ops Q (⟨some d,.binOp .add t x y yt,ty,pos,aG,g⟩ :: rest) a w :=
 dQ (v:=.int .i64 z) (w':=w) hw O (by simp [execOp,eqGuard,binOp,Op.intArith,H.ev hx,H.ev hy,bZ,hz,wL h1 h2]) (k _ (H.put hd _ H.hp))
theorem zO {x y:Operand} {t yt:TypeId} {p q:Int} (z:Int) (H:St N D w0 F G0 G L T a w) (hw:Region.wanted ⟨some d,.binOp .sub t x y yt,ty,pos,aG,g⟩ (yielded ops a.tmps)=true) (hx:ev T x=some (.int .i64 p)) (hy:ev T y=some (.int .i64 q)) (hz:p - q=z) (h1:-9223372036854775808<=z) (h2:z < 9223372036854775808) (hd:Nat.blt d N=true)
  (k:∀ a',St N D w0 F G0 G L ((d,.int .i64 z) :: T) a' w->WL r P ops Q rest a' w):WL r P ops Q (⟨some d,.binOp .sub t x y yt,ty,pos,aG,g⟩ :: rest) a w :=
 dQ (v:=.int .i64 z) (w':=w) hw O (by simp [execOp,eqGuard,binOp,Op.intArith,H.ev hx,H.ev hy,bZ,hz,wL h1 h2]) (k _ (H.put hd _ H.hp))
theorem zM {x y:Operand} {t yt:TypeId} {p q:Int} (z:Int) (H:St N D w0 F G0 G L T a w) (hw:Region.wanted ⟨some d,.binOp .mul t x y yt,ty,pos,aG,g⟩ (yielded ops a.tmps)=true) (hx:ev T x=some (.int .i64 p)) (hy:ev T y=some (.int .i64 q)) (hz:p*q=z) (h1:-9223372036854775808<=z) (h2:z < 9223372036854775808) (hd:Nat.blt d N=true)
  (k:∀ a',St N D w0 F G0 G L ((d,.int .i64 z) :: T) a' w->WL r P ops Q rest a' w):WL r P ops Q (⟨some d,.binOp .mul t x y yt,ty,pos,aG,g⟩ :: rest) a w :=
 dQ (v:=.int .i64 z) (w':=w) hw O (by simp [execOp,eqGuard,binOp,Op.intArith,H.ev hx,H.ev hy,bZ,hz,wL h1 h2]) (k _ (H.put hd _ H.hp))
def Co:BinOp->Int->Int->Option Bool
 | .eql,x,y=>some (decide (x=y))
 | .neq,x,y=>some (decide (¬ x=y))
 | .lss,x,y=>some (decide (x < y))
 | .leq,x,y=>some (decide (x<=y))
 | .gtr,x,y=>some (decide (y < x))
 | .geq,x,y=>some (decide (y<=x))
 | _,_,_=>none
theorem aar {op:BinOp} {kd:IntKind} {x y:Int} {b:Bool} (h:Co op x y=some b) (t:TypeId) (X qq:Operand) (w:World):(do eqGuard op t X qq (.int kd x) (.int kd y);binOp op t (.int kd x) (.int kd y):Sem av).run P w=.ok (.bool b) w:=by
 cases op <;> simp only [Co,ku,reduceCtorEq] at h <;> subst h <;> simp [eqGuard,binOp,Op.intCmp,bZ]
 ·rfl
 ·rfl
theorem wS {op:BinOp} {x y:Operand} {t yt:TypeId} {kd:IntKind} {p q:Int} {b:Bool} (H:St N D w0 F G0 G L T a w) (hw:Region.wanted ⟨some d,.binOp op t x y yt,ty,pos,aG,g⟩ (yielded ops a.tmps)=true) (hx:ev T x=some (.int kd p)) (hy:ev T y=some (.int kd q)) (hb:Co op p q=some b) (hd:Nat.blt d N=true)
  (k:∀ a',St N D w0 F G0 G L ((d,.bool b) :: T) a' w->WL r P ops Q rest a' w):WL r P ops Q (⟨some d,.binOp op t x y yt,ty,pos,aG,g⟩ :: rest) a w:=by
 refine dQ (v:=.bool b) (w':=w) hw O ?_ (k _ (H.put hd _ H.hp))
 have h1:=aar (P:=P) (kd:=kd) hb t x y w
 simp only [execOp,H.ev hx,H.ev hy]
 rw [bZ,h1]
 rfl
theorem FK {x:Operand} {t:TypeId} {b:Bool} (H:St N D w0 F G0 G L T a w) (hw:Region.wanted ⟨some d,.unOp .not t x,ty,pos,aG,g⟩ (yielded ops a.tmps)=true) (hx:ev T x=some (.bool b)) (hd:Nat.blt d N=true)
  (k:∀ a',St N D w0 F G0 G L ((d,.bool (!b)) :: T) a' w->WL r P ops Q rest a' w):WL r P ops Q (⟨some d,.unOp .not t x,ty,pos,aG,g⟩ :: rest) a w :=
 dQ (v:=.bool (!b)) (w':=w) hw O (by simp [execOp,Op.unary,H.ev hx,bZ]) (k _ (H.put hd _ H.hp))
def nS (op:BinOp) (k:IntKind) (x y:Int):Int :=
 let a:=BitVec.ofInt k.bits x
 let b:=BitVec.ofInt k.bits y
 k.wrap (match op with|.and=>(a &&& b).toNat|.or=>(a ||| b).toNat|.xor=>(a ^^^ b).toNat|_=>(a &&& ~~~b).toNat)
theorem FH {op:BinOp} {x y:Operand} {t yt:TypeId} {kd:IntKind} {p q:Int} (hop:(match op with|.and|.or|.xor|.andNot=>true|_=>false)=true) (H:St N D w0 F G0 G L T a w) (hw:Region.wanted ⟨some d,.binOp op t x y yt,ty,pos,aG,g⟩ (yielded ops a.tmps)=true) (hx:ev T x=some (.int kd p)) (hy:ev T y=some (.int kd q)) (hd:Nat.blt d N=true)
  (k:∀ a',St N D w0 F G0 G L ((d,.int kd (nS op kd p q)) :: T) a' w->WL r P ops Q rest a' w):WL r P ops Q (⟨some d,.binOp op t x y yt,ty,pos,aG,g⟩ :: rest) a w:=by
 refine dQ (v:=.int kd (nS op kd p q)) (w':=w) hw O ?_ (k _ (H.put hd _ H.hp))
 cases op <;> simp only [Ae] at hop <;> simp [execOp,eqGuard,binOp,Op.intBits,H.ev hx,H.ev hy,nS]
theorem aaV {x y:Operand} {t yt:TypeId} {kd ky:IntKind} {p q:Int} (n:Nat) (H:St N D w0 F G0 G L T a w) (hw:Region.wanted ⟨some d,.binOp .shl t x y yt,ty,pos,aG,g⟩ (yielded ops a.tmps)=true) (hx:ev T x=some (.int kd p)) (hy:ev T y=some (.int ky q)) (hq:q=(n:Int)) (hn:n<=kd.bits) (hd:Nat.blt d N=true)
  (k:∀ a',St N D w0 F G0 G L ((d,.int kd (kd.wrap (p*2 ^ n))) :: T) a' w->WL r P ops Q rest a' w):WL r P ops Q (⟨some d,.binOp .shl t x y yt,ty,pos,aG,g⟩ :: rest) a w:=by
 subst hq
 refine dQ (v:=.int kd (kd.wrap (p*2 ^ n))) (w':=w) hw O ?_ (k _ (H.put hd _ H.hp))
 have h0:¬ ((n:Int) < 0):=by omega
 have h1:min n kd.bits=n:=by omega
 simp [execOp,eqGuard,binOp,Op.shift,H.ev hx,H.ev hy,h0,h1]
theorem J7 {x y:Operand} {t yt:TypeId} {kd ky:IntKind} {p q:Int} (n:Nat) (H:St N D w0 F G0 G L T a w) (hw:Region.wanted ⟨some d,.binOp .shr t x y yt,ty,pos,aG,g⟩ (yielded ops a.tmps)=true) (hx:ev T x=some (.int kd p)) (hy:ev T y=some (.int ky q)) (hq:q=(n:Int)) (hn:n<=kd.bits) (hd:Nat.blt d N=true)
  (k:∀ a',St N D w0 F G0 G L ((d,.int kd (p.fdiv (2 ^ n))) :: T) a' w->WL r P ops Q rest a' w):WL r P ops Q (⟨some d,.binOp .shr t x y yt,ty,pos,aG,g⟩ :: rest) a w:=by
 subst hq
 refine dQ (v:=.int kd (p.fdiv (2 ^ n))) (w':=w) hw O ?_ (k _ (H.put hd _ H.hp))
 have h0:¬ ((n:Int) < 0):=by omega
 have h1:min n kd.bits=n:=by omega
 simp [execOp,eqGuard,binOp,Op.shift,H.ev hx,H.ev hy,h0,h1]
theorem yD {x:Operand} {t u:TypeId} {kd ks:IntKind} {p:Int} {su:TypeDesc} (z:Int) (hu:P.underlying u=some (.int kd)) (ht:P.underlying t=some su) (H:St N D w0 F G0 G L T a w) (hw:Region.wanted ⟨some d,.convert t u x,ty,pos,aG,g⟩ (yielded ops a.tmps)=true) (hx:ev T x=some (.int ks p)) (hz:kd.wrap p=z) (hd:Nat.blt d N=true)
  (k:∀ a',St N D w0 F G0 G L ((d,.int kd z) :: T) a' w->WL r P ops Q rest a' w):WL r P ops Q (⟨some d,.convert t u x,ty,pos,aG,g⟩ :: rest) a w:=by
 refine dQ (v:=.int kd z) (w':=w) hw O ?_ (k _ (H.put hd _ H.hp))
 simp [execOp,convert,lq hu,lq ht,H.ev hx,bZ,Conv.intToInt,hz]
theorem zL {x y:Operand} {t:TypeId} {s:ByteArray} {kd:IntKind} {z:Int} (i:Nat) (ht:P.underlying t=some .string) (H:St N D w0 F G0 G L T a w) (hw:Region.wanted ⟨some d,.index t x y,ty,pos,aG,g⟩ (yielded ops a.tmps)=true) (hx:ev T x=some (.string s)) (hy:ev T y=some (.int kd z)) (hz:z=(i:Int)) (hi:i < s.size) (hd:Nat.blt d N=true)
  (k:∀ a',St N D w0 F G0 G L ((d,.int .u8 (s[i].toNat:Int)) :: T) a' w->WL r P ops Q rest a' w):WL r P ops Q (⟨some d,.index t x y,ty,pos,aG,g⟩ :: rest) a w:=by
 subst hz
 refine dQ (v:=.int .u8 (s[i].toNat:Int)) (w':=w) hw O ?_ (k _ (H.put hd _ H.hp))
 simp [execOp,Instr.index,asIntOf,lq ht,H.ev hx,H.ev hy,bZ,hi]
theorem wT {x:Operand} {t e:TypeId} {A:Option Addr} {n c:Nat} (hs:P.underlying t=some (.slice e)) (H:St N D w0 F G0 G L T a w) (hw:Region.wanted ⟨some d,.call { callee:=.builtin .len,args:=#[x],argTypes:=#[t] },ty,pos,aG,g⟩ (yielded ops a.tmps)=true) (hx:ev T x=some (.slice A n c)) (hd:Nat.blt d N=true)
  (k:∀ a',St N D w0 F G0 G L ((d,.int .i64 n) :: T) a' w->WL r P ops Q rest a' w):WL r P ops Q (⟨some d,.call { callee:=.builtin .len,args:=#[x],argTypes:=#[t] },ty,pos,aG,g⟩ :: rest) a w :=
 dQ (v:=.int .i64 n) (w':=w) hw O (by simp [execOp,resolve,invoke,builtin,Builtin.len_,H.ev hx,bZ,lq hs,goInt]) (k _ (H.put hd _ H.hp))
theorem aaJ {x:Operand} {t:TypeId} {s:ByteArray} (hs:P.underlying t=some .string) (H:St N D w0 F G0 G L T a w) (hw:Region.wanted ⟨some d,.call { callee:=.builtin .len,args:=#[x],argTypes:=#[t] },ty,pos,aG,g⟩ (yielded ops a.tmps)=true) (hx:ev T x=some (.string s)) (hd:Nat.blt d N=true)
  (k:∀ a',St N D w0 F G0 G L ((d,.int .i64 s.size) :: T) a' w->WL r P ops Q rest a' w):WL r P ops Q (⟨some d,.call { callee:=.builtin .len,args:=#[x],argTypes:=#[t] },ty,pos,aG,g⟩ :: rest) a w :=
 dQ (v:=.int .i64 s.size) (w':=w) hw O (by simp [execOp,resolve,invoke,builtin,Builtin.len_,H.ev hx,bZ,lq hs,goInt]) (k _ (H.put hd _ H.hp))
theorem FJ {x y:Operand} {t t':TypeId} {kd:IntKind} {p q:Int} (H:St N D w0 F G0 G L T a w) (hw:Region.wanted ⟨some d,.call { callee:=.builtin .max,args:=#[x,y],argTypes:=#[t,t'] },ty,pos,aG,g⟩ (yielded ops a.tmps)=true) (hx:ev T x=some (.int kd p)) (hy:ev T y=some (.int kd q)) (hd:Nat.blt d N=true)
  (k:∀ a',St N D w0 F G0 G L ((d,.int kd (max p q)) :: T) a' w->WL r P ops Q rest a' w):WL r P ops Q (⟨some d,.call { callee:=.builtin .max,args:=#[x,y],argTypes:=#[t,t'] },ty,pos,aG,g⟩ :: rest) a w:=by
 refine dQ (v:=.int kd (max p q)) (w':=w) hw O ?_ (k _ (H.put hd _ H.hp))
 have e:(if q > p then q else p)=max p q:=by omega
 simp [execOp,resolve,invoke,builtin,Builtin.max_,Builtin.max2,H.ev hx,H.ev hy,bZ,e]
theorem DF {x y:Operand} {t t':TypeId} {kd:IntKind} {p q:Int} (H:St N D w0 F G0 G L T a w) (hw:Region.wanted ⟨some d,.call { callee:=.builtin .min,args:=#[x,y],argTypes:=#[t,t'] },ty,pos,aG,g⟩ (yielded ops a.tmps)=true) (hx:ev T x=some (.int kd p)) (hy:ev T y=some (.int kd q)) (hd:Nat.blt d N=true)
  (k:∀ a',St N D w0 F G0 G L ((d,.int kd (min p q)) :: T) a' w->WL r P ops Q rest a' w):WL r P ops Q (⟨some d,.call { callee:=.builtin .min,args:=#[x,y],argTypes:=#[t,t'] },ty,pos,aG,g⟩ :: rest) a w:=by
 refine dQ (v:=.int kd (min p q)) (w':=w) hw O ?_ (k _ (H.put hd _ H.hp))
 have e:(if q < p then q else p)=min p q:=by omega
 simp [execOp,resolve,invoke,builtin,Builtin.min_,Builtin.min2,H.ev hx,H.ev hy,bZ,e]
def cO (w:World) (G:GH) (R:av->GH->Prop):Ending->World->Prop:=fun e w'=>∃ v G',e=.returned v∧Below w.heap.size w w'∧Ext w.heap.size G G' w'∧R v G'
def Hold (G:GH) (w:World):Prop:=∀ k o,G k=some o->w.heap[k]?=some o
theorem s_call {f:FuncId} {xs:List Operand} {vs:List av} {ts:Array TypeId} {R:av->GH->Prop} (en:∀ args w,(callFunc f args).run P w=.ok (.enter f args) w) (H:St N D w0 F G0 G L T a w) (hw:Region.wanted ⟨some d,.call { callee:=.value (.func f),args:=xs.toArray,argTypes:=ts },ty,pos,aG,g⟩ (yielded ops a.tmps)=true)
  (hx:evs T xs=some vs) (hc:Calls P f vs.toArray w (cO w G R)) (hd:Nat.blt d N=true)
  (k:∀ v G' a' w',R v G'->(∀ k o,G k=some o->G' k=some o)->St N D w0 F G0 G' L ((d,v) :: T) a' w'->WL r P ops Q rest a' w'):WL r P ops Q (⟨some d,.call { callee:=.value (.func f),args:=xs.toArray,argTypes:=ts },ty,pos,aG,g⟩ :: rest) a w:=by
 refine Lb (nx:=.ok (.enter f vs.toArray) w) (R:=cO w G R) hw O ?_ hc ?_
 ·have h1:=H.evs hx
  simp [execOp,resolve,Act.eval,Deferred.ofValue,invoke,bZ,h1,en]
 ·rintro e w' ⟨v,G',rfl,hb,hX,hR⟩
  exact ⟨v,O,k v G' _ w' hR hX.1 (H.put hd v (H.hp.Ms hb hX))⟩
theorem iF {x y:Code} (h:∀ K:Act->World->Prop,(∀ a w,WP r P y Q a w->K a w)->WP r P x (Exit.then K Q) a w):WP r P (.seq x y) Q a w:=wpIn_seq_k h
theorem uf {id:Nat} {l:List Oper} (h:WL r P l.toArray Q l a w):WP r P (.region id l.toArray false) Q a w:=wpIn_region_lit h
theorem jL {id:Nat} {l:List Oper} {y:Code} (h:∀ K:Act->World->Prop,(∀ a w,WP r P y Q a w->WL r P l.toArray (Exit.then K Q) [] a w)->WL r P l.toArray (Exit.then K Q) l a w):WP r P (.seq (.region id l.toArray false) y) Q a w:=iF fun K hK=>uf (h K fun a w h=>aj (hK a w h))
theorem mh (h:Q .normal a w):WP r P .skip Q a w:=wpIn_skip h
theorem aV (h:Q .ret a w):WP r P .ret Q a w:=wpIn_ret h
theorem dD {id:Nat} (h:Q (.exit id) a w):WP r P (.exit id) Q a w:=wpIn_exit h
theorem xO {id:Nat} {c:Code} (h:WP r P c (Exit.inBlock id Q) a w):WP r P (.block id c) Q a w:=wpIn_block h
theorem vk {c:Operand} {x y:Code} {b:Bool} (H:St N D w0 F G0 G L T a w) (hc:ev T c=some (.bool b)) (h1:b=true->WP r P x Q a w) (h0:b=false->WP r P y Q a w):WP r P (.cond c x y) Q a w :=
 wpIn_cond_split (H.ev hc) h1 h0
theorem Cj {c:Operand} {x y:Code} {b:Bool} (H:St N D w0 F G0 G L T a w) (hc:ev T c=some (.bool b)) (hb:b=true) (h1:WP r P x Q a w):WP r P (.cond c x y) Q a w :=
 wpIn_cond_true (by rw [H.ev hc,hb]) h1
theorem sH {c:Operand} {x y:Code} {b:Bool} (H:St N D w0 F G0 G L T a w) (hc:ev T c=some (.bool b)) (hb:b=false) (h1:WP r P y Q a w):WP r P (.cond c x y) Q a w :=
 wpIn_cond_false (by rw [H.ev hc,hb]) h1
theorem Ui {ι:Type} {c:Code} (qv:ι->Act->World->Prop) (m:ι->Nat) (i0:ι) (h0:qv i0 a w)
  (round:∀ i a w,qv i a w->WP r P c (Exit.then (fun a' w'=>∃ i',qv i' a' w'∧m i' < m i) Q) a w):WP r P (.loop c) Q a w:=by
 intro b k cs hro hb hr
 have key:∀ j i a w,m i=j->qv i a w ->
   ∃ e a' w',Q e a' w'∧ArrivesIn (Machine.fenced P (FW r)) P (lone (b.atR a (.code c :: .inLoop c :: k)) cs w) b k cs e a' w':=by
  intro j
  induction j using Nat.strongRecOn with
  | _ j ih =>
   intro i a w hn hI
   obtain ⟨e,a₁,w₁,hq,harr⟩:=round i a w hI b (.inLoop c :: k) cs hro hb hr
   cases e with
   | normal =>
    obtain ⟨i',hI₁,hlt⟩:=hq
    obtain ⟨e₂,a₂,w₂,hq₂,harr₂⟩:=ih (m i') (hn ▸ hlt) i' a₁ w₁ O hI₁
    exact ⟨e₂,a₂,w₂,hq₂,.of_steps (StepsIn.trans harr (.one (fenced_calm hb hr O) stepR_inLoop)) harr₂⟩
   | exit id=>exact ⟨_,a₁,w₁,hq,.pass (x:=.inLoop c) O (fun _ _=>.inl (by simp)) harr⟩
   | goto l=>exact ⟨_,a₁,w₁,hq,.pass (x:=.inLoop c) O (fun _ _=>.inl (by simp)) harr⟩
   | ret=>exact ⟨_,a₁,w₁,hq,.pass (x:=.inLoop c) O (fun _ _=>.inl (by simp)) harr⟩
   | panic ch=>exact ⟨_,a₁,w₁,hq,.pass (x:=.inLoop c) O (fun _ _=>.inl (by simp)) harr⟩
   | outgrown=>exact ⟨_,a₁,w₁,hq,.pass (x:=.inLoop c) O (fun _ _=>.inl (by simp)) harr⟩
 obtain ⟨e,a',w',hq,harr⟩:=key _ i0 a w O h0
 exact ⟨e,a',w',hq,.of_steps (.one (fenced_calm hb hr O) stepR_loop) harr⟩
theorem eG {ι:Type} {c:Code} {Tc:List (Nat × av)} {Lc:List (Nat × Obj)} (Tv:ι->List (Nat × av)) (Lv:ι->List (Nat × Obj)) (Gv:ι->GH) (Pr:ι->Prop) (m:ι->Nat) (i0:ι)
  (H:St N D w0 F G0 (Gv i0) (Lc++Lv i0) (Tv i0++Tc) a w) (hP:Pr i0)
  (round:∀ i a w,Pr i->St N D w0 F G0 (Gv i) (Lc++Lv i) (Tv i++Tc) a w ->
   WP r P c (Exit.then (fun a' w'=>∃ i',(St N D w0 F G0 (Gv i') (Lc++Lv i') (Tv i'++Tc) a' w'∧Pr i')∧m i' < m i) Q) a w):WP r P (.loop c) Q a w :=
 Ui (fun i a w=>St N D w0 F G0 (Gv i) (Lc++Lv i) (Tv i++Tc) a w∧Pr i) m i0 ⟨H,hP⟩ fun i a w hI=>round i a w hI.2 hI.1
theorem JF {ι:Type} {Tc:List (Nat × av)} {Lc:List (Nat × Obj)} {Tv:ι->List (Nat × av)} {Lv:ι->List (Nat × Obj)} {Gv:ι->GH} {Pr:ι->Prop} {m:ι->Nat} {i:ι} (i':ι)
  (H:St N D w0 F G0 (Gv i') (Lc++Lv i') (Tv i'++Tc) a w) (hP:Pr i') (hm:m i' < m i) :
  ∃ i',(St N D w0 F G0 (Gv i') (Lc++Lv i') (Tv i'++Tc) a w∧Pr i')∧m i' < m i:=⟨i',⟨H,hP⟩,hm⟩
def yQ:Nat->List av->List (Nat × av)
 | _,[]=>[]
 | i,v :: vs=>(i,v) :: yQ (i+1) vs
theorem enters {f:FuncId} {fn:Func} {c:Code} (hf:P.funcs[f]?=some fn) (hb:fn.body=some c) (hname:(fn.name == "runtime.NumGoroutine")=false) (args:Array av) (w:World):(callFunc f args).run P w=.ok (.enter f args) w:=by
 have h1:fn.name ≠ "runtime.NumGoroutine":=by simpa using hname
 simp [callFunc,hf,h1,hb,mark]
theorem enter {f:FuncId} {fn:Func} {c:Code} {vs:List av} {R:Ending->World->Prop} (hf:P.funcs[f]?=some fn) (hb:fn.body=some c) (hN:fn.ntmps=N) (hle:Nat.ble vs.length N=true)
  (hT:yQ 0 vs=T) (hG:Hold G w) (hF:∀ k,F k->k < w.heap.size) (hL:∀ p∈L,w.heap[p.1]?=some p.2) (Xx:∀ p∈L,G p.1=none) (Xw:∀ p∈L,¬ F p.1) (hnd:L.Pairwise fun p q=>p.1≠q.1)
  (h:∀ a,St N [] w F G G L T a w->WP none P c (bodyPostM (FW none) 0 P fn R) a w):Calls P f vs.toArray w R:=by
 refine Un (r:=none) (n:=0) (callsIn_of_wp_marks hf hb trivial (h _ ⟨?_,?_,O,⟨O,O,O,bD _,hF,fun _ _=>rfl,hG,fun _ _ h=>h,fun _ _ h=>.inl h,hL,Xx,Xw,hnd⟩⟩) O)
 ·have:=Nat.le_of_ble_eq_true hle
  simp [hN];omega
 ·intro t v ht
  have hlen:t < vs.length∧vs[t]?=some v:=by
   subst hT
   have key:∀ (vs:List av) (s:Nat),lk (yQ s vs) t=some v->s<=t∧vs[t - s]?=some v:=by
    intro vs
    induction vs with
    | nil=>intro s h;simp [yQ,lk] at h
    | cons u vs ih =>
     intro s h
     simp only [yQ] at h
     by_cases e:s=t
     ·subst e;rw [qP] at h;simpa using h
     ·rw [oW e] at h
      obtain ⟨h1,h2⟩:=ih (s+1) h
      refine ⟨V,?_⟩
      have:t - s=(t - (s+1))+1:=by omega
      rw [this];simpa using h2
   have:=key vs 0 ht
   simp only [dU,Nat.sub_zero,true_and] at this
   exact ⟨(iI.1 this).1,this⟩
  rw [Array.getElem?_append_left (by simpa using hlen.1)]
  simpa using hlen.2
def Dz (tmps:Array av):ResultVar->Sem av
 | .tmp t=>pure (tmps.getD t undef)
 | .cell a t=>do loadVar t (<- asAddr (tmps.getD a undef))
def RV (P:Program) (w:World) (tmps:Array av) (rv:ResultVar) (v:av):Prop:=(Dz tmps rv).run P w=.ok v w
theorem aD (H:St N D w0 F G0 G L T a w) {t:Nat} {v:av} (h:lk T t=some v):RV P w a.tmps (.tmp t) v:=by
 have:=H.ev (x:=.tmp t) h
 simp only [Act.eval] at this
 simp [RV,Dz,this]
theorem aaA {t:TypeId} {sz bytes:Nat} {zero:List av} (ht:Ty P t sz bytes zero true) (H:St N D w0 F G0 G L T a w) {s b o:Nat} {cs:List av} (h:lk T s=some (.pointer (some ⟨b,o,none⟩))) (hl:cs.length=sz) (hc:∀ j v,cs[j]?=some v->w.cell? ⟨b,o+j,none⟩=some v) :
  RV P w a.tmps (.cell s t) (.agg cs.toArray):=by
 have:=H.ev (x:=.tmp s) h
 simp only [Act.eval] at this
 have h1:=run_loadCells (P:=P) b w cs o 0 #[] (fun j v hj=>by simpa using hc j v hj)
 simp only [Array.empty_append,hl] at h1
 simp [RV,Dz,this,asAddr,loadVar,bZ,ht.J3,ht.uK,loadCells,h1]
inductive xG (P:Program) (w:World) (tmps:Array av):List ResultVar->List av->Prop
 | nil:xG P w tmps [] []
 | cons {rv rs v vs}:RV P w tmps rv v->xG P w tmps rs vs->xG P w tmps (rv :: rs) (v :: vs)
def JK:List av->av
 | [v]=>v
 | vs=>.tuple vs.toArray
theorem aau {fn:Func} {rs:List ResultVar} {vs:List av} {tmps:Array av} (hr:fn.results=rs.toArray) (h:xG P w tmps rs vs):(results fn tmps).run P w=.ok (JK vs) w:=by
 have hm:∀ {rs:List ResultVar} {vs:List av},xG P w tmps rs vs->(rs.mapM (Dz tmps)).run P w=.ok vs w:=by
  intro rs vs h
  induction h with
  | nil=>simp
  | cons h1 _ ih =>
   unfold RV at h1
   simp only [List.mapM_cons,bZ,h1,iX,ih,kJ]
 have hm':=hm h
 have hres:results fn tmps=(do let vs <- fn.results.mapM (Dz tmps);pure (if h:vs.size=1 then vs[0] else .tuple vs)):=rfl
 rw [hres,hr,Array.mapM_eq_mapM_toList]
 simp only [map_eq_pure_bind,bZ,hm',iX,kJ]
 match vs with
 | []=>rfl
 | [v]=>rfl
 | v :: u :: vs=>simp [JK]
theorem leave {fn:Func} {rs:List ResultVar} {vs:List av} {R:Ending->World->Prop} (v:av) (H:St N [] w0 F G0 G L T a w) (hr:fn.results=rs.toArray) (h:xG P w a.tmps rs vs) (hv:JK vs=v) (hR:R (.returned v) w) :
  bodyPostM (FW none) 0 P fn R .ret a w∧bodyPostM (FW none) 0 P fn R .normal a w:=by
 subst hv
 have h1:LeavesInM (FW none) 0 P fn a.tmps R a.defers .returning w:=by
  rw [H.mJ]
  exact ⟨_,aau hr h,hR⟩
 exact ⟨h1,h1⟩
theorem leave0 {fn:Func} {R:Ending->World->Prop} (H:St N [] w0 F G0 G L T a w) (hr:fn.results=#[]) (hR:R (.returned (.tuple #[])) w) :
  bodyPostM (FW none) 0 P fn R .ret a w∧bodyPostM (FW none) 0 P fn R .normal a w:=leave (rs:=[]) _ H hr .nil O hR
theorem leave1 {fn:Func} {rs:List ResultVar} {v:av} {R:Ending->World->Prop} (H:St N [] w0 F G0 G L T a w) (hr:fn.results=rs.toArray) (h:xG P w a.tmps rs [v]) (hR:R (.returned v) w) :
  bodyPostM (FW none) 0 P fn R .ret a w∧bodyPostM (FW none) 0 P fn R .normal a w:=leave _ H hr h O hR
theorem aY {fn:Func} {rs:List ResultVar} {v u:av} {vs:List av} {R:Ending->World->Prop} (H:St N [] w0 F G0 G L T a w) (hr:fn.results=rs.toArray) (h:xG P w a.tmps rs (v :: u :: vs)) (hR:R (.returned (.tuple (v :: u :: vs).toArray)) w) :
  bodyPostM (FW none) 0 P fn R .ret a w∧bodyPostM (FW none) 0 P fn R .normal a w:=leave _ H hr h O hR
theorem Hp.ret {R:av->GH->Prop} {v:av} (h:Hp w0 (fun k=>k < w0.heap.size) G0 G L w) (hR:R v G):cO w0 G0 R (.returned v) w :=
 ⟨v,G,rfl,⟨h.os,h.tape,h.output,h.size,h.fr⟩,⟨h.gm,fun k o hk=>(h.gx k o hk).imp id (fun hn=>Nat.le_of_not_lt hn),h.ro⟩,hR⟩
end steps
end
section
abbrev OL:=List (Nat × Obj)
structure jS (G:GH) (L:OL) (w:World):Prop where
 ro:Hold G w
 own:∀ p∈L,w.heap[p.1]?=some p.2
 sep:∀ p∈L,G p.1=none
 nd:L.Pairwise fun p q=>p.1≠q.1
structure Change (w w':World) (G G':GH) (L L':OL):Prop where
 os:w'.os=w.os
 tape:w'.tape=w.tape
 output:w'.output=w.output
 size:w.heap.size<=w'.heap.size
 fr:∀ k,k < w.heap.size->(∀ p∈L,p.1≠k)->w'.heap[k]?=w.heap[k]?
 gm:∀ k o,G k=some o->G' k=some o
 gx:∀ k o,G' k=some o->G k=some o∨w.heap.size<=k∨∃ p∈L,p.1=k
 owns:jS G' L' w'
 lx:∀ p∈L',w.heap.size<=p.1∨∃ q∈L,q.1=p.1
def Fr (w:World) (L0:OL):Nat->Prop:=fun k=>k < w.heap.size∧∀ p∈L0,p.1≠k
section
variable {N:Nat} {D:List Deferred} {w0 w w':World} {F:Nat->Prop} {G0 G G':GH} {L L' Li L0:OL} {T:List (Nat × av)} {a:Act}
theorem Hp.owns (h:Hp w0 F G0 G (Li++L) w):jS G L w :=
 ⟨h.ro,fun p hp=>h.own p (List.mem_append_right _ hp),fun p hp=>h.pE p (List.mem_append_right _ hp),(List.pairwise_append.1 h.nd).2.1⟩
theorem Hp.change (h:Hp w0 F G0 G (Li++L) w) (hc:Change w w' G G' L L'):Hp w0 F G0 G' (Li++L') w':=by
 have hnd:=List.pairwise_append.1 h.nd
 have IB:∀ k,F k->k < w.heap.size:=fun k hk=>Nat.lt_of_lt_of_le (h.pV k hk) h.size
 have AL:∀ p∈Li,p.1 < w.heap.size∧∀ q∈L,q.1≠p.1:=fun p hp=>⟨lt_of_heap (h.own p (List.mem_append_left _ hp)),fun q hq e=>hnd.2.2 p hp q hq e.symm⟩
 refine ⟨hc.os.trans h.os,hc.tape.trans h.tape,hc.output.trans h.output,Nat.le_trans h.size hc.size,h.pV,fun k hk=>?_,hc.owns.ro,fun k o hk=>hc.gm k o (h.gm k o hk),fun k o hk=>?_,fun p hp=>?_,fun p hp=>?_,fun p hp=>?_,?_⟩
 ·exact (hc.fr k (IB k hk) fun p hp e=>h.ou p (List.mem_append_right _ hp) (e ▸ hk)).trans (h.fr k hk)
 ·rcases hc.gx k o hk with hk|hk|⟨p,hp,rfl⟩
  ·exact h.gx k o hk
  ·exact .inr fun hf=>absurd (IB k hf) V
  ·exact .inr (h.ou p (List.mem_append_right _ hp))
 ·rcases vX.1 hp with hp|hp
  ·exact (hc.fr _ (AL p hp).1 (AL p hp).2).trans (h.own p (List.mem_append_left _ hp))
  ·exact hc.owns.own p hp
 ·rcases vX.1 hp with hp|hp
  ·cases hg:G' p.1 with
   | none=>rfl
   | some o =>
    rcases hc.gx _ o hg with hk|hk|⟨q,hq,e⟩
    ·rw [h.pE p (List.mem_append_left _ hp)] at hk;cases hk
    ·exact absurd (AL p hp).1 V
    ·exact absurd e ((AL p hp).2 q hq)
  ·exact hc.owns.sep p hp
 ·rcases vX.1 hp with hp|hp
  ·exact h.ou p (List.mem_append_left _ hp)
  ·rcases hc.lx p hp with hk|⟨q,hq,e⟩
   ·exact fun hf=>absurd (IB _ hf) V
   ·exact e ▸ h.ou q (List.mem_append_right _ hq)
 ·refine List.pairwise_append.2 ⟨hnd.1,hc.owns.nd,fun p hp q hq e=>?_⟩
  rcases hc.lx q hq with hk|⟨q',hq',e'⟩
  ·have:=(AL p hp).1;omega
  ·exact (AL p hp).2 q' hq' (e'.trans e.symm)
theorem Hp.acf (h:Hp w0 (Fr w0 L0) G0 G L w):Change w0 w G0 G L0 L:=by
 have hn:∀ k,¬ Fr w0 L0 k->w0.heap.size<=k∨∃ p∈L0,p.1=k:=by
  intro k hk
  by_cases hlt:k < w0.heap.size
  ·right
   apply Classical.byContradiction
   intro hno
   exact hk ⟨hlt,fun p hp e=>hno ⟨p,hp,e⟩⟩
  ·exact .inl V
 exact ⟨h.os,h.tape,h.output,h.size,fun k h1 h2=>h.fr k ⟨h1,h2⟩,h.gm,fun k o hk=>(h.gx k o hk).imp id (hn k),⟨h.ro,h.own,h.pE,h.nd⟩,fun p hp=>hn _ (h.ou p hp)⟩
theorem jS.hp (h:jS G L w):Hp w (Fr w L) G G L w :=
 ⟨rfl,rfl,rfl,bD _,fun _ hk=>hk.1,fun _ _=>rfl,h.ro,fun _ _ h=>h,fun _ _ h=>.inl h,h.own,h.sep,fun p hp hf=>hf.2 p hp O,h.nd⟩
theorem Change.trans {w2:World} {G2:GH} {L2:OL} (h1:Change w w' G G' L L') (h2:Change w' w2 G' G2 L' L2) (hG:Hold G w) (hL:∀ p∈L,p.1 < w.heap.size):Change w w2 G G2 L L2:=by
 refine ⟨h2.os.trans h1.os,h2.tape.trans h1.tape,h2.output.trans h1.output,Nat.le_trans h1.size h2.size,fun k hk hn=>?_,fun k o hk=>h2.gm k o (h1.gm k o hk),fun k o hk=>?_,h2.owns,fun p hp=>?_⟩
 ·refine (h2.fr k (Nat.lt_of_lt_of_le hk h1.size) fun p hp e=>?_).trans (h1.fr k hk hn)
  rcases h1.lx p hp with hk'|⟨q,hq,e'⟩
  ·omega
  ·exact hn q hq (e'.trans e)
 ·rcases h2.gx k o hk with hk|hk|⟨p,hp,rfl⟩
  ·exact h1.gx k o hk
  ·exact .inr (.inl (Nat.le_trans h1.size hk))
  ·rcases h1.lx p hp with hk'|⟨q,hq,e'⟩
   ·exact .inr (.inl hk')
   ·exact .inr (.inr ⟨q,hq,e'⟩)
 ·rcases h2.lx p hp with hk|⟨q,hq,e⟩
  ·exact .inl (Nat.le_trans h1.size hk)
  ·rcases h1.lx q hq with hk'|⟨q',hq',e'⟩
   ·exact .inl (e ▸ hk')
   ·exact .inr ⟨q',hq',e'.trans e⟩
theorem Hp.perm (h:Hp w0 F G0 G L w) (hp:L.Perm L'):Hp w0 F G0 G L' w :=
 ⟨h.os,h.tape,h.output,h.size,h.pV,h.fr,h.ro,h.gm,h.gx,fun p hq=>h.own p (hp.mem_iff.2 hq),fun p hq=>h.pE p (hp.mem_iff.2 hq),fun p hq=>h.ou p (hp.mem_iff.2 hq),(hp.pairwise_iff (fun {x y} (h:x.1≠y.1) e=>h e.symm)).1 h.nd⟩
theorem St.perm (h:St N D w0 F G0 G L T a w) (hp:L.Perm L'):St N D w0 F G0 G L' T a w:=⟨h.jv,h.get,h.mJ,h.hp.perm hp⟩
def jT (w:World) (G:GH) (L:OL) (R:av->GH->OL->Prop):Ending->World->Prop:=fun e w'=>∃ v G' L',e=.returned v∧Change w w' G G' L L'∧R v G' L'
theorem Hp.dO {R:av->GH->OL->Prop} {v:av} (h:Hp w0 (Fr w0 L0) G0 G L w) (hR:R v G L):jT w0 G0 L0 R (.returned v) w:=⟨v,G,L,O,h.acf,hR⟩
end
section steps
variable {N:Nat} {D:List Deferred} {w0:World} {F:Nat->Prop} {G0 G:GH} {L Li L0:OL} {T:List (Nat × av)}
variable {r:Option Nat} {P:Program} {ops:Array Oper} {Q:Exit->Act->World->Prop} {rest:List Oper} {a:Act} {w:World}
variable {d:Nat} {ty:TypeId} {pos:String} {aG:Array Edge} {g:Option (Nat × Bool)}
theorem vo {f:FuncId} {caps args:List av} {R:Ending->World->Prop} (en:∀ args w,(callFunc f args).run P w=.ok (.enter f args) w) (h:Calls P f (args++caps).toArray w R):uR P (.func (.func f) #[] caps.toArray) args w R:=by
 refine ⟨?_⟩
 have e:(do let d <- Deferred.ofValue (.func (.func f) #[] caps.toArray) args.toArray;invoke d.target d.args:Sem Next).run P w=.ok (.enter f (args++caps).toArray) w:=by
  simp [Deferred.ofValue,bZ,invoke,en]
 rw [e]
 exact h
theorem Bo {x:Operand} {fv:av} {xs:List Operand} {vs:List av} {ts:Array TypeId} {R:av->GH->OL->Prop} (H:St N D w0 F G0 G (Li++L) T a w) (hw:Region.wanted ⟨some d,.call { callee:=.value x,args:=xs.toArray,argTypes:=ts },ty,pos,aG,g⟩ (yielded ops a.tmps)=true)
  (hf:ev T x=some fv) (hx:evs T xs=some vs) (hc:uR P fv vs w (jT w G L R)) (hd:Nat.blt d N=true)
  (k:∀ v G' L' a' w',R v G' L'->(∀ k o,G k=some o->G' k=some o)->St N D w0 F G0 G' (Li++L') ((d,v) :: T) a' w'->WL r P ops Q rest a' w'):WL r P ops Q (⟨some d,.call { callee:=.value x,args:=xs.toArray,argTypes:=ts },ty,pos,aG,g⟩ :: rest) a w:=by
 refine Lb (nx:=_) (R:=jT w G L R) hw O O ?_ ?_
 ·have h1:=H.evs hx
  have e:(execOp a.eval ⟨some d,.call { callee:=.value x,args:=xs.toArray,argTypes:=ts },ty,pos,aG,g⟩)=(do let d <- Deferred.ofValue fv vs.toArray;invoke d.target d.args:Sem Next):=by
   simp only [execOp,resolve,H.ev hf,List.map_toArray,h1]
  rw [e]
  exact hc.go
 ·rintro e w' ⟨v,G',L',rfl,hb,hR⟩
  exact ⟨v,O,k v G' L' _ w' hR hb.gm (H.put hd v (H.hp.change hb))⟩
theorem jH {f:FuncId} {xs:List Operand} {vs:List av} {ts:Array TypeId} {R:av->GH->OL->Prop} (en:∀ args w,(callFunc f args).run P w=.ok (.enter f args) w) (H:St N D w0 F G0 G (Li++L) T a w) (hw:Region.wanted ⟨some d,.call { callee:=.value (.func f),args:=xs.toArray,argTypes:=ts },ty,pos,aG,g⟩ (yielded ops a.tmps)=true)
  (hx:evs T xs=some vs) (hc:Calls P f vs.toArray w (jT w G L R)) (hd:Nat.blt d N=true)
  (k:∀ v G' L' a' w',R v G' L'->(∀ k o,G k=some o->G' k=some o)->St N D w0 F G0 G' (Li++L') ((d,v) :: T) a' w'->WL r P ops Q rest a' w'):WL r P ops Q (⟨some d,.call { callee:=.value (.func f),args:=xs.toArray,argTypes:=ts },ty,pos,aG,g⟩ :: rest) a w:=by
 refine Bo (fv:=.func (.func f) #[] #[]) H hw O hx ?_ hd k
 have h:=vo (caps:=[]) (args:=vs) en (by simpa using hc)
 exact h
abbrev AP:=List av->GH->Prop
def tC (xs:List AP) (k:Nat) (args:List av) (g:GH):Prop:=∃ p,xs[k]?=some p∧p args g
def Gl (P:Program) (fv:av) (Gi:GH) (xs:List AP) (J:Nat->GH->OL->Prop) (Jx:GH->OL->Prop):Prop :=
 ∀ k args G L w,tC xs k args G->(∀ b o,Gi b=some o->G b=some o)->J k G L->jS G L w ->
  uR P fv args w (jT w G L fun v G' L'=>∃ b,v=.bool b∧(b=true->J (k+1) G' L')∧(b=false->Jx G' L'))
def D8 (J:Nat->GH->OL->Prop):Prop:=∀ k (G G':GH) L,(∀ b o,G b=some o->G' b=some o)->J k G L->J k G' L
def Ed (J:GH->OL->Prop):Prop:=∀ (G G':GH) L,(∀ b o,G b=some o->G' b=some o)->J G L->J G' L
def Iter (P:Program) (Gi:GH) (gv:av) (xs:List AP):Prop :=
 ∀ (J:Nat->GH->OL->Prop) (Jx:GH->OL->Prop) (fv:av) (G:GH) (L:OL) (w:World),fv.cells=#[fv]->(∀ b o,Gi b=some o->G b=some o)->D8 J->Ed Jx->J 0 G L->jS G L w->Gl P fv G xs J Jx ->
  uR P gv [fv] w (jT w G L fun _ G' L'=>J xs.length G' L'∨Jx G' L')
theorem Iter.mono {Gi BN:GH} {gv:av} {xs:List AP} (h:Iter P Gi gv xs) (hm:∀ b o,Gi b=some o->BN b=some o):Iter P BN gv xs :=
 fun J Jx fv G L w h0 h1=>h J Jx fv G L w h0 fun b o hb=>h1 b o (hm b o hb)
def uY:List Nat->List av->List (Nat × av)->List (Nat × av)
 | p :: ps,v :: vs,T=>uY ps vs ((p,v) :: T)
 | _,_,T=>T
theorem Q8:∀ (ps:List Nat) (vs:List av) (T:List (Nat × av)) (tm:Array av),tm.size=N->(∀ t v,lk T t=some v->tm[t]?=some v)->ps.all (Nat.blt · N)=true ->
  ((ps.zip vs).foldl (fun t (x:Nat × av)=>t.setIfInBounds x.1 x.2) tm).size=N∧∀ t v,lk (uY ps vs T) t=some v->((ps.zip vs).foldl (fun t (x:Nat × av)=>t.setIfInBounds x.1 x.2) tm)[t]?=some v
 | [],_,T,tm,h1,h2,_=>⟨h1,by simpa [uY] using h2⟩
 | p :: ps,[],T,tm,h1,h2,_=>⟨h1,by simpa [uY] using h2⟩
 | p :: ps,v :: vs,T,tm,h1,h2,h3=>by
  simp only [List.all_cons,gT] at h3
  have hp:p < tm.size:=by rw [h1];exact Eq.mp Nat.blt_eq h3.1
  simp only [List.zip_cons_cons,List.foldl_cons,uY]
  refine Q8 ps vs _ _ (by simpa using h1) (fun t u ht=>?_) h3.2
  rw [Array.getElem?_setIfInBounds]
  by_cases e:p=t
  ·subst e;rw [qP] at ht;simp [hp];simpa using ht
  ·rw [oW e] at ht;simp [e];exact h2 t u ht
structure Rec where
 fn:FuncId
 tmps:Array av
 params:Array Tmp
 assign:Code
 body:Code
 defers:Nat
def Rec.at (q:Rec) (s:LoopState) (p:Option Code):Obj:=.loop { state:=s,pending:=p,fn:=q.fn,tmps:=q.tmps,params:=q.params,assign:=q.assign,body:=q.body,defers:=q.defers }
def Lr (w1:World) (G:GH) (L:OL) (Jn:GH->OL->Prop) (Jx:GH->OL->Prop):Ending->World->Prop:=jT w1 G L fun v G' L'=>∃ b,v=.bool b∧(b=true->Jn G' L')∧(b=false->Jx G' L')
theorem yK {b:Nat} {o:Obj} (o':Obj) (h:w.heap[b]?=some o):pQ b o' w (w.putObj b o') :=
 ⟨rfl,rfl,rfl,World.putObj_size,World.putObj_heap_same (lt_of_heap h),fun _ hk=>World.putObj_heap_other hk⟩
theorem MH {l:Nat} {q:Rec} {c:Code} {R:Ending->World->Prop} (H:St N D w0 F G0 G ((l,q.at .ready none) :: L) T a w)
  (k:∀ w',St N D w0 F G0 G ((l,q.at .busy none) :: L) T a w'->WP (some l) P c (roundPost P l R) a w') :
  ∃ w₂,(Instr.beginRound l).run P w=.ok () w₂∧c.wpIn (FW (some l)) 0 P (roundPost P l R) a w₂:=by
 have hl:=H.hp.own _ (qH)
 refine ⟨_,run_beginRound hl O,k _ (H.move ?_)⟩
 exact H.hp.upd (i:=0) O (yK _ hl)
theorem Bj {l:Nat} {q:Rec} {w1:World} {G1:GH} {L1:OL} {Jn Jx:GH->OL->Prop} (jump:Option Code) (H:St N D w1 (Fr w1 L1) G1 G ((l,q.at .busy none) :: L) T a w)
  (h:match jump with|none=>Jn G ((l,q.at .ready none) :: L)|some c=>Jx G ((l,q.at .done (some c)) :: L)) :
  ∃ v w',(Instr.endRound l jump).run P w=.ok v w'∧Lr w1 G1 L1 Jn Jx (.returned v) w':=by
 have hl:=H.hp.own _ (qH)
 refine ⟨_,_,run_endRound jump hl,?_⟩
 cases jump with
 | none=>exact Hp.dO (H.hp.upd (i:=0) O (yK _ hl)) ⟨true,O,fun _=>h,fun e=>by cases e⟩
 | some c=>exact Hp.dO (H.hp.upd (i:=0) O (yK _ hl)) ⟨false,O,fun e=>(by cases e),fun _=>h⟩
def Jr (l:Nat) (q:Rec) (bk:OL) (J:GH->OL->Prop):GH->OL->Prop:=fun G L=>∃ Lu,L=(l,q.at .ready none) :: (bk++Lu)∧J G Lu
def D9 (l:Nat) (q:Rec) (bk:OL) (Jx:Code->GH->OL->Prop):GH->OL->Prop:=fun G L=>∃ c Lu,L=(l,q.at .done (some c)) :: (bk++Lu)∧Jx c G Lu
def Gx (P:Program) (N:Nat) (ps:List Nat) (assign body:Code) (T:List (Nat × av)) (G:GH) (J:Nat->GH->OL->Prop) (Jx:Code->GH->OL->Prop) (xs:List AP):Prop :=
 ∀ (l:Nat) (q:Rec) (bk:OL) (k:Nat) (args:List av) (G1:GH) (L1:OL) (w1:World) (a1:Act),tC xs k args G1->(∀ b o,G b=some o->G1 b=some o)->J k G1 L1 ->
  St N [] w1 (Fr w1 ((l,q.at .ready none) :: (bk++L1))) G1 G1 ((l,q.at .ready none) :: (bk++L1)) (uY ps args T) a1 w1 ->
  WP (some l) P assign (Exit.then (fun a2 w2=>∃ w3,(Instr.beginRound l).run P w2=.ok () w3∧body.wpIn (FW (some l)) 0 P (roundPost P l (Lr w1 G1 ((l,q.at .ready none) :: (bk++L1)) (Jr l q bk (J (k+1))) (D9 l q bk Jx))) a2 w3) (fun _ _ _=>False)) a1 w1
theorem MK {fn:FuncId} {tm:Array av} {ps:List Nat} {assign body:Code} {df l:Nat} {bk:OL} {J:Nat->GH->OL->Prop} {Jx:Code->GH->OL->Prop} {xs:List AP} (h1:tm.size=N) (h2:∀ t v,lk T t=some v->tm[t]?=some v)
  (hps:ps.all (Nat.blt · N)=true) (hlen:∀ k args g,tC xs k args g->args.length=ps.length) (hr:Gx P N ps assign body T G J Jx xs) :
  Gl P (.func (.yield l) #[] #[]) G xs (fun k=>Jr l ⟨fn,tm,ps.toArray,assign,body,df⟩ bk (J k)) (D9 l ⟨fn,tm,ps.toArray,assign,body,df⟩ bk Jx):=by
 intro k args G1 L1 w1 hk hm hJ ho
 obtain ⟨Lu,rfl,hJ⟩:=hJ
 have hl:=ho.own _ (qH)
 have hargs:args.toArray.size=ps.toArray.size:=by simpa using hlen k args _ hk
 have hy:=run_yield (P:=P) (args:=args.toArray) hl hargs
 have hz:(ps.toArray.zip args.toArray).foldl (fun tmps (x:Nat × av)=>tmps.setIfInBounds x.1 x.2) tm=(ps.zip args).foldl (fun t (x:Nat × av)=>t.setIfInBounds x.1 x.2) tm:=by
  simp [List.zip_toArray]
 obtain ⟨z1,z2⟩:=Q8 ps args T tm h1 h2 hps
 refine ⟨?_⟩
 have e:(do let d <- Deferred.ofValue (.func (.yield l) #[] #[]) args.toArray;invoke d.target d.args:Sem Next).run P w1=.ok (.round l fn ((ps.zip args).foldl (fun t (x:Nat × av)=>t.setIfInBounds x.1 x.2) tm) assign body) w1:=by
  simp only [Deferred.ofValue,pure_bind,invoke,Array.empty_append]
  rw [<- hz]
  exact hy
 rw [e]
 refine roundIn_of_wpIn (F:=FW none) trivial ?_
 exact hr l _ bk k args G1 Lu w1 { tmps:=_,defers:=[] } hk hm hJ ⟨z1,z2,O,ho.hp⟩
theorem Uj {uq:Operand} {ps:List Nat} {assign body:Code} {gf:FuncId} {caps:List av} {xs:List AP} {Gi:GH}
  (H:St N D w0 F G0 G L T a w) (hg:ev T uq=some (.func (.func gf) #[] caps.toArray)) (en:∀ args w,(callFunc gf args).run P w=.ok (.enter gf args) w) (hit:Iter P Gi (.func (.func gf) #[] caps.toArray) xs) (hGi:∀ b o,Gi b=some o->G b=some o)
  (hps:ps.all (Nat.blt · N)=true) (hlen:∀ k args g,tC xs k args g->args.length=ps.length)
  (J:Nat->GH->OL->Prop) (Jx:Code->GH->OL->Prop) (uy:D8 J) (hJx:∀ c,Ed (Jx c)) (h0:J 0 G L) (Ju:Gx P N ps assign body T G J Jx xs)
  (hdone:∀ Dk G1 L1 a1 w1,(∀ b o,G b=some o->G1 b=some o)->J xs.length G1 L1->St N ({ target:=.collected Dk,args:=#[] } :: D) w0 F G0 G1 ((Dk,.deferred (some [])) :: L1) T a1 w1->Q .normal a1 w1)
  (hstop:∀ Dk c G1 L1 a1 w1,(∀ b o,G b=some o->G1 b=some o)->Jx c G1 L1->St N ({ target:=.collected Dk,args:=#[] } :: D) w0 F G0 G1 ((Dk,.deferred (some [])) :: L1) T a1 w1->WP none P c Q a1 w1) :
  WP none P (.rangeFunc uq ps.toArray assign body) Q a w:=by
 refine wpIn_rangeFunc ?_
 intro fn _
 have hev:=H.ev hg
 let q:Rec:=⟨fn,a.tmps,ps.toArray,assign,body,w.heap.size⟩
 obtain ⟨W1,hW1⟩:∃ W1,W1=(w.alloc (.deferred (some []))).alloc (q.at .ready none):=⟨_,O⟩
 have H1:Hp w0 F G0 G ((w.heap.size+1,q.at .ready none) :: (w.heap.size,.deferred (some [])) :: L) W1:=by
  have:=(H.hp.alloc (.deferred (some []))).alloc (q.at .ready none)
  rw [World.size_alloc] at this
  rw [hW1];exact this
 refine ⟨w.heap.size+1,[{ target:=.collected w.heap.size,args:=#[] }],W1,{ target:=.fn (.func gf) caps.toArray,args:=#[.func (.yield (w.heap.size+1)) #[] #[]] },W1,gf,
  #[.func (.yield (w.heap.size+1)) #[] #[]]++caps.toArray,W1,by rw [hW1];exact run_enterLoop_outer fn a.tmps ps.toArray assign body,?_,fun _ _=>trivial,?_,DZ none,?_⟩
 ·simp only [resolve,rangeCall,hev]
  simp [Deferred.ofValue,Act.eval]
 ·simp [invoke,en]
 ·have hcv:=hit (fun k=>Jr (w.heap.size+1) q [(w.heap.size,.deferred (some []))] (J k)) (D9 (w.heap.size+1) q [(w.heap.size,.deferred (some []))] Jx) (.func (.yield (w.heap.size+1)) #[] #[]) G
   ((w.heap.size+1,q.at .ready none) :: (w.heap.size,.deferred (some [])) :: L) W1 rfl hGi (fun k G G' L hm ⟨Lu,e,h⟩=>⟨Lu,e,uy k G G' Lu hm h⟩) (fun G G' L hm ⟨c,Lu,e,h⟩=>⟨c,Lu,e,hJx c G G' Lu hm h⟩) ⟨L,O,h0⟩ (Hp.owns (Li:=[]) H1) (MK H.jv H.get hps hlen Ju)
  replace hcv:=hcv.go
  have e:(do let d <- Deferred.ofValue (.func (.func gf) #[] caps.toArray) [Value.func (.yield (w.heap.size+1)) #[] #[]].toArray;invoke d.target d.args:Sem Next).run P W1=.ok (.enter gf (#[.func (.yield (w.heap.size+1)) #[] #[]]++caps.toArray)) W1:=by
   simp [Deferred.ofValue,invoke,en]
  rw [e] at hcv
  refine (GZ hcv).mono ?_
  rintro e w2 ⟨v,G2,L2,rfl,hch,hJ⟩
  have H2:=Hp.change (Li:=[]) H1 hch
  rcases hJ with ⟨Lu,rfl,hJ⟩|⟨c,Lu,rfl,hJ⟩
  ·have hl:=H2.own _ (qH)
   have H3:=(H2.upd (i:=0) O (yK (q.at .exhausted none) hl)).drop (List.sublist_cons_self _ _)
   exact ⟨none,_,run_endLoop hl (by simp),hdone _ G2 Lu _ _ hch.gm hJ ⟨H.jv,H.get,by simp [H.mJ],H3⟩⟩
  ·have hl:=H2.own _ (qH)
   have H3:=(H2.upd (i:=0) O (yK (q.at .exhausted (some c)) hl)).drop (List.sublist_cons_self _ _)
   exact ⟨some c,_,run_endLoop hl (by simp),hstop _ c G2 Lu _ _ hch.gm hJ ⟨H.jv,H.get,by simp [H.mJ],H3⟩⟩
theorem Pv {fn:Func} {R:Ending->World->Prop} {b:Nat} (H:St N ({ target:=.collected b,args:=#[] } :: D) w0 F G0 G L T a w) (i:Nat) (hi:L[i]?=some (b,.deferred (some [])))
  (k:∀ a' w',St N D w0 F G0 G (L.eraseIdx i) T a' w'->bodyPostM (FW none) 0 P fn R .ret a' w'):bodyPostM (FW none) 0 P fn R .ret a w∧bodyPostM (FW none) 0 P fn R .normal a w:=by
 have hb:=H.hp.own _ (jK hi)
 have H2:=(H.hp.upd hi (yK (.deferred none) hb)).drop (L':=L.eraseIdx i) (by
  have h1:(L.set i (b,.deferred none)).eraseIdx i=L.eraseIdx i:=by
   apply List.ext_getElem?
   intro j
   simp only [List.getElem?_eraseIdx,List.getElem?_set]
   split <;> split <;> first|rfl|omega
  rw [<- h1];exact List.eraseIdx_sublist _ _)
 have hk:=k { a with defers:=D } _ ⟨H.jv,H.get,O,H2⟩
 have h1:LeavesInM (FW none) 0 P fn a.tmps R a.defers .returning w:=by
  rw [H.mJ]
  exact ⟨by simp,.inl ⟨b,_,O,run_takeDeferred hb,hk⟩⟩
 exact ⟨h1,h1⟩
theorem St.giveUp {b:Nat} {o:Obj} (h:St N D w0 F G0 G L T a w) (i:Nat) (hi:L[i]?=some (b,o)):St N D w0 F G0 (G.add b o) (L.eraseIdx i) T a w:=⟨h.jv,h.get,h.mJ,h.hp.giveUp i hi⟩
theorem St.Ol {b:Nat} {o:Obj} (h:St N D w0 F G0 G L T a w) (i:Nat) (hi:L[i]?=some (b,o)):G b=none:=h.hp.pE _ (jK hi)
theorem nU {f:FuncId} {fn:Func} {c:Code} {vs:List av} {R:Ending->World->Prop} (hf:P.funcs[f]?=some fn) (hb:fn.body=some c) (hN:fn.ntmps=N) (hle:Nat.ble vs.length N=true)
  (hT:yQ 0 vs=T) (ho:jS G L w) (h:∀ a,St N [] w (Fr w L) G G L T a w->WP none P c (bodyPostM (FW none) 0 P fn R) a w):Calls P f vs.toArray w R :=
 enter hf hb hN hle hT ho.ro (fun _ hk=>hk.1) ho.own ho.sep (fun p hp hf=>hf.2 p hp O) ho.nd h
end steps
end
inductive Dat where
 | lf (v:av)
 | sl (sz:Nat) (rows:List (List Dat))
mutual
def aC (G:GH):Dat->av->Prop
 | .lf u,v=>v=u∧Value.oneCell' u=true
 | .sl sz rows,v=>∃ A c,v=.slice A rows.length c∧rows.length<=c∧c<=maxLen∧(rows≠[]->∃ b o,A=some ⟨b,o,none⟩∧kr G sz b o rows)
def kr (G:GH) (sz b:Nat):Nat->List (List Dat)->Prop
 | _,[]=>True
 | o,r :: rs=>(∃ cs,cs.length=sz∧(∀ j v,cs[j]?=some v->aR G b (o+j)=some v)∧aZ G r cs)∧kr G sz b (o+sz) rs
def aZ (G:GH):List Dat->List av->Prop
 | [],cs=>cs=[]
 | d :: ds,cs=>∃ v vs,cs=v :: vs∧aC G d v∧aZ G ds vs
end
theorem aK {G G':GH} (hm:∀ k o,G k=some o->G' k=some o) {b o:Nat} {v:av} (h:aR G b o=some v):aR G' b o=some v:=by
 unfold aR at h |-
 cases hg:G b with
 | none=>rw [hg] at h;cases h
 | some ob=>rw [hg] at h;rw [hm b ob hg];exact h
mutual
theorem aC.mono {G G':GH} (hm:∀ k o,G k=some o->G' k=some o):∀ {d:Dat} {v:av},aC G d v->aC G' d v
 | .lf u,v,h=>by simpa [aC] using h
 | .sl sz rows,v,h=>by
  simp only [aC] at h |-
  obtain ⟨A,c,h1,h2,h3,h4⟩:=h
  exact ⟨A,c,h1,h2,h3,fun hn=>let ⟨b,o,e,hr⟩:=h4 hn;⟨b,o,e,kr.mono hm hr⟩⟩
theorem kr.mono {G G':GH} (hm:∀ k o,G k=some o->G' k=some o) {sz b:Nat}:∀ {rows:List (List Dat)} {o:Nat},kr G sz b o rows->kr G' sz b o rows
 | [],o,_=>by simp [kr]
 | r :: rs,o,h=>by
  simp only [kr] at h |-
  obtain ⟨⟨cs,h1,h2,h3⟩,h4⟩:=h
  exact ⟨⟨cs,h1,fun j v hj=>aK hm (h2 j v hj),aZ.mono hm h3⟩,kr.mono hm h4⟩
theorem aZ.mono {G G':GH} (hm:∀ k o,G k=some o->G' k=some o):∀ {ds:List Dat} {cs:List av},aZ G ds cs->aZ G' ds cs
 | [],cs,h=>by simpa [aZ] using h
 | d :: ds,cs,h=>by
  simp only [aZ] at h |-
  obtain ⟨v,vs,h1,h2,h3⟩:=h
  exact ⟨v,vs,h1,aC.mono hm h2,aZ.mono hm h3⟩
end
theorem kr.get {G:GH} {sz b:Nat}:∀ {rows:List (List Dat)} {o k:Nat} {r:List Dat},kr G sz b o rows->rows[k]?=some r->∃ cs,cs.length=sz∧(∀ j v,cs[j]?=some v->aR G b (o+k*sz+j)=some v)∧aZ G r cs
 | [],_,_,_,_,h=>by simp at h
 | r :: rs,o,0,q,h,hk=>by
  simp only [xI,ku] at hk
  subst hk
  simp only [kr] at h
  simpa using h.1
 | r :: rs,o,k+1,q,h,hk=>by
  simp only [List.getElem?_cons_succ] at hk
  simp only [kr] at h
  obtain ⟨cs,h1,h2,h3⟩:=kr.get h.2 hk
  exact ⟨cs,h1,fun j v hj=>by rw [<- h2 j v hj];congr 1;rw [Nat.succ_mul];omega,h3⟩
theorem aC.slice {G:GH} {sz:Nat} {rows:List (List Dat)} {v:av} (h:aC G (.sl sz rows) v):∃ A c,v=.slice A rows.length c∧rows.length<=c∧c<=maxLen ∧
  ∀ k r,rows[k]?=some r->∃ b o cs,A=some ⟨b,o,none⟩∧cs.length=sz∧(∀ j u,cs[j]?=some u->aR G b (o+k*sz+j)=some u)∧aZ G r cs:=by
 simp only [aC] at h
 obtain ⟨A,c,h1,h2,h3,h4⟩:=h
 refine ⟨A,c,h1,h2,h3,fun k r hk=>?_⟩
 obtain ⟨b,o,e,hr⟩:=h4 (by rintro rfl;simp at hk)
 obtain ⟨cs,g1,g2,g3⟩:=hr.get hk
 exact ⟨b,o,cs,e,g1,g2,g3⟩
theorem kr.mk {G:GH} {sz b:Nat}:∀ {rows:List (List Dat)} {o:Nat},(∀ k r,rows[k]?=some r->∃ cs,cs.length=sz∧(∀ j u,cs[j]?=some u->aR G b (o+k*sz+j)=some u)∧aZ G r cs)->kr G sz b o rows
 | [],o,_=>by simp [kr]
 | r :: rs,o,h=>by
  simp only [kr]
  refine ⟨by simpa using h 0 r O,kr.mk fun k q hk=>?_⟩
  obtain ⟨cs,h1,h2,h3⟩:=h (k+1) q (by simpa using hk)
  exact ⟨cs,h1,fun j v hj=>by rw [<- h2 j v hj];congr 1;rw [Nat.succ_mul];omega,h3⟩
abbrev vi (n:Int):av:=.int .i64 n
structure tV where
 key:Int
 value:Int
structure tF where
 rev:Int
 move:Int
structure tN where
 rev:Int
 key:Int
 before:Int
 had:Bool
structure uU where
 ins:Int
 move:Int
 vB:List tF
 layers:List tN
structure lW where
 props:List tV
 marks:uU
mutual
inductive aS where
 | mk (kind code id:Int) (text:ByteArray) (head:lW) (flow:List aS) (rows:List bV)
inductive bV where
 | mk (head:lW) (cells:List dh)
inductive dh where
 | mk (id:Int) (head:lW) (flow:List aS)
end
namespace aS
def kind:aS->Int|.mk k _ _ _ _ _ _=>k
def code:aS->Int|.mk _ c _ _ _ _ _=>c
def id:aS->Int|.mk _ _ i _ _ _ _=>i
def text:aS->ByteArray|.mk _ _ _ t _ _ _=>t
def head:aS->lW|.mk _ _ _ _ h _ _=>h
def flow:aS->List aS|.mk _ _ _ _ _ f _=>f
def rows:aS->List bV|.mk _ _ _ _ _ _ r=>r
end aS
namespace bV
def head:bV->lW|.mk h _=>h
def cells:bV->List dh|.mk _ c=>c
end bV
namespace dh
def id:dh->Int|.mk i _ _=>i
def head:dh->lW|.mk _ h _=>h
def flow:dh->List aS|.mk _ _ f=>f
end dh
abbrev li (n:Int):Dat:=.lf (.int .i64 n)
def tV.dat (p:tV):List Dat:=[li p.key,li p.value]
def tF.dat (p:tF):List Dat:=[li p.rev,li p.move]
def tN.dat (p:tN):List Dat:=[li p.rev,li p.key,li p.before,.lf (.bool p.had)]
def uU.dat (m:uU):List Dat:=[li m.ins,li m.move,.sl 2 (m.vB.map tF.dat),.sl 4 (m.layers.map tN.dat)]
def lW.dat (h:lW):List Dat:=.sl 2 (h.props.map tV.dat) :: h.marks.dat
mutual
def aS.dat:aS->List Dat
 | .mk k c i t h f r=>li k :: li c :: li i :: .lf (.string t) :: (h.dat++[.sl 11 (Al f),.sl 6 (Cr r)])
def bV.dat:bV->List Dat
 | .mk h cs=>h.dat++[.sl 7 (Cq cs)]
def dh.dat:dh->List Dat
 | .mk i h f=>li i :: (h.dat++[.sl 11 (Al f)])
def Al:List aS->List (List Dat)
 | []=>[]
 | x :: r=>x.dat :: Al r
def Cr:List bV->List (List Dat)
 | []=>[]
 | x :: r=>x.dat :: Cr r
def Cq:List dh->List (List Dat)
 | []=>[]
 | x :: r=>x.dat :: Cq r
end
theorem Hg:∀ l:List aS,Al l=l.map aS.dat
 | []=>by simp [Al]
 | x :: r=>by simp [Al,Hg r]
theorem Nj:∀ l:List bV,Cr l=l.map bV.dat
 | []=>by simp [Cr]
 | x :: r=>by simp [Cr,Nj r]
theorem Ni:∀ l:List dh,Cq l=l.map dh.dat
 | []=>by simp [Cq]
 | x :: r=>by simp [Cq,Ni r]
theorem aS.ug (x:aS):x.dat=li x.kind :: li x.code :: li x.id :: .lf (.string x.text) :: (x.head.dat++[.sl 11 (x.flow.map aS.dat),.sl 6 (x.rows.map bV.dat)]):=by
 cases x;simp [aS.dat,aS.kind,aS.code,aS.id,aS.text,aS.head,aS.flow,aS.rows,Hg,Nj]
theorem bV.ug (x:bV):x.dat=x.head.dat++[.sl 7 (x.cells.map dh.dat)]:=by
 cases x;simp [bV.dat,bV.head,bV.cells,Ni]
theorem dh.ug (x:dh):x.dat=li x.id :: (x.head.dat++[.sl 11 (x.flow.map aS.dat)]):=by
 cases x;simp [dh.dat,dh.id,dh.head,dh.flow,Hg]
structure rW (G:GH) (x:lW) (p d l:av):Prop where
 props:aC G (.sl 2 (x.props.map tV.dat)) p
 vB:aC G (.sl 2 (x.marks.vB.map tF.dat)) d
 layers:aC G (.sl 4 (x.marks.layers.map tN.dat)) l
theorem rW.mono {G G':GH} (hm:∀ k o,G k=some o->G' k=some o) {x:lW} {p d l:av} (h:rW G x p d l):rW G' x p d l:=⟨h.props.mono hm,h.vB.mono hm,h.layers.mono hm⟩
theorem aC.form {G:GH} {sz:Nat} {rows:List (List Dat)} {v:av} (h:aC G (.sl sz rows) v):∃ A n c,v=.slice A n c:=by
 obtain ⟨A,c,h,_⟩:=h.slice
 exact ⟨A,_,c,h⟩
theorem aZ.item {G:GH} {x:aS} {cs:List av} (h:aZ G x.dat cs):∃ pA pn pc dA dn dc lA ln lc fA fn fc rA rn rc,cs=[vi x.kind,vi x.code,vi x.id,.string x.text,.slice pA pn pc,vi x.head.marks.ins,vi x.head.marks.move,.slice dA dn dc,.slice lA ln lc,.slice fA fn fc,.slice rA rn rc] ∧
  rW G x.head (.slice pA pn pc) (.slice dA dn dc) (.slice lA ln lc)∧aC G (.sl 11 (x.flow.map aS.dat)) (.slice fA fn fc)∧aC G (.sl 6 (x.rows.map bV.dat)) (.slice rA rn rc):=by
 rw [aS.ug] at h
 simp only [lW.dat,uU.dat,nQ,xJ,aZ] at h
 obtain ⟨v1,_,rfl,h1,v2,_,rfl,h2,v3,_,rfl,h3,v4,_,rfl,h4,p,_,rfl,hp,v5,_,rfl,h5,v6,_,rfl,h6,d,_,rfl,hd,l,_,rfl,hl,f,_,rfl,hf,r,_,rfl,hr,rfl⟩:=h
 obtain ⟨pA,pn,pc,rfl⟩:=hp.form
 obtain ⟨dA,dn,dc,rfl⟩:=hd.form
 obtain ⟨lA,ln,lc,rfl⟩:=hl.form
 obtain ⟨fA,fn,fc,rfl⟩:=hf.form
 obtain ⟨rA,rn,rc,rfl⟩:=hr.form
 simp only [aC] at h1 h2 h3 h4 h5 h6
 obtain ⟨rfl,-⟩:=h1;obtain ⟨rfl,-⟩:=h2;obtain ⟨rfl,-⟩:=h3;obtain ⟨rfl,-⟩:=h4;obtain ⟨rfl,-⟩:=h5;obtain ⟨rfl,-⟩:=h6
 exact ⟨pA,pn,pc,dA,dn,dc,lA,ln,lc,fA,fn,fc,rA,rn,rc,O,⟨hp,hd,hl⟩,hf,hr⟩
theorem aZ.row {G:GH} {x:bV} {cs:List av} (h:aZ G x.dat cs):∃ pA pn pc dA dn dc lA ln lc cA cn cc,cs=[.slice pA pn pc,vi x.head.marks.ins,vi x.head.marks.move,.slice dA dn dc,.slice lA ln lc,.slice cA cn cc]∧rW G x.head (.slice pA pn pc) (.slice dA dn dc) (.slice lA ln lc)∧aC G (.sl 7 (x.cells.map dh.dat)) (.slice cA cn cc):=by
 rw [bV.ug] at h
 simp only [lW.dat,uU.dat,nQ,xJ,aZ] at h
 obtain ⟨p,_,rfl,hp,v5,_,rfl,h5,v6,_,rfl,h6,d,_,rfl,hd,l,_,rfl,hl,f,_,rfl,hf,rfl⟩:=h
 obtain ⟨pA,pn,pc,rfl⟩:=hp.form
 obtain ⟨dA,dn,dc,rfl⟩:=hd.form
 obtain ⟨lA,ln,lc,rfl⟩:=hl.form
 obtain ⟨fA,fn,fc,rfl⟩:=hf.form
 simp only [aC] at h5 h6
 obtain ⟨rfl,-⟩:=h5;obtain ⟨rfl,-⟩:=h6
 exact ⟨pA,pn,pc,dA,dn,dc,lA,ln,lc,fA,fn,fc,O,⟨hp,hd,hl⟩,hf⟩
theorem aZ.cell {G:GH} {x:dh} {cs:List av} (h:aZ G x.dat cs):∃ pA pn pc dA dn dc lA ln lc fA fn fc,cs=[vi x.id,.slice pA pn pc,vi x.head.marks.ins,vi x.head.marks.move,.slice dA dn dc,.slice lA ln lc,.slice fA fn fc]∧rW G x.head (.slice pA pn pc) (.slice dA dn dc) (.slice lA ln lc)∧aC G (.sl 11 (x.flow.map aS.dat)) (.slice fA fn fc):=by
 rw [dh.ug] at h
 simp only [lW.dat,uU.dat,nQ,xJ,aZ] at h
 obtain ⟨v1,_,rfl,h1,p,_,rfl,hp,v5,_,rfl,h5,v6,_,rfl,h6,d,_,rfl,hd,l,_,rfl,hl,f,_,rfl,hf,rfl⟩:=h
 obtain ⟨pA,pn,pc,rfl⟩:=hp.form
 obtain ⟨dA,dn,dc,rfl⟩:=hd.form
 obtain ⟨lA,ln,lc,rfl⟩:=hl.form
 obtain ⟨fA,fn,fc,rfl⟩:=hf.form
 simp only [aC] at h1 h5 h6
 obtain ⟨rfl,-⟩:=h1;obtain ⟨rfl,-⟩:=h5;obtain ⟨rfl,-⟩:=h6
 exact ⟨pA,pn,pc,dA,dn,dc,lA,ln,lc,fA,fn,fc,O,⟨hp,hd,hl⟩,hf⟩
theorem aC.one {G:GH}:∀ {d:Dat} {v:av},aC G d v->Value.oneCell' v=true
 | .lf u,v,h=>by simp only [aC] at h;rw [h.1];exact h.2
 | .sl sz rows,v,h=>by obtain ⟨A,n,c,rfl⟩:=h.form;rfl
theorem aZ.one {G:GH}:∀ {ds:List Dat} {cs:List av},aZ G ds cs->cs.all Value.oneCell'=true
 | [],cs,h=>by simp only [aZ] at h;subst h;rfl
 | d :: ds,cs,h=>by
  simp only [aZ] at h
  obtain ⟨v,vs,rfl,h1,h2⟩:=h
  simp only [List.all_cons,h1.one,h2.one,Bool.and_self]
theorem aZ.length {G:GH}:∀ {ds:List Dat} {cs:List av},aZ G ds cs->cs.length=ds.length
 | [],cs,h=>by simp only [aZ] at h;subst h;rfl
 | d :: ds,cs,h=>by
  simp only [aZ] at h
  obtain ⟨v,vs,rfl,h1,h2⟩:=h
  simp [h2.length]
theorem aZ.mkItem {G:GH} {x:aS} {p d l f r:av} (hh:rW G x.head p d l) (hf:aC G (.sl 11 (x.flow.map aS.dat)) f) (hr:aC G (.sl 6 (x.rows.map bV.dat)) r) :
  aZ G x.dat [vi x.kind,vi x.code,vi x.id,.string x.text,p,vi x.head.marks.ins,vi x.head.marks.move,d,l,f,r]:=by
 rw [aS.ug]
 simp only [lW.dat,uU.dat,nQ,xJ,aZ]
 exact ⟨_,_,O,by simp [aC,Value.oneCell'],_,_,O,by simp [aC,Value.oneCell'],_,_,O,by simp [aC,Value.oneCell'],_,_,O,by simp [aC,Value.oneCell'],_,_,O,hh.props,_,_,O,by simp [aC,Value.oneCell'],_,_,O,by simp [aC,Value.oneCell'],_,_,O,hh.vB,_,_,O,hh.layers,_,_,O,hf,_,_,O,hr,O⟩
theorem aZ.PS {G:GH} {x:bV} {p d l c:av} (hh:rW G x.head p d l) (hc:aC G (.sl 7 (x.cells.map dh.dat)) c) :
  aZ G x.dat [p,vi x.head.marks.ins,vi x.head.marks.move,d,l,c]:=by
 rw [bV.ug]
 simp only [lW.dat,uU.dat,nQ,xJ,aZ]
 exact ⟨_,_,O,hh.props,_,_,O,by simp [aC,Value.oneCell'],_,_,O,by simp [aC,Value.oneCell'],_,_,O,hh.vB,_,_,O,hh.layers,_,_,O,hc,O⟩
theorem aZ.PO {G:GH} {x:dh} {p d l f:av} (hh:rW G x.head p d l) (hf:aC G (.sl 11 (x.flow.map aS.dat)) f) :
  aZ G x.dat [vi x.id,p,vi x.head.marks.ins,vi x.head.marks.move,d,l,f]:=by
 rw [dh.ug]
 simp only [lW.dat,uU.dat,nQ,xJ,aZ]
 exact ⟨_,_,O,by simp [aC,Value.oneCell'],_,_,O,hh.props,_,_,O,by simp [aC,Value.oneCell'],_,_,O,by simp [aC,Value.oneCell'],_,_,O,hh.vB,_,_,O,hh.layers,_,_,O,hf,O⟩
mutual
def yE:Dat->Nat
 | .lf v=>(match v with|.string s=>s.size|_=>0)+1
 | .sl _ rows=>1+jl rows
def jl:List (List Dat)->Nat
 | []=>0
 | r :: rs=>1+iC r+jl rs
def iC:List Dat->Nat
 | []=>0
 | d :: ds=>yE d+iC ds
end
theorem FV (a b:List (List Dat)):jl (a++b)=jl a+jl b:=by
 induction a with
 | nil=>simp [jl]
 | cons x a ih=>simp only [nQ,jl,ih];omega
theorem Kv (a b:List Dat):iC (a++b)=iC a+iC b:=by
 induction a with
 | nil=>simp [iC]
 | cons x a ih=>simp only [nQ,iC,ih];omega
theorem zP:∀ rows:List (List Dat),rows.length<=jl rows
 | []=>bD _
 | r :: rs=>by have:=zP rs;simp only [kI,jl];omega
abbrev gZ (l:List aS):Nat:=jl (l.map aS.dat)
abbrev kg (l:List bV):Nat:=jl (l.map bV.dat)
abbrev jJ (l:List dh):Nat:=jl (l.map dh.dat)
abbrev vR (h:lW):Nat:=iC h.dat
theorem Lh (h:lW):vR h=jl (h.props.map tV.dat)+jl (h.marks.vB.map tF.dat)+jl (h.marks.layers.map tN.dat)+5:=by
 simp only [vR,lW.dat,uU.dat,iC,yE];omega
theorem zW (x:aS):iC x.dat=x.text.size+vR x.head+gZ x.flow+kg x.rows+6:=by
 rw [aS.ug];simp only [iC,yE,Kv,vR,gZ,kg,jJ];omega
theorem uQ (x:bV):iC x.dat=vR x.head+jJ x.cells+1:=by
 rw [bV.ug];simp only [iC,yE,Kv,vR,gZ,kg,jJ];omega
theorem uP (x:dh):iC x.dat=vR x.head+gZ x.flow+2:=by
 rw [dh.ug];simp only [iC,yE,Kv,vR,gZ,kg,jJ];omega
theorem Lj (l:List aS):l.length<=gZ l:=by have:=zP (l.map aS.dat);simpa using this
theorem Gg (l:List bV):l.length<=kg l:=by have:=zP (l.map bV.dat);simpa using this
theorem Gf (l:List dh):l.length<=jJ l:=by have:=zP (l.map dh.dat);simpa using this
theorem FX {r:List Dat}:∀ {rows:List (List Dat)},r∈rows->iC r < jl rows
 | [],h=>by cases h
 | q :: rs,h=>by
  rcases oL.1 h with rfl|h
  ·simp only [jl];omega
  ·have:=FX h;simp only [jl];omega
theorem Ll {x:aS} {l:List aS} (h:x∈l):iC x.dat < gZ l:=FX (List.mem_map_of_mem h)
theorem vS {x:bV} {l:List bV} (h:x∈l):iC x.dat < kg l:=FX (List.mem_map_of_mem h)
theorem xg {x:dh} {l:List dh} (h:x∈l):iC x.dat < jJ l:=FX (List.mem_map_of_mem h)
section
def rC (l:List Oper) (i:Nat):List Nat:=match l[i]? with|some o=>(o.after.toList.filter (Region.binds .any)).map (·.on)|none=>[]
def dY (l:List Oper) (i:Nat):Option Nat:=(l[i]?).bind (·.dst)
def vC (l:List Oper) (bQ:List (List Nat)):Bool :=
 (List.range l.length).all fun i=>(rC l i).all (fun j=>Nat.blt j i) && (bQ.getD i []).all fun j=>(rC l i).contains j || (rC l i).any fun k=>Nat.blt k i && (bQ.getD k []).contains j
def fD (S:Nat->Bool) (i:Nat):Nat->Bool:=fun j=>if j=i then true else S j
section
variable {r:Option Nat} {P:Program} {Q:Exit->Act->World->Prop} {l:List Oper} {bQ:List (List Nat)} {a:Act} {w:World}
theorem M0 (hk:vC l bQ=true) {S:Nat->Bool} (hd:∀ i,S i=true->∀ j∈rC l i,S j=true):∀ i,i < l.length->(∀ j∈rC l i,S j=true)->∀ j∈bQ.getD i [],S j=true:=by
 intro i
 induction i using Nat.strongRecOn with
 | _ i ih =>
  intro hi hdi j hj
  have h1:=gq.1 hk i (qI.2 hi)
  simp only [gT,gq] at h1
  have h2:=h1.2 j hj
  simp only [Bool.or_eq_true,sw,List.any_eq_true,gT] at h2
  rcases h2 with h2|⟨k,hk1,hk2,hk3⟩
  ·exact hdi j h2
  ·have hlt:k < i:=Eq.mp Nat.blt_eq hk2
   exact ih k hlt V (hd k (hdi k hk1)) j hk3
theorem acX {ops:Array Oper} {i:Nat} {o:Oper} {K:Act->World->Prop} (ho:ops[i]?=some o) (h:WL r P ops (fun e a' w'=>e=.normal∧K a' w') [o] a w):wpOpIn (FW r) 0 P ops Q i K a w:=by
 unfold wpOpIn
 simp only [ho]
 have h':wpListIn (FW r) 0 P ops (fun e a' w'=>e=.normal∧K a' w') [o] a w:=h
 unfold wpListIn at h'
 by_cases hw:Region.wanted o (yielded ops a.tmps)=true
 ·rw [aM hw] at h' |-
  refine ⟨fun _ _=>trivial,?_⟩
  have h2:=h'.2
  generalize (o.semAt (FW r).round a.eval).run P w=res at h2 |-
  cases res with
  | ok x w1 =>
   cases x with
   | value v=>exact h2.2
   | skip=>exact h2.2
   | defer d=>exact h2.2
   | enter f args=>exact ⟨h2.1,h2.2.mono fun e w2 he=>by
     cases e with
     | returned v=>exact he.2
     | panicked ch=>exact absurd he.1 (by simp)
     | outgrown=>obtain ⟨_,_,h3,_⟩:=he;exact absurd h3 (by simp)⟩
   | row J4 args=>exact ⟨h2.1,h2.2.mono fun v w2 he=>he.2⟩
   | round l f t GL b=>exact ⟨h2.1,h2.2.mono fun e w2 he=>by
     cases e with
     | returned v=>exact he.2
     | panicked ch=>exact absurd he.1 (by simp)
     | outgrown=>obtain ⟨_,_,h3,_⟩:=he;exact absurd h3 (by simp)⟩
   | _=>exact h2.elim
  | halt x w1 =>
   cases x with
   | panic v=>exact absurd h2.1 (by simp)
   | _=>exact h2.elim
 ·rw [aJ hw] at h' |-
  exact ⟨fun _ _=>trivial,h'.2.2⟩
theorem count_set {L:List Bool}:∀ {i:Nat},L[i]?=some false->(L.set i true).count false+1=L.count false:=by
 induction L with
 | nil=>intro i h;simp at h
 | cons b L ih =>
  intro i h
  cases i with
  | zero=>simp at h;subst h;simp
  | succ i =>
   simp only [List.getElem?_cons_succ] at h
   have:=ih h
   simp only [List.set_cons_succ,List.count_cons]
   omega
theorem El {id:Nat} (hm:P.follows .mixedOrders=true) (bQ:List (List Nat)) (hk:vC l bQ=true) (X:(Nat->Bool)->Act->World->Prop) (h0:X (fun _=>false) a w.drew)
  (hstep:∀ i o S a w,l[i]?=some o->X S a w->S i=false->(∀ j∈bQ.getD i [],S j=true)->(∀ j,j < l.length->i∈bQ.getD j []->S j=false)->WL r P l.toArray (fun e a' w'=>e=.normal∧X (fD S i) a' w') [o] a w)
  (hend:∀ S a w,(∀ i,i < l.length->S i=true)->X S a w->Q .normal a w):WP r P (.region id l.toArray true) Q a w:=by
 have key:∀ (fuel:Nat) (listed:Array Bool) (S:Nat->Bool) (a:Act) (w:World),listed.size=l.length->(∀ i,i < l.length->listed[i]?=some (S i))->listed.toList.count false<=fuel->(∀ i,i < l.length->S i=true->∀ j∈rC l i,S j=true)->(∀ i,l.length<=i->S i=false)->X S a w ->
   wpAnyIn (FW r) 0 P .any l.toArray Q fuel listed a w:=by
  intro fuel
  induction fuel with
  | zero =>
   intro listed S a w hsz hS hc hdn hbig hX
   have hall:∀ i,i < l.length->S i=true:=by
    intro i hi
    cases ah:S i with
    | true=>rfl
    | false =>
     have h1:=hS i hi
     rw [ah] at h1
     have:false∈listed.toList:=jK (by simpa using h1)
     have:=List.count_pos_iff.2 this
     omega
   refine ⟨?_,hend S a w hall hX⟩
   apply List.eq_nil_iff_forall_not_mem.2
   intro i hi
   obtain ⟨h1,o,ho,-⟩:=mem_ready.1 hi
   have hil:i < l.length:=by simpa using (Array.getElem?_eq_some_iff.1 ho).1
   have h2:=hS i hil
   rw [hall i hil] at h2
   rw [Array.getD_eq_getD_getElem?,h2] at h1
   cases h1
  | succ fuel ih =>
   intro listed S a w hsz hS hc hdn hbig hX
   have hget:∀ i d,i < l.length->listed.getD i d=S i:=fun i d hi=>by rw [Array.getD_eq_getD_getElem?,hS i hi];rfl
   refine ⟨fun hnil=>?_,fun i hi=>?_⟩
   ·by_cases hall:∀ i,i < l.length->S i=true
    ·exact hend S a w hall hX
    ·exfalso
     have hex:∃ i,i < l.length∧S i=false:=by
      apply Classical.byContradiction
      intro hno
      apply hall
      intro i hi
      cases ah:S i with
      | true=>rfl
      | false=>exact absurd ⟨i,hi,ah⟩ hno
     obtain ⟨i,hi,ah,hmin⟩:∃ i,i < l.length∧S i=false∧∀ j,j < i->S j=true:=by
      obtain ⟨i0,hi0,hs0⟩:=hex
      clear hall
      induction i0 using Nat.strongRecOn with
      | _ i0 Zj =>
       by_cases hlt:∃ j,j < i0∧S j=false
       ·obtain ⟨j,hj,hsj⟩:=hlt
        exact Zj j hj V hsj
       ·refine ⟨i0,hi0,hs0,fun j hj=>?_⟩
        cases hSj:S j with
        | true=>rfl
        | false=>exact absurd ⟨j,hj,hSj⟩ hlt
     have hr:i∈Region.ready .any l.toArray listed:=by
      rw [mem_ready]
      refine ⟨by rw [hget i true hi,ah],l[i],by simp [hi],fun e he hb=>?_⟩
      have hk1:=gq.1 hk i (qI.2 hi)
      simp only [gT,gq] at hk1
      have hin:e.on∈rC l i:=by
       simp only [rC,iR hi,List.mem_map,List.mem_filter]
       exact ⟨e,⟨by simpa using he,hb⟩,O⟩
      have hlt:e.on < i:=Eq.mp Nat.blt_eq (hk1.1 _ hin)
      rw [hget _ _ V]
      exact hmin _ hlt
     rw [hnil] at hr
     cases hr
   ·obtain ⟨h1,o,ho,XT⟩:=mem_ready.1 hi
    have hil:i < l.length:=by simpa using (Array.getElem?_eq_some_iff.1 ho).1
    have ho':l[i]?=some o:=by simpa using ho
    have ah:S i=false:=by rw [<- hget i true hil];exact h1
    have hdi:∀ j∈rC l i,S j=true:=by
     intro j hj
     simp only [rC,ho',List.mem_map,List.mem_filter] at hj
     obtain ⟨e,⟨he,hb⟩,rfl⟩:=hj
     have h2:=XT e (by simpa using he) hb
     by_cases hjl:e.on < l.length
     ·rwa [hget _ _ hjl] at h2
     ·have hk1:=gq.1 hk i (qI.2 hil)
      simp only [gT,gq] at hk1
      have hin:e.on∈rC l i:=by
       simp only [rC,ho',List.mem_map,List.mem_filter]
       exact ⟨e,⟨he,hb⟩,O⟩
      have hlt:e.on < i:=Eq.mp Nat.blt_eq (hk1.1 _ hin)
      omega
    have Oz:∀ i,S i=true->∀ j∈rC l i,S j=true:=by
     intro k hk' j hj
     by_cases hkl:k < l.length
     ·exact hdn k hkl hk' j hj
     ·rw [hbig k V] at hk';cases hk'
    refine acX ho ?_
    have hs:=hstep i o S a w ho' hX ah (M0 hk Oz i hil hdi) (fun j hjl hj=>by
     cases hSj:S j with
     | false=>rfl
     | true=>have:=M0 hk Oz j hjl (hdn j hjl hSj) i hj;rw [this] at ah;cases ah)
    have hmono:∀ e a' w',(e=Exit.normal∧X (fD S i) a' w')->(e=Exit.normal∧wpAnyIn (FW r) 0 P .any l.toArray Q fuel (listed.setIfInBounds i true) a' w'):=by
     rintro e a' w' ⟨he,Xz⟩
     refine ⟨he,ih _ (fD S i) a' w' (by simpa using hsz) (fun j hj=>?_) ?_ (fun j hj hSj q hq=>?_) (fun j hj=>?_) Xz⟩
     ·rw [Array.getElem?_setIfInBounds]
      unfold fD
      by_cases e:i=j
      ·subst e;simp [hsz,hil]
      ·rw [aJ e,aJ (Ne.symm e)];exact hS j hj
     ·have h3:listed.toList[i]?=some false:=by have:=hS i hil;rw [ah] at this;simpa using this
      have:=count_set h3
      simp only [Array.toList_setIfInBounds]
      omega
     ·unfold fD at hSj |-
      split
      ·rfl
      ·split at hSj
       ·rename_i e;subst e;exact hdi q hq
       ·exact hdn j hj hSj q hq
     ·unfold fD
      rw [aJ V]
      exact hbig j hj
    have hs':wpListIn (FW r) 0 P l.toArray (fun e a' w'=>e=.normal∧X (fD S i) a' w') [o] a w:=hs
    show wpListIn (FW r) 0 P l.toArray _ [o] a w
    unfold wpListIn at hs' |-
    split
    ·rename_i hw
     rw [aM hw] at hs'
     refine ⟨fun _ _=>trivial,?_⟩
     have h2:=hs'.2
     generalize (o.semAt (FW r).round a.eval).run P w=res at h2 |-
     cases res with
     | ok x w1 =>
      cases x with
      | value v=>exact hmono _ _ _ h2
      | skip=>exact hmono _ _ _ h2
      | defer d=>exact hmono _ _ _ h2
      | enter f args=>exact ⟨h2.1,h2.2.mono fun e w2 he=>by
        cases e with
        | returned v=>exact hmono _ _ _ he
        | panicked ch=>exact absurd he.1 (by simp)
        | outgrown=>obtain ⟨_,_,h3,_⟩:=he;exact absurd h3 (by simp)⟩
      | row J4 args=>exact ⟨h2.1,h2.2.mono fun v w2 he=>hmono _ _ _ he⟩
      | round l f t GL b=>exact ⟨h2.1,h2.2.mono fun e w2 he=>by
        cases e with
        | returned v=>exact hmono _ _ _ he
        | panicked ch=>exact absurd he.1 (by simp)
        | outgrown=>obtain ⟨_,_,h3,_⟩:=he;exact absurd h3 (by simp)⟩
      | _=>exact h2.elim
     | halt x w1 =>
      cases x with
      | panic v=>exact absurd h2.1 (by simp)
      | _=>exact h2.elim
    ·rename_i hw
     rw [aJ hw] at hs'
     exact ⟨fun _ _=>trivial,hmono _ _ _ hs'.2⟩
 refine wpIn_region_any hm (key _ _ (fun _=>false) a w.drew (by simp) (fun i hi=>by simp [hi]) ?_ (fun _ _ h=>by cases h) (fun _ _=>rfl) h0)
 simp
end
def full (N:Nat) (a:Act):List (Nat × av):=(List.range N).map fun t=>(t,a.tmps.getD t undef)
theorem Du (T qk:List (Nat × av)) (t:Nat):lk (T++qk) t=match lk T t with|some v=>some v|none=>lk qk t:=by
 induction T with
 | nil=>rfl
 | cons p T ih =>
  obtain ⟨s,v⟩:=p
  by_cases e:s=t
  ·subst e;rw [nQ,qP,qP]
  ·rw [nQ,oW e,oW e,ih]
theorem Py (f:Nat->av):∀ (L:List Nat) (t:Nat),t∈L->lk (L.map fun t=>(t,f t)) t=some (f t)
 | [],_,h=>by cases h
 | s :: L,t,h=>by
  simp only [iT]
  by_cases e:s=t
  ·subst e;rw [qP]
  ·rw [oW e]
   exact Py f L t ((oL.1 h).resolve_left (Ne.symm e))
theorem Dv {N t:Nat} (a:Act) (h:t < N):lk (full N a) t=some (a.tmps.getD t undef):=Py (fun t=>a.tmps.getD t undef) _ t (qI.2 h)
section
variable {N:Nat} {D:List Deferred} {w0:World} {F:Nat->Prop} {G0 G G1 G2:GH} {L L1 L2:OL} {T Xs:List (Nat × av)}
variable {r:Option Nat} {P:Program} {Q:Exit->Act->World->Prop} {l:List Oper} {a a':Act} {w w':World}
theorem St.full (H:St N D w0 F G0 G L T a w):St N D w0 F G0 G L (T++full N a) a w:=by
 refine ⟨H.jv,fun t v ht=>?_,H.mJ,H.hp⟩
 rw [Du] at ht
 cases hT:lk T t with
 | some u=>rw [hT] at ht;simp only [ku] at ht;subst ht;exact H.get t u hT
 | none =>
  rw [hT] at ht
  by_cases hlt:t < N
  ·rw [Dv a hlt] at ht
   simp only [ku] at ht
   have h2:t < a.tmps.size:=by rw [H.jv];exact hlt
   rw [<- ht,Array.getD_eq_getD_getElem?,Array.getElem?_eq_getElem h2]
   rfl
  ·exfalso
   have:∀ (L:List Nat),t∉L->lk (L.map fun t=>(t,a.tmps.getD t undef)) t=none:=by
    intro L
    induction L with
    | nil=>intro _;rfl
    | cons s L ih=>intro h;simp only [iT];rw [oW (fun e=>h (by simp [e])),ih (fun h'=>h (by simp [h']))]
   rw [show lk (Proofs.YtomebajfpcjoeaaDoor.full N a) t=none from this _ (by simp;omega)] at ht
   cases ht
theorem St.eT (H:St N D w0 F G0 G L T a w) {t:Nat} {v:av} (h:a.tmps[t]?=some v):St N D w0 F G0 G L ((t,v) :: T) a w :=
 ⟨H.jv,fun s u hs=>by
  by_cases e:t=s
  ·subst e;rw [qP] at hs;simp only [ku] at hs;subst hs;exact h
  ·rw [oW e] at hs;exact H.get s u hs,H.mJ,H.hp⟩
def DX (N:Nat) (D:List Deferred) (w0:World) (F:Nat->Prop) (G0 G:GH) (L:OL) (T:List (Nat × av)) (l:List Oper) (pr:Nat->av->GH->Prop) (S:Nat->Bool) (a:Act) (w:World):Prop :=
 ∃ G1,(∀ k o,G k=some o->G1 k=some o)∧St N D w0 F G0 G1 L T a w∧∀ i d,S i=true->dY l i=some d->∃ v,a.tmps[d]?=some v∧pr i v G1
def mo (l:List Oper) (T:List (Nat × av)) (i:Nat):Bool :=
 match dY l i with|none=>true|some d=>(lk T d).isNone && (List.range l.length).all fun j=>bif Nat.beq i j then true else !(dY l j == some d)
def Va (l:List Oper) (T:List (Nat × av)):Bool :=
 (List.range l.length).all (mo l T)
theorem jw {pr:Nat->av->GH->Prop} {S:Nat->Bool} {i d:Nat} {v:av} (hok:mo l T i=true) (jf:∀ i v (G G':GH),(∀ k o,G k=some o->G' k=some o)->pr i v G->pr i v G') (hi:dY l i=some d) (hdl:Nat.blt i l.length=true)
  (HT:St N D w0 F G0 G1 L T a w) (Hb:St N D w0 F G0 G1 L (Xs++full N a) a w) (hG:∀ k o,G k=some o->G1 k=some o) (hv:∀ i d,S i=true->dY l i=some d->∃ v,a.tmps[d]?=some v∧pr i v G1)
  (hG2:∀ k o,G1 k=some o->G2 k=some o) (hp:pr i v G2) (H:St N D w0 F G0 G2 L ((d,v) :: (Xs++full N a)) a' w'):DX N D w0 F G0 G L T l pr (fD S i) a' w':=by
 have hil:i < l.length:=Eq.mp Nat.blt_eq hdl
 have hok1:=hok
 rw [mo,hi] at hok1
 simp only [gT,Option.isNone_iff_eq_none,gq,qI] at hok1
 have hsame:∀ t,t≠d->a'.tmps[t]?=a.tmps[t]?:=by
  intro t ht
  by_cases hlt:t < N
  ·have h1:∃ u,lk (Xs++full N a) t=some u:=by
    rw [Du]
    cases lk Xs t with
    | some u=>exact ⟨u,O⟩
    | none=>exact ⟨_,Dv a hlt⟩
   obtain ⟨u,hu⟩:=h1
   rw [Hb.get t u hu,H.get t u (by rw [oW (Ne.symm ht)];exact hu)]
  ·rw [Array.getElem?_eq_none (by rw [H.jv];omega),Array.getElem?_eq_none (by rw [Hb.jv];omega)]
 refine ⟨G2,fun k o hk=>hG2 k o (hG k o hk),⟨H.jv,fun t u ht=>?_,H.mJ,H.hp⟩,fun j e hj he=>?_⟩
 ·rw [hsame t (fun e=>by rw [e,hok1.1] at ht;cases ht)]
  exact HT.get t u ht
 ·by_cases hji:j=i
  ·subst hji
   rw [hi] at he
   simp only [ku] at he
   subst he
   exact ⟨v,H.get d v (qP _ _ _),hp⟩
  ·have hSj:S j=true:=by unfold fD at hj;rwa [aJ hji] at hj
   obtain ⟨u,hu1,hu2⟩:=hv j e hSj he
   have hjl:j < l.length:=by
    unfold dY at he
    by_cases hl:j < l.length
    ·exact hl
    ·rw [List.getElem?_eq_none V] at he;cases he
   have hne:e≠d:=by
    intro e'
    subst e'
    have h2:=hok1.2 j hjl
    have hb:Nat.beq i j=false:=by
     cases h:Nat.beq i j with
     | false=>rfl
     | true=>exact absurd (uW h).symm hji
    rw [hb,he] at h2
    simp at h2
   exact ⟨u,by rw [hsame e hne];exact hu1,jf j u _ _ hG2 hu2⟩
def vN (l:List Oper) (bQ:List (List Nat)) (B:List Nat):Bool :=
 (List.range B.length).all (fun p=>match B[p]? with|none=>false|some b=>Nat.blt b l.length && (List.range l.length).all fun i=>B.contains i && !(B.take p).contains i || (bQ.getD b []).contains i) &&
 (List.range l.length).all fun i=>B.contains i || (bQ.getD i []).all fun j=>!B.contains j
def nI (l:List Oper):List Nat->List Oper
 | []=>[]
 | b :: B=>match l[b]? with|some o=>o :: nI l B|none=>nI l B
theorem qU {ops:Array Oper} {Q':Exit->Act->World->Prop} (hq:∀ e a w,Q e a w->Q' e a w):∀ {L:List Oper} {a:Act} {w:World},WL r P ops Q L a w->WL r P ops Q' L a w
 | [],a,w,h=>hq _ _ _ h
 | o :: L,a,w,h=>by
  have h':wpListIn (FW r) 0 P ops Q (o :: L) a w:=h
  show wpListIn (FW r) 0 P ops Q' (o :: L) a w
  unfold wpListIn at h' |-
  split
  ·rename_i hw
   rw [aM hw] at h'
   refine ⟨h'.1,?_⟩
   have h2:=h'.2
   generalize (o.semAt (FW r).round a.eval).run P w=res at h2 |-
   cases res with
   | ok x w1 =>
    cases x with
    | value v=>exact qU hq h2
    | skip=>exact qU hq h2
    | defer d=>exact qU hq h2
    | enter f args=>exact ⟨h2.1,h2.2.mono fun e w2 he=>by
      cases e with
      | returned v=>exact qU hq he
      | panicked ch=>exact hq _ _ _ he
      | outgrown=>obtain ⟨x,y,h3⟩:=he;exact ⟨x,y,hq _ _ _ h3⟩⟩
    | row J4 args=>exact ⟨h2.1,h2.2.mono fun v w2 he=>qU hq he⟩
    | round l f t GL b=>exact ⟨h2.1,h2.2.mono fun e w2 he=>by
      cases e with
      | returned v=>exact qU hq he
      | panicked ch=>exact hq _ _ _ he
      | outgrown=>obtain ⟨x,y,h3⟩:=he;exact ⟨x,y,hq _ _ _ h3⟩⟩
    | _=>exact h2.elim
   | halt x w1 =>
    cases x with
    | panic v=>exact hq _ _ _ h2
    | _=>exact h2.elim
  ·rename_i hw
   rw [aJ hw] at h'
   exact ⟨h'.1,qU hq h'.2⟩
theorem Sn {ops:Array Oper} {o:Oper} {L:List Oper} {K:Act->World->Prop} (hK:∀ a w,WL r P ops (fun e a w=>e=.normal∧Q .normal a w) L a w->K a w) (h:WL r P ops (fun e a w=>e=.normal∧Q .normal a w) (o :: L) a w):WL r P ops (fun e a' w'=>e=.normal∧K a' w') [o] a w:=by
 have h':wpListIn (FW r) 0 P ops (fun e a w=>e=.normal∧Q .normal a w) (o :: L) a w:=h
 show wpListIn (FW r) 0 P ops _ [o] a w
 unfold wpListIn at h' |-
 split
 ·rename_i hw
  rw [aM hw] at h'
  refine ⟨h'.1,?_⟩
  have h2:=h'.2
  generalize (o.semAt (FW r).round a.eval).run P w=res at h2 |-
  cases res with
  | ok x w1 =>
   cases x with
   | value v=>exact ⟨O,hK _ _ h2⟩
   | skip=>exact ⟨O,hK _ _ h2⟩
   | defer d=>exact ⟨O,hK _ _ h2⟩
   | enter f args=>exact ⟨h2.1,h2.2.mono fun e w2 he=>by
     cases e with
     | returned v=>exact ⟨O,hK _ _ he⟩
     | panicked ch=>exact absurd he.1 (by simp)
     | outgrown=>obtain ⟨_,_,h3,_⟩:=he;exact absurd h3 (by simp)⟩
   | row J4 args=>exact ⟨h2.1,h2.2.mono fun v w2 he=>⟨O,hK _ _ he⟩⟩
   | round l f t GL b=>exact ⟨h2.1,h2.2.mono fun e w2 he=>by
     cases e with
     | returned v=>exact ⟨O,hK _ _ he⟩
     | panicked ch=>exact absurd he.1 (by simp)
     | outgrown=>obtain ⟨_,_,h3,_⟩:=he;exact absurd h3 (by simp)⟩
   | _=>exact h2.elim
  | halt x w1 =>
   cases x with
   | panic v=>exact absurd h2.1 (by simp)
   | _=>exact h2.elim
 ·rename_i hw
  rw [aJ hw] at h'
  exact ⟨h'.1,O,hK _ _ h'.2⟩
theorem Ug {id:Nat} (hm:P.follows .mixedOrders=true) (bQ:List (List Nat)) (B:List Nat) (hk:vC l bQ=true) (hB:vN l bQ B=true) (pr:Nat->av->GH->Prop) (jf:∀ i v (G G':GH),(∀ k o,G k=some o->G' k=some o)->pr i v G->pr i v G')
  (H:St N D w0 F G0 G L T a w)
  (hstep:∀ i o S a w G1,l[i]?=some o->B.contains i=false->S i=false->(∀ j∈bQ.getD i [],S j=true)->(∀ k o,G k=some o->G1 k=some o)->St N D w0 F G0 G1 L T a w->(∀ i d,S i=true->dY l i=some d->∃ v,a.tmps[d]?=some v∧pr i v G1) ->
   WL r P l.toArray (fun e a' w'=>e=.normal∧DX N D w0 F G0 G L T l pr (fD S i) a' w') [o] a w)
  (hend:∀ a w G1,(∀ k o,G k=some o->G1 k=some o)->St N D w0 F G0 G1 L T a w->(∀ i d,B.contains i=false->dY l i=some d->∃ v,a.tmps[d]?=some v∧pr i v G1)->WL r P l.toArray (fun e a w=>e=.normal∧Q .normal a w) (nI l B) a w):WP r P (.region id l.toArray true) Q a w:=by
 have hB1:∀ p b,B[p]?=some b->b < l.length∧∀ i,i < l.length->(B.contains i=false∨(B.take p).contains i=true)->i∈bQ.getD b []:=by
  intro p b hp
  simp only [vN,gT] at hB
  have h1:=gq.1 hB.1 p (qI.2 (iI.1 hp).1)
  rw [hp] at h1
  simp only [gT,gq,qI] at h1
  refine ⟨Eq.mp Nat.blt_eq h1.1,fun i hi hor=>?_⟩
  have h2:=h1.2 i hi
  rcases hor with h3|h3
  ·have h4:i∉B:=by simpa using h3
   simpa [h4] using h2
  ·have h4:i∈B.take p:=by simpa using h3
   simpa [h4] using h2
 have hB2:∀ i,i < l.length->B.contains i=false->∀ j∈bQ.getD i [],B.contains j=false:=by
  intro i hi hb j hj
  simp only [vN,gT] at hB
  have h1:=gq.1 hB.2 i (qI.2 hi)
  rw [hb] at h1
  simp only [Bool.false_or,gq] at h1
  simpa using h1 j hj
 refine El hm bQ hk (fun S a w=>((∀ i,B.contains i=true->S i=false)∧DX N D w0 F G0 G L T l pr S a w) ∨
   ∃ p,(∀ i,i < l.length->B.contains i=false->S i=true)∧(∀ i,(B.take p).contains i=true->S i=true)∧(∀ q b,B[q]?=some b->p<=q->S b=false)∧WL r P l.toArray (fun e a w=>e=.normal∧Q .normal a w) (nI l (B.drop p)) a w)
  (.inl ⟨fun _ _=>rfl,G,fun _ _ h=>h,H.move H.hp.drew,fun _ _ h=>by cases h⟩) ?_ ?_
 ·intro i o S a w ho hX ah mM hdesc
  have hil:i < l.length:=(iI.1 ho).1
  by_cases hbi:B.contains i=true
  ·-- an operation of the tail: all that stands ahead of it is done
   obtain ⟨p0,hp0⟩:=List.getElem?_of_mem (by simpa using hbi:i∈B)
   have hall:∀ j,j < l.length->B.contains j=false->S j=true:=fun j hj hb=>mM j ((hB1 p0 i hp0).2 j hj (.inl hb))
   have Jq:∃ p,(∀ i,(B.take p).contains i=true->S i=true)∧(∀ q b,B[q]?=some b->p<=q->S b=false)∧WL r P l.toArray (fun e a w=>e=.normal∧Q .normal a w) (nI l (B.drop p)) a w:=by
    rcases hX with ⟨h1,G1,hG,HS,hv⟩|⟨p,_,h2,h3,h4⟩
    ·refine ⟨0,by simp,fun q b hq _=>h1 b (by simpa using jK hq),?_⟩
     refine hend a w G1 hG HS fun j e hb he=>?_
     have hjl:j < l.length:=by
      unfold dY at he
      by_cases hl:j < l.length
      ·exact hl
      ·rw [List.getElem?_eq_none V] at he;cases he
     exact hv j e (hall j hjl hb) he
    ·exact ⟨p,h2,h3,h4⟩
   obtain ⟨p,h2,h3,h4⟩:=Jq
   -- i is the next one
   have hpp:p<=p0:=by
    rcases Nat.lt_or_ge p0 p with hlt|hge
    ·have:(B.take p).contains i=true:=by
      simp only [sw]
      exact jK (i:=p0) (by rw [sj,aM hlt];exact hp0)
     rw [h2 i this] at ah;cases ah
    ·exact hge
   have zw:p < B.length:=by have:=(iI.1 hp0).1;omega
   have hbp:B[p]?=some B[p]:=iR zw
   have heq:B[p]=i:=by
    rcases Nat.lt_or_ge p p0 with hlt|hge
    ·exfalso
     have hin:B[p]∈bQ.getD i []:=(hB1 p0 i hp0).2 _ (hB1 p _ hbp).1 (.inr (by
      simp only [sw]
      exact jK (i:=p) (by rw [sj,aM hlt];exact hbp)))
     have:=mM _ hin
     rw [h3 p _ hbp (bD _)] at this;cases this
    ·have:p=p0:=by omega
     subst this
     rw [hbp] at hp0;simpa using hp0
   have hdrop:B.drop p=i :: B.drop (p+1):=by rw [List.drop_eq_getElem_cons zw,heq]
   have hops:nI l (B.drop p)=o :: nI l (B.drop (p+1)):=by rw [hdrop];simp [nI,ho]
   rw [hops] at h4
   refine Sn (fun a' w' h5=>.inr ⟨p+1,fun j hj hb=>?_,fun j hj=>?_,fun q b hq hpq=>?_,h5⟩) h4
   ·unfold fD;split
    ·rfl
    ·exact hall j hj hb
   ·unfold fD;split
    ·rfl
    ·rename_i hne
     refine h2 j ?_
     simp only [sw] at hj |-
     rw [lZ zw,vX] at hj
     rcases hj with hj|hj
     ·exact hj
     ·simp only [vY] at hj;exact absurd (hj.trans heq) hne
   ·unfold fD
    rw [aJ ?_]
    ·exact h3 q b hq V
    ·rintro rfl
     -- i would stand twice in B: it would come ahead of itself
     have h6:=(hB1 q b hq).2 b (hB1 q b hq).1 (.inr (by
      simp only [sw]
      exact jK (i:=p) (by rw [sj,aM V];rw [hbp,heq])))
     rw [mM _ h6] at ah;cases ah
  ·have zi:B.contains i=false:=by cases h:B.contains i with|false=>rfl|true=>exact absurd h hbi
   rcases hX with ⟨h1,G1,hG,HS,hv⟩|⟨p,h0,_,_,_⟩
   ·refine qU (fun e a' w' ⟨he,hD⟩=>⟨he,.inl ⟨fun j hj=>?_,hD⟩⟩) (hstep i o S a w G1 ho zi ah mM hG HS hv)
    unfold fD
    rw [aJ (by rintro rfl;rw [zi] at hj;cases hj)]
    exact h1 j hj
   ·rw [h0 i hil zi] at ah;cases ah
 ·intro S a w hall hX
  rcases hX with ⟨h1,G1,hG,HS,hv⟩|⟨p,_,_,h3,h4⟩
  ·have hnil:B=[]:=by
    cases B with
    | nil=>rfl
    | cons b B=>have h5:=h1 b (by simp);rw [hall b (hB1 0 b O).1] at h5;cases h5
   subst hnil
   have h6:=hend a w G1 hG HS fun j e _ he=>by
    have hjl:j < l.length:=by
     unfold dY at he
     by_cases hl:j < l.length
     ·exact hl
     ·rw [List.getElem?_eq_none V] at he;cases he
    exact hv j e (hall j hjl) he
   exact h6.2
  ·have hnil:B.drop p=[]:=by
    cases hd:B.drop p with
    | nil=>rfl
    | cons b B' =>
     have hb:B[p]?=some b:=by
      have:=jD (fun x:List Nat=>x[0]?) hd
      simpa using this
     have h5:=h3 p b hb (bD _)
     rw [hall b (hB1 p b hb).1] at h5;cases h5
   rw [hnil] at h4
   exact h4.2
def allI (φ:Nat->Oper->Prop):Nat->List Oper->Prop
 | _,[]=>True
 | i,o :: r=>φ i o∧allI φ (i+1) r
theorem fQ {φ:Nat->Oper->Prop} {i:Nat}:allI φ i []:=trivial
theorem iO {φ:Nat->Oper->Prop} {i:Nat} {o:Oper} {r:List Oper} (h:φ i o) (t:allI φ (i+1) r):allI φ i (o :: r):=⟨h,t⟩
theorem yO {φ:Nat->Oper->Prop}:∀ {l:List Oper} {s:Nat},allI φ s l->∀ i o,l[i]?=some o->φ (s+i) o
 | [],s,_,i,o,h=>by simp at h
 | x :: l,s,h,0,o,ho=>by simp at ho;subst ho;exact h.1
 | x :: l,s,h,i+1,o,ho=>by
  have:=yO h.2 i o (by simpa using ho)
  rwa [show s+1+i=s+(i+1) by omega] at this
theorem Ck {id:Nat} (hm:P.follows .mixedOrders=true) (bQ:List (List Nat)) (B:List Nat) (hk:vC l bQ=true) (hB:vN l bQ B=true) (pr:Nat->av->GH->Prop) (jf:∀ i v (G G':GH),(∀ k o,G k=some o->G' k=some o)->pr i v G->pr i v G')
  (H:St N D w0 F G0 G L T a w)
  (hstep:allI (fun i o=>∀ S a w G1,B.contains i=false->S i=false->(∀ j∈bQ.getD i [],S j=true)->(∀ k o,G k=some o->G1 k=some o)->St N D w0 F G0 G1 L T a w->(∀ i d,S i=true->dY l i=some d->∃ v,a.tmps[d]?=some v∧pr i v G1) ->
   WL r P l.toArray (fun e a' w'=>e=.normal∧DX N D w0 F G0 G L T l pr (fD S i) a' w') [o] a w) 0 l)
  (hend:∀ a w G1,(∀ k o,G k=some o->G1 k=some o)->St N D w0 F G0 G1 L T a w->(∀ i d,B.contains i=false->dY l i=some d->∃ v,a.tmps[d]?=some v∧pr i v G1)->WL r P l.toArray (fun e a w=>e=.normal∧Q .normal a w) (nI l B) a w):WP r P (.region id l.toArray true) Q a w :=
 Ug hm bQ B hk hB pr jf H (fun i o S a w G1 ho hb hs hc hg HS hv=>by
  have:=yO hstep i o ho
  rw [fC] at this
  exact this S a w G1 hb hs hc hg HS hv) hend
theorem abt {pr:Nat->av->GH->Prop} {i d j t:Nat} {op:Op} {ty:TypeId} {pos:String} {aG:Array Edge} {want b:Bool} {bQ:List (List Nat)} {B:List Nat} (hok:mo l T i=true) (jf:∀ i v (G G':GH),(∀ k o,G k=some o->G' k=some o)->pr i v G->pr i v G')
  (hi:dY l i=some d) (hdl:Nat.blt i l.length=true) (hjd:dY l j=some t) (hjc:(bQ.getD i []).contains j=true) (hd:Nat.blt d N=true) (hb:∀ v G,pr j v G->v=.bool b) (hbw:b=!want) (hu:∀ G,pr i undef G) :
  ∀ S a w G1,B.contains i=false->S i=false->(∀ j∈bQ.getD i [],S j=true)->(∀ k o,G k=some o->G1 k=some o)->St N D w0 F G0 G1 L T a w->(∀ i d,S i=true->dY l i=some d->∃ v,a.tmps[d]?=some v∧pr i v G1) ->
   WL r P l.toArray (fun e a' w'=>e=.normal∧DX N D w0 F G0 G L T l pr (fD S i) a' w') [⟨some d,op,ty,pos,aG,some (j,want)⟩] a w:=by
 intro S a w G1 _ _ hc hG HT hv
 obtain ⟨u,hu1,hu2⟩:=hv j t (hc j (sw.1 hjc)) hjd
 obtain rfl:=hb _ _ hu2
 have H:=(HT.eT hu1).full
 refine QH H (by unfold dY at hjd;simpa using hjd) (show lk ((t,Value.bool b) :: (T++full N a)) t=_ by simp [lk]) hbw hd ?_
 intro a' H'
 refine aj ⟨O,?_⟩
 exact jw (Xs:=(t,.bool b) :: T) hok jf hi hdl HT H hG hv (fun _ _ h=>h) (hu G1) H'
def GK (pr:Nat->av->GH->Prop):List (Nat × Nat × av)->Prop
 | []=>True
 | (j,_,u) :: r=>(∀ v G,pr j v G->v=u)∧GK pr r
def vM (us:List (Nat × Nat × av)) (T:List (Nat × av)):List (Nat × av):=us.foldl (fun T x=>(x.2.1,x.2.2) :: T) T
theorem Mg {pr:Nat->av->GH->Prop} {S:Nat->Bool} {ds:List Nat}:∀ {us:List (Nat × Nat × av)} {T:List (Nat × av)},us.all (fun x=>ds.contains x.1 && (dY l x.1 == some x.2.1))=true->GK pr us->(∀ j∈ds,S j=true)->(∀ i d,S i=true->dY l i=some d->∃ v,a.tmps[d]?=some v∧pr i v G1)->St N D w0 F G0 G1 L T a w->St N D w0 F G0 G1 L (vM us T) a w
 | [],_,_,_,_,_,H=>H
 | (j,t,u) :: r,T,h,hu,hc,hv,H=>by
  simp only [List.all_cons,gT,beq_iff_eq] at h
  obtain ⟨v,hv1,hv2⟩:=hv j t (hc j (sw.1 h.1.1)) h.1.2
  obtain rfl:=hu.1 v _ hv2
  exact Mg (us:=r) h.2 hu.2 hc hv (H.eT hv1)
theorem Fv {pr:Nat->av->GH->Prop} {i d:Nat} {o:Oper} {bQ:List (List Nat)} {B:List Nat} (us:List (Nat × Nat × av)) (Y9:us.all (fun x=>(bQ.getD i []).contains x.1 && (dY l x.1 == some x.2.1))=true) (hu:GK pr us) (hok:mo l T i=true) (jf:∀ i v (G G':GH),(∀ k o,G k=some o->G' k=some o)->pr i v G->pr i v G')
  (hi:dY l i=some d) (hdl:Nat.blt i l.length=true)
  (k:∀ S a w G1,(∀ k o,G k=some o->G1 k=some o)->St N D w0 F G0 G1 L T a w->St N D w0 F G0 G1 L (vM us T++full N a) a w ->
   (∀ {a' w' G2 v},St N D w0 F G0 G2 L ((d,v) :: (vM us T++full N a)) a' w'->(∀ k o,G1 k=some o->G2 k=some o)->pr i v G2->WL r P l.toArray (fun e a' w'=>e=.normal∧DX N D w0 F G0 G L T l pr (fD S i) a' w') [] a' w')->WL r P l.toArray (fun e a' w'=>e=.normal∧DX N D w0 F G0 G L T l pr (fD S i) a' w') [o] a w) :
  ∀ S a w G1,B.contains i=false->S i=false->(∀ j∈bQ.getD i [],S j=true)->(∀ k o,G k=some o->G1 k=some o)->St N D w0 F G0 G1 L T a w->(∀ i d,S i=true->dY l i=some d->∃ v,a.tmps[d]?=some v∧pr i v G1) ->
   WL r P l.toArray (fun e a' w'=>e=.normal∧DX N D w0 F G0 G L T l pr (fD S i) a' w') [o] a w:=by
 intro S a w G1 _ _ hc hG HT hv
 have H:=Mg Y9 hu hc hv HT
 exact k S a w G1 hG HT H.full fun H' hG2 hp=>aj ⟨O,jw (Xs:=vM us T) hok jf hi hdl HT H.full hG hv hG2 hp H'⟩
end
end
section
section
variable {N:Nat} {D:List Deferred} {w0:World} {F:Nat->Prop} {G0 G:GH} {L:List (Nat × Obj)} {T:List (Nat × av)}
variable {r:Option Nat} {P:Program} {ops:Array Oper} {Q:Exit->Act->World->Prop} {rest:List Oper} {w:World}
variable {d:Nat} {ty:TypeId} {pos:String} {aG:Array Edge}
theorem kH {a:Act} {l:List Oper} (H:St N D w0 F G0 G L T a w) (k:∀ a,St N D w0 F G0 G L T a w->WL r P ops Q l a w):WL r P ops Q l a w:=k a H
theorem Rm {x:Operand} {v:av} (h:(ev T x,Nat.blt d N)=(some v,true)) (k:∀ a',St N D w0 F G0 G L ((d,v) :: T) a' w->WL r P ops Q rest a' w) :
  ∀ a,St N D w0 F G0 G L T a w->WL r P ops Q (⟨some d,.move x,ty,pos,aG,none⟩ :: rest) a w:=fun _ H=>by
 simp only [fP] at h
 exact lH H wn h.1 h.2 k
theorem Ra {x:Operand} {v:av} (h:(ev T x,Nat.blt d N)=(some v,true)) (k:∀ a',St N D w0 F G0 G L ((d,v) :: T) a' w->WL r P ops Q rest a' w) :
  ∀ a,St N D w0 F G0 G L T a w->WL r P ops Q (⟨some d,.assign x,ty,pos,aG,none⟩ :: rest) a w:=fun _ H=>by
 simp only [fP] at h
 exact aaE H wn h.1 h.2 k
theorem Rc {op:BinOp} {x y:Operand} {t yt:TypeId} {kd:IntKind} {p q:Int} {b:Bool} (h:(ev T x,ev T y,Co op p q,Nat.blt d N)=(some (.int kd p),some (.int kd q),some b,true)) (k:∀ a',St N D w0 F G0 G L ((d,.bool b) :: T) a' w->WL r P ops Q rest a' w) :
  ∀ a,St N D w0 F G0 G L T a w->WL r P ops Q (⟨some d,.binOp op t x y yt,ty,pos,aG,none⟩ :: rest) a w:=fun _ H=>by
 simp only [fP] at h
 exact wS H wn h.1 h.2.1 h.2.2.1 h.2.2.2 k
theorem Rf {s:TypeId} {x:Operand} {n b o off:Nat} (hs:gQ P s n off) (h:(ev T x,Nat.blt d N)=(some (.pointer (some ⟨b,o,none⟩)),true)) (k:∀ a',St N D w0 F G0 G L ((d,.pointer (some ⟨b,o+off,none⟩)) :: T) a' w->WL r P ops Q rest a' w) :
  ∀ a,St N D w0 F G0 G L T a w->WL r P ops Q (⟨some d,.fieldAddr s x n,ty,pos,aG,none⟩ :: rest) a w:=fun _ H=>by
 simp only [fP] at h
 exact FI hs H wn h.1 h.2 k
theorem Rn {x:Operand} {t:TypeId} {b:Bool} (h:(ev T x,Nat.blt d N)=(some (.bool b),true)) (k:∀ a',St N D w0 F G0 G L ((d,.bool (!b)) :: T) a' w->WL r P ops Q rest a' w) :
  ∀ a,St N D w0 F G0 G L T a w->WL r P ops Q (⟨some d,.unOp .not t x,ty,pos,aG,none⟩ :: rest) a w:=fun _ H=>by
 simp only [fP] at h
 exact FK H wn h.1 h.2 k
theorem Rk {x:Operand} {p:Addr} (h:(ev T x,Nat.blt d N)=(some (.pointer (some p)),true)) (k:∀ a',St N D w0 F G0 G L ((d,.pointer (some p)) :: T) a' w->WL r P ops Q rest a' w) :
  ∀ a,St N D w0 F G0 G L T a w->WL r P ops Q (⟨some d,.nilCheck x,ty,pos,aG,none⟩ :: rest) a w:=fun _ H=>by
 simp only [fP] at h
 exact sU H wn h.1 h.2 k
theorem Rl {x:Operand} {t e:TypeId} {A:Option Addr} {n c:Nat} (hs:P.underlying t=some (.slice e)) (h:(ev T x,Nat.blt d N)=(some (.slice A n c),true)) (k:∀ a',St N D w0 F G0 G L ((d,.int .i64 n) :: T) a' w->WL r P ops Q rest a' w) :
  ∀ a,St N D w0 F G0 G L T a w->WL r P ops Q (⟨some d,.call { callee:=.builtin .len,args:=#[x],argTypes:=#[t] },ty,pos,aG,none⟩ :: rest) a w:=fun _ H=>by
 simp only [fP] at h
 exact wT hs H wn h.1 h.2 k
theorem Ro {t:TypeId} {sz bytes:Nat} {zero:List av} (ht:Ty P t sz bytes zero false) (i:Nat) {x:Operand} {b o:Nat} {v:av} {c:Array av} {e:TypeId} {fz:Nat × Nat} (h:(ev T x,L[i]?,Nat.blt d N,c[o]?)=(some (.pointer (some ⟨b,o,none⟩)),some (b,.cells c e fz),true,some v))
  (k:∀ a',St N D w0 F G0 G L ((d,v) :: T) a' w->WL r P ops Q rest a' w) :
  ∀ a,St N D w0 F G0 G L T a w->WL r P ops Q (⟨some d,.load t x,ty,pos,aG,none⟩ :: rest) a w:=fun _ H=>by
 simp only [fP] at h
 exact iM ht H wn h.1 (H.hp.jc i h.2.1 h.2.2.2) h.2.2.1 k
theorem gH {d':Nat} {ty':TypeId} {pos':String} {TF:Array Edge} {s:TypeId} {x:Operand} {n b o off:Nat} (hs:gQ P s n off) {t:TypeId} {sz bytes:Nat} {zero:List av} (ht:Ty P t sz bytes zero false) (i:Nat) {v:av} {c:Array av} {e:TypeId} {fz:Nat × Nat}
  (h:(ev T x,Nat.blt d N)=(some (.pointer (some ⟨b,o,none⟩)),true)) (h':(L[i]?,Nat.blt d' N,c[o+off]?)=(some (b,.cells c e fz),true,some v))
  (k:∀ a',St N D w0 F G0 G L ((d',v) :: (d,.pointer (some ⟨b,o+off,none⟩)) :: T) a' w->WL r P ops Q rest a' w) :
  ∀ a,St N D w0 F G0 G L T a w->WL r P ops Q (⟨some d,.fieldAddr s x n,ty,pos,aG,none⟩ :: ⟨some d',.load t (.tmp d),ty',pos',TF,none⟩ :: rest) a w :=
 Rf hs h (Ro ht i (by simp only [fP] at h' |-;exact ⟨qP ..,h'.1,h'.2.1,h'.2.2⟩) k)
theorem lv {a:Act} {fn:Func} {t:Nat} {v:av} {R:Ending->World->Prop} (H:St N [] w0 F G0 G L T a w) (hr:fn.results=#[.tmp t]) (h:lk T t=some v) (hR:R (.returned v) w):bodyPostM (FW none) 0 P fn R .ret a w :=
 (leave1 H (rs:=[.tmp t]) hr (.cons (aD H h) .nil) hR).1
theorem St.rt {a:Act} {R:av->GH->Prop} {v:av} (H:St N D w0 (fun k=>k < w0.heap.size) G0 G L T a w) (hR:R v G):cO w0 G0 R (.returned v) w:=H.hp.ret hR
theorem St.ro {a:Act} (H:St N D w0 F G0 G L T a w):∀ k o,G k=some o->w.heap[k]?=some o:=H.hp.ro
theorem iJ {H:GH}:∀ k o,H k=some o->H k=some o:=fun _ _ h=>h
end
theorem eN {N:Nat} {w:World} {G:GH} {P:Program} (T:List (Nat × av)) {f:FuncId} {fn:Func} {c:Code} {vs:List av} {R:Ending->World->Prop} (hf:P.funcs[f]?=some fn) (hb:fn.body=some c) (hN:fn.ntmps=N) (hle:Nat.ble vs.length N=true)
  (hT:yQ 0 vs=T) (hG:Hold G w) (h:∀ a,St N [] w (fun k=>k < w.heap.size) G G [] T a w->WP none P c (bodyPostM (FW none) 0 P fn R) a w):Calls P f vs.toArray w R :=
 enter hf hb hN hle hT hG (fun _ h=>h) (fun _ h=>by cases h) (fun _ h=>by cases h) (fun _ h=>by cases h) List.Pairwise.nil h
def Qf:List av->Nat->av->Prop
 | [],_,_=>True
 | x :: _,0,v=>v=x
 | _ :: l,i+1,v=>Qf l i v
def JV (vs:List av) (i:Nat) (v:av) (_:GH):Prop:=Qf vs i v
section
variable {N:Nat} {D:List Deferred} {w0:World} {F:Nat->Prop} {G0 G:GH} {L:OL} {T:List (Nat × av)}
variable {P:Program} {l:List Oper} {r:Option Nat}
abbrev Cb (N:Nat) (D:List Deferred) (w0:World) (F:Nat->Prop) (G0 G:GH) (L:OL) (T:List (Nat × av)) (r:Option Nat) (P:Program) (l:List Oper) (pr:Nat->av->GH->Prop) (i d:Nat) (o:Oper) (us:List (Nat × Nat × av)):Prop :=
 ∀ S a w G1,(∀ k o,G k=some o->G1 k=some o)->St N D w0 F G0 G1 L T a w->St N D w0 F G0 G1 L (vM us T++full N a) a w ->
   (∀ {a' w' G2 v},St N D w0 F G0 G2 L ((d,v) :: (vM us T++full N a)) a' w'->(∀ k o,G1 k=some o->G2 k=some o)->pr i v G2->WL r P l.toArray (fun e a' w'=>e=.normal∧DX N D w0 F G0 G L T l pr (fD S i) a' w') [] a' w')->WL r P l.toArray (fun e a' w'=>e=.normal∧DX N D w0 F G0 G L T l pr (fD S i) a' w') [o] a w
abbrev qW (N:Nat) (D:List Deferred) (w0:World) (F:Nat->Prop) (G0 G:GH) (L:OL) (T:List (Nat × av)) (r:Option Nat) (P:Program) (l:List Oper) (bQ:List (List Nat)) (B:List Nat) (pr:Nat->av->GH->Prop) (i:Nat) (o:Oper):Prop :=
 ∀ S a w G1,B.contains i=false->S i=false->(∀ j∈bQ.getD i [],S j=true)->(∀ k o,G k=some o->G1 k=some o)->St N D w0 F G0 G1 L T a w->(∀ i d,S i=true->dY l i=some d->∃ v,a.tmps[d]?=some v∧pr i v G1) ->
   WL r P l.toArray (fun e a' w'=>e=.normal∧DX N D w0 F G0 G L T l pr (fD S i) a' w') [o] a w
variable {pr:Nat->av->GH->Prop} {i d:Nat} {o:Oper} {bQ:List (List Nat)} {B:List Nat}
theorem Tt (h:(dY l i,Nat.blt i l.length)=(some d,true)) (k:Cb N D w0 F G0 G L T r P l pr i d o [])
  (hok:mo l T i=true:=by kernel_rfl) (jf:∀ i v (G G':GH),(∀ k o,G k=some o->G' k=some o)->pr i v G->pr i v G':=by exact fun _ _ _ _ _ h=>h):qW N D w0 F G0 G L T r P l bQ B pr i o:=by
 simp only [fP] at h
 exact Fv [] O trivial hok jf h.1 h.2 k
theorem Eb (j t:Nat) {x:av} (h:(dY l i,Nat.blt i l.length,[(j,t,x)].all (fun x=>(bQ.getD i []).contains x.1 && (dY l x.1 == some x.2.1)))=(some d,true,true)) (hu:pr j=fun v _=>v=x) (k:Cb N D w0 F G0 G L T r P l pr i d o [(j,t,x)])
  (hok:mo l T i=true:=by kernel_rfl) (jf:∀ i v (G G':GH),(∀ k o,G k=some o->G' k=some o)->pr i v G->pr i v G':=by exact fun _ _ _ _ _ h=>h):qW N D w0 F G0 G L T r P l bQ B pr i o:=by
 simp only [fP] at h
 exact Fv _ h.2.2 ⟨fun v G h=>by rw [hu] at h;exact h,aL⟩ hok jf h.1 h.2.1 k
theorem Me (j t j' t':Nat) {x x':av} (h:(dY l i,Nat.blt i l.length,[(j,t,x),(j',t',x')].all (fun x=>(bQ.getD i []).contains x.1 && (dY l x.1 == some x.2.1)))=(some d,true,true)) (hu:(pr j,pr j')=(fun v _=>v=x,fun v _=>v=x')) (k:Cb N D w0 F G0 G L T r P l pr i d o [(j,t,x),(j',t',x')])
  (hok:mo l T i=true:=by kernel_rfl) (jf:∀ i v (G G':GH),(∀ k o,G k=some o->G' k=some o)->pr i v G->pr i v G':=by exact fun _ _ _ _ _ h=>h):qW N D w0 F G0 G L T r P l bQ B pr i o:=by
 simp only [fP] at h hu
 exact Fv _ h.2.2 ⟨fun v G h=>by rw [hu.1] at h;exact h,fun v G h=>by rw [hu.2] at h;exact h,aL⟩ hok jf h.1 h.2.1 k
theorem Tw (j t j' t' j2 t2:Nat) {x x' x2:av} (h:(dY l i,Nat.blt i l.length,[(j,t,x),(j',t',x'),(j2,t2,x2)].all (fun x=>(bQ.getD i []).contains x.1 && (dY l x.1 == some x.2.1)))=(some d,true,true)) (hu:(pr j,pr j',pr j2)=(fun v _=>v=x,fun v _=>v=x',fun v _=>v=x2)) (k:Cb N D w0 F G0 G L T r P l pr i d o [(j,t,x),(j',t',x'),(j2,t2,x2)])
  (hok:mo l T i=true:=by kernel_rfl) (jf:∀ i v (G G':GH),(∀ k o,G k=some o->G' k=some o)->pr i v G->pr i v G':=by exact fun _ _ _ _ _ h=>h):qW N D w0 F G0 G L T r P l bQ B pr i o:=by
 simp only [fP] at h hu
 exact Fv _ h.2.2 ⟨fun v G h=>by rw [hu.1] at h;exact h,fun v G h=>by rw [hu.2.1] at h;exact h,fun v G h=>by rw [hu.2.2] at h;exact h,aL⟩ hok jf h.1 h.2.1 k
theorem gP (j:Nat) {t:Nat} {op:Op} {ty:TypeId} {pos:String} {aG:Array Edge} {want b b':Bool} (he:b'=b) (h:(dY l i,Nat.blt i l.length,dY l j,(bQ.getD i []).contains j,Nat.blt d N,b,b)=(some d,true,some t,true,true,!want,b)) (hv:pr j=fun v _=>v=.bool b')
  (hok:mo l T i=true:=by kernel_rfl) (jf:∀ i v (G G':GH),(∀ k o,G k=some o->G' k=some o)->pr i v G->pr i v G':=by exact fun _ _ _ _ _ h=>h) (hu:∀ G,pr i undef G:=by exact fun _=>rfl):qW N D w0 F G0 G L T r P l bQ B pr i ⟨some d,op,ty,pos,aG,some (j,want)⟩:=by
 simp only [fP] at h
 exact abt (b:=b) hok jf h.1 h.2.1 h.2.2.1 h.2.2.2.1 h.2.2.2.2.1 (fun v G g=>by rw [hv] at g;rw [<- he];exact g) h.2.2.2.2.2.1 hu
theorem gB {X:(Nat->Bool)->Act->World->GH->Prop} {b:Bool} (h:b=true):∀ S a w G1,b=false->X S a w G1:=fun _ _ _ _ hB=>by rw [h] at hB;cases hB
theorem aI {φ:Nat->Oper->Prop} {i:Nat} {o1 o2 o3 o4:Oper} {r:List Oper} (h1:φ i o1) (h2:φ (i+1) o2) (h3:φ (i+1+1) o3) (h4:φ (i+1+1+1) o4) (t:allI φ (i+1+1+1+1) r):allI φ i (o1 :: o2 :: o3 :: o4 :: r):=⟨h1,h2,h3,h4,t⟩
end
section
variable {N:Nat} {D:List Deferred} {w0:World} {F:Nat->Prop} {G0 G:GH} {L:List (Nat × Obj)} {T:List (Nat × av)}
variable {r:Option Nat} {P:Program} {ops:Array Oper} {Q:Exit->Act->World->Prop} {rest:List Oper} {w:World}
variable {d:Nat} {ty:TypeId} {pos:String} {aG:Array Edge} {j t:Nat} {want b:Bool}
theorem YM {x:Operand} {v:av} (hb:b=want) (h:((ops[j]?).bind (·.dst),lk T t,ev T x,Nat.blt d N)=(some t,some (.bool b),some v,true)) (k:∀ a',St N D w0 F G0 G L ((d,v) :: T) a' w->WL r P ops Q rest a' w) :
  ∀ a,St N D w0 F G0 G L T a w->WL r P ops Q (⟨some d,.move x,ty,pos,aG,some (j,want)⟩ :: rest) a w:=fun _ H=>by
 simp only [fP] at h
 exact lH H (wg H h.1 h.2.1 hb) h.2.2.1 h.2.2.2 k
theorem YN {x:Operand} {y:TypeId} {v:Bool} (hb:b=want) (h:((ops[j]?).bind (·.dst),lk T t,ev T x,Nat.blt d N)=(some t,some (.bool b),some (.bool v),true)) (k:∀ a',St N D w0 F G0 G L ((d,.bool (!v)) :: T) a' w->WL r P ops Q rest a' w) :
  ∀ a,St N D w0 F G0 G L T a w->WL r P ops Q (⟨some d,.unOp .not y x,ty,pos,aG,some (j,want)⟩ :: rest) a w:=fun _ H=>by
 simp only [fP] at h
 exact FK H (wg H h.1 h.2.1 hb) h.2.2.1 h.2.2.2 k
theorem YC {op:BinOp} {x y:Operand} {u yt:TypeId} {kd:IntKind} {p q:Int} {c:Bool} (hb:b=want) (h:((ops[j]?).bind (·.dst),lk T t,ev T x,ev T y,Co op p q,Nat.blt d N)=(some t,some (.bool b),some (.int kd p),some (.int kd q),some c,true)) (k:∀ a',St N D w0 F G0 G L ((d,.bool c) :: T) a' w->WL r P ops Q rest a' w) :
  ∀ a,St N D w0 F G0 G L T a w->WL r P ops Q (⟨some d,.binOp op u x y yt,ty,pos,aG,some (j,want)⟩ :: rest) a w:=fun _ H=>by
 simp only [fP] at h
 exact wS H (wg H h.1 h.2.1 hb) h.2.2.1 h.2.2.2.1 h.2.2.2.2.1 h.2.2.2.2.2 k
theorem YF {s:TypeId} {x:Operand} {n e o off:Nat} (hs:gQ P s n off) (hb:b=want) (h:((ops[j]?).bind (·.dst),lk T t,ev T x,Nat.blt d N)=(some t,some (.bool b),some (.pointer (some ⟨e,o,none⟩)),true)) (k:∀ a',St N D w0 F G0 G L ((d,.pointer (some ⟨e,o+off,none⟩)) :: T) a' w->WL r P ops Q rest a' w) :
  ∀ a,St N D w0 F G0 G L T a w->WL r P ops Q (⟨some d,.fieldAddr s x n,ty,pos,aG,some (j,want)⟩ :: rest) a w:=fun _ H=>by
 simp only [fP] at h
 exact FI hs H (wg H h.1 h.2.1 hb) h.2.2.1 h.2.2.2 k
theorem YO {u:TypeId} {sz bytes:Nat} {zero:List av} (ht:Ty P u sz bytes zero false) (i:Nat) {x:Operand} {e o:Nat} {v:av} {c:Array av} {y:TypeId} {fz:Nat × Nat} (hb:b=want) (h:((ops[j]?).bind (·.dst),lk T t,ev T x,L[i]?,Nat.blt d N,c[o]?)=(some t,some (.bool b),some (.pointer (some ⟨e,o,none⟩)),some (e,.cells c y fz),true,some v))
  (k:∀ a',St N D w0 F G0 G L ((d,v) :: T) a' w->WL r P ops Q rest a' w) :
  ∀ a,St N D w0 F G0 G L T a w->WL r P ops Q (⟨some d,.load u x,ty,pos,aG,some (j,want)⟩ :: rest) a w:=fun _ H=>by
 simp only [fP] at h
 exact iM ht H (wg H h.1 h.2.1 hb) h.2.2.1 (H.hp.jc i h.2.2.2.1 h.2.2.2.2.2) h.2.2.2.2.1 k
theorem YR {u:TypeId} {sz bytes:Nat} {zero:List av} (ht:Ty P u sz bytes zero false) {x:Operand} {e o:Nat} {v:av} (hb:b=want) (h:((ops[j]?).bind (·.dst),lk T t,ev T x,Nat.blt d N)=(some t,some (.bool b),some (.pointer (some ⟨e,o,none⟩)),true)) (hv:aR G e o=some v)
  (k:∀ a',St N D w0 F G0 G L ((d,v) :: T) a' w->WL r P ops Q rest a' w) :
  ∀ a,St N D w0 F G0 G L T a w->WL r P ops Q (⟨some d,.load u x,ty,pos,aG,some (j,want)⟩ :: rest) a w:=fun _ H=>by
 simp only [fP] at h
 exact iM ht H (wg H h.1 h.2.1 hb) h.2.2.1 (H.hp.aR hv) h.2.2.2 k
theorem Rg {u:TypeId} {sz bytes:Nat} {zero:List av} (ht:Ty P u sz bytes zero false) {x:Operand} {e o:Nat} {v:av} (h:(ev T x,Nat.blt d N)=(some (.pointer (some ⟨e,o,none⟩)),true)) (hv:aR G e o=some v)
  (k:∀ a',St N D w0 F G0 G L ((d,v) :: T) a' w->WL r P ops Q rest a' w) :
  ∀ a,St N D w0 F G0 G L T a w->WL r P ops Q (⟨some d,.load u x,ty,pos,aG,none⟩ :: rest) a w:=fun _ H=>by
 simp only [fP] at h
 exact iM ht H wn h.1 (H.hp.aR hv) h.2 k
theorem YL {x:Operand} {u e:TypeId} {A:Option Addr} {n c:Nat} (hs:P.underlying u=some (.slice e)) (hb:b=want) (h:((ops[j]?).bind (·.dst),lk T t,ev T x,Nat.blt d N)=(some t,some (.bool b),some (.slice A n c),true)) (k:∀ a',St N D w0 F G0 G L ((d,.int .i64 n) :: T) a' w->WL r P ops Q rest a' w) :
  ∀ a,St N D w0 F G0 G L T a w->WL r P ops Q (⟨some d,.call { callee:=.builtin .len,args:=#[x],argTypes:=#[u] },ty,pos,aG,some (j,want)⟩ :: rest) a w:=fun _ H=>by
 simp only [fP] at h
 exact wT hs H (wg H h.1 h.2.1 hb) h.2.2.1 h.2.2.2 k
theorem Ks {op:Op} (hb:b=!want) (h:((ops[j]?).bind (·.dst),lk T t,Nat.blt d N)=(some t,some (.bool b),true)) (k:∀ a',St N D w0 F G0 G L ((d,undef) :: T) a' w->WL r P ops Q rest a' w) :
  ∀ a,St N D w0 F G0 G L T a w->WL r P ops Q (⟨some d,op,ty,pos,aG,some (j,want)⟩ :: rest) a w:=fun _ H=>by
 simp only [fP] at h
 exact QH H h.1 h.2.1 hb h.2.2 k
theorem aO {d2:Nat} {o1 o2:Op} {KL:TypeId} {pos2:String} {GJ:Array Edge} (hb:b=!want) (h:((ops[j]?).bind (·.dst),lk T t,lk ((d,undef) :: T) t,Nat.blt d N,Nat.blt d2 N)=(some t,some (.bool b),some (.bool b),true,true)) (k:∀ a',St N D w0 F G0 G L ((d2,undef) :: (d,undef) :: T) a' w->WL r P ops Q rest a' w) :
  ∀ a,St N D w0 F G0 G L T a w->WL r P ops Q (⟨some d,o1,ty,pos,aG,some (j,want)⟩ :: ⟨some d2,o2,KL,pos2,GJ,some (j,want)⟩ :: rest) a w:=by
 simp only [fP] at h
 exact Ks hb (by rw [h.1,h.2.1,h.2.2.2.1]) (Ks hb (by rw [h.1,h.2.2.1,h.2.2.2.2]) k)
theorem aQ {d2 d3:Nat} {o1 o2 o3:Op} {KL ty3:TypeId} {pos2 Z9:String} {GJ TG:Array Edge} (hb:b=!want) (h:((ops[j]?).bind (·.dst),lk T t,lk ((d,undef) :: T) t,lk ((d2,undef) :: (d,undef) :: T) t,Nat.blt d N,Nat.blt d2 N,Nat.blt d3 N)=(some t,some (.bool b),some (.bool b),some (.bool b),true,true,true)) (k:∀ a',St N D w0 F G0 G L ((d3,undef) :: (d2,undef) :: (d,undef) :: T) a' w->WL r P ops Q rest a' w) :
  ∀ a,St N D w0 F G0 G L T a w->WL r P ops Q (⟨some d,o1,ty,pos,aG,some (j,want)⟩ :: ⟨some d2,o2,KL,pos2,GJ,some (j,want)⟩ :: ⟨some d3,o3,ty3,Z9,TG,some (j,want)⟩ :: rest) a w:=by
 simp only [fP] at h
 exact Ks hb (by rw [h.1,h.2.1,h.2.2.2.2.1]) (aO hb (by rw [h.1,h.2.2.1,h.2.2.2.1,h.2.2.2.2.2.1,h.2.2.2.2.2.2]) k)
theorem Ku {op:Op} (h:((ops[j]?).bind (·.dst),lk T t,Nat.blt d N)=(some t,some undef,true)) (k:∀ a',St N D w0 F G0 G L ((d,undef) :: T) a' w->WL r P ops Q rest a' w) :
  ∀ a,St N D w0 F G0 G L T a w->WL r P ops Q (⟨some d,op,ty,pos,aG,some (j,want)⟩ :: rest) a w:=fun _ H=>by
 simp only [fP] at h
 exact aaW H h.1 h.2.1 h.2.2 k
theorem Pt {c x y:Operand} {v:av} (hb:b=true) (h:(ev T c,ev T x,Nat.blt d N)=(some (.bool b),some v,true)) (k:∀ a',St N D w0 F G0 G L ((d,v) :: T) a' w->WL r P ops Q rest a' w) :
  ∀ a,St N D w0 F G0 G L T a w->WL r P ops Q (⟨some d,.pick c x y,ty,pos,aG,none⟩ :: rest) a w:=fun _ H=>by
 simp only [fP] at h
 exact QF H wn h.1 hb h.2.1 h.2.2 k
theorem Pf {c x y:Operand} {v:av} (hb:b=false) (h:(ev T c,ev T y,Nat.blt d N)=(some (.bool b),some v,true)) (k:∀ a',St N D w0 F G0 G L ((d,v) :: T) a' w->WL r P ops Q rest a' w) :
  ∀ a,St N D w0 F G0 G L T a w->WL r P ops Q (⟨some d,.pick c x y,ty,pos,aG,none⟩ :: rest) a w:=fun _ H=>by
 simp only [fP] at h
 exact QE H wn h.1 hb h.2.1 h.2.2 k
theorem PT {c x y:Operand} {v:av} {b':Bool} (hb:b=want) (hb':b'=true) (h:((ops[j]?).bind (·.dst),lk T t,ev T c,ev T x,Nat.blt d N)=(some t,some (.bool b),some (.bool b'),some v,true)) (k:∀ a',St N D w0 F G0 G L ((d,v) :: T) a' w->WL r P ops Q rest a' w) :
  ∀ a,St N D w0 F G0 G L T a w->WL r P ops Q (⟨some d,.pick c x y,ty,pos,aG,some (j,want)⟩ :: rest) a w:=fun _ H=>by
 simp only [fP] at h
 exact QF H (wg H h.1 h.2.1 hb) h.2.2.1 hb' h.2.2.2.1 h.2.2.2.2 k
theorem PF {c x y:Operand} {v:av} {b':Bool} (hb:b=want) (hb':b'=false) (h:((ops[j]?).bind (·.dst),lk T t,ev T c,ev T y,Nat.blt d N)=(some t,some (.bool b),some (.bool b'),some v,true)) (k:∀ a',St N D w0 F G0 G L ((d,v) :: T) a' w->WL r P ops Q rest a' w) :
  ∀ a,St N D w0 F G0 G L T a w->WL r P ops Q (⟨some d,.pick c x y,ty,pos,aG,some (j,want)⟩ :: rest) a w:=fun _ H=>by
 simp only [fP] at h
 exact QE H (wg H h.1 h.2.1 hb) h.2.2.1 hb' h.2.2.2.1 h.2.2.2.2 k
theorem Ri {s e:TypeId} {sz bytes:Nat} {zero:List av} {agg:Bool} (hs:P.underlying s=some (.slice e)) (ht:Ty P e sz bytes zero agg) {x y:Operand} {q o n c:Nat} {kd:IntKind} {z:Int} {i:Nat}
  (h:(ev T x,ev T y,Nat.blt d N)=(some (.slice (some ⟨q,o,none⟩) n c),some (.int kd z),true)) (hz:z=(i:Int)) (k:∀ a',St N D w0 F G0 G L ((d,.pointer (some ⟨q,o+i*sz,none⟩)) :: T) a' w->WL r P ops Q rest a' w) (hn:i < n:=by first|assumption|omega) :
  ∀ a,St N D w0 F G0 G L T a w->WL r P ops Q (⟨some d,.indexAddr s x y,ty,pos,aG,none⟩ :: rest) a w:=fun _ H=>by
 simp only [fP] at h
 exact aT hs ht i H wn h.1 h.2.1 hz hn h.2.2 k
theorem YI {s e:TypeId} {sz bytes:Nat} {zero:List av} {agg:Bool} (hs:P.underlying s=some (.slice e)) (ht:Ty P e sz bytes zero agg) {x y:Operand} {q o n c:Nat} {kd:IntKind} {z:Int} {i:Nat} (hb:b=want)
  (h:((ops[j]?).bind (·.dst),lk T t,ev T x,ev T y,Nat.blt d N)=(some t,some (.bool b),some (.slice (some ⟨q,o,none⟩) n c),some (.int kd z),true)) (hz:z=(i:Int)) (k:∀ a',St N D w0 F G0 G L ((d,.pointer (some ⟨q,o+i*sz,none⟩)) :: T) a' w->WL r P ops Q rest a' w) (hn:i < n:=by first|assumption|omega) :
  ∀ a,St N D w0 F G0 G L T a w->WL r P ops Q (⟨some d,.indexAddr s x y,ty,pos,aG,some (j,want)⟩ :: rest) a w:=fun _ H=>by
 simp only [fP] at h
 exact aT hs ht i H (wg H h.1 h.2.1 hb) h.2.2.1 h.2.2.2.1 hz hn h.2.2.2.2 k
theorem Rd {x y:Operand} {u yt:TypeId} {p q z:Int} (h:(ev T x,ev T y,p+q,Nat.blt d N)=(some (.int .i64 p),some (.int .i64 q),z,true)) (k:∀ a',St N D w0 F G0 G L ((d,.int .i64 z) :: T) a' w->WL r P ops Q rest a' w) (h1:-9223372036854775808<=z:=by omega) (h2:z < 9223372036854775808:=by omega) :
  ∀ a,St N D w0 F G0 G L T a w->WL r P ops Q (⟨some d,.binOp .add u x y yt,ty,pos,aG,none⟩ :: rest) a w:=fun _ H=>by
 simp only [fP] at h
 exact nK z H wn h.1 h.2.1 h.2.2.1 h1 h2 h.2.2.2 k
theorem Rs {x y:Operand} {u yt:TypeId} {p q z:Int} (h:(ev T x,ev T y,p - q,Nat.blt d N)=(some (.int .i64 p),some (.int .i64 q),z,true)) (k:∀ a',St N D w0 F G0 G L ((d,.int .i64 z) :: T) a' w->WL r P ops Q rest a' w) (h1:-9223372036854775808<=z:=by omega) (h2:z < 9223372036854775808:=by omega) :
  ∀ a,St N D w0 F G0 G L T a w->WL r P ops Q (⟨some d,.binOp .sub u x y yt,ty,pos,aG,none⟩ :: rest) a w:=fun _ H=>by
 simp only [fP] at h
 exact zO z H wn h.1 h.2.1 h.2.2.1 h1 h2 h.2.2.2 k
theorem Rv {x:Operand} {u:TypeId} {s:ByteArray} (hs:P.underlying u=some .string) (h:(ev T x,Nat.blt d N)=(some (.string s),true)) (k:∀ a',St N D w0 F G0 G L ((d,.int .i64 s.size) :: T) a' w->WL r P ops Q rest a' w) :
  ∀ a,St N D w0 F G0 G L T a w->WL r P ops Q (⟨some d,.call { callee:=.builtin .len,args:=#[x],argTypes:=#[u] },ty,pos,aG,none⟩ :: rest) a w:=fun _ H=>by
 simp only [fP] at h
 exact aaJ hs H wn h.1 h.2 k
theorem Kz {X:Act->World->Prop} (hK:∀ a w,X a w->WL r P ops Q [] a w) (k:∀ a,St N D w0 F G0 G L T a w->X a w):∀ a,St N D w0 F G0 G L T a w->WL r P ops Q [] a w:=fun a H=>hK a w (k a H)
theorem Kn {X:Act->World->Prop} (hK:∀ a w,X a w->Q .normal a w) (k:∀ a,St N D w0 F G0 G L T a w->X a w):∀ a,St N D w0 F G0 G L T a w->WL r P ops Q [] a w:=fun a H=>aj (hK a w (k a H))
theorem aB {X:Act->World->Prop} {x:Operand} {v:av} (hK:∀ a w,X a w->WL r P ops Q [] a w) (h:(ev T x,Nat.blt d N)=(some v,true)) (k:∀ a',St N D w0 F G0 G L ((d,v) :: T) a' w->X a' w):∀ a,St N D w0 F G0 G L T a w->WL r P ops Q [⟨some d,.assign x,ty,pos,aG,none⟩] a w:=Ra h (Kz hK k)
theorem bS {X:Act->World->Prop} {x:Operand} {v:av} (hK:∀ a w,X a w->Q .normal a w) (h:(ev T x,Nat.blt d N)=(some v,true)) (k:∀ a',St N D w0 F G0 G L ((d,v) :: T) a' w->X a' w):∀ a,St N D w0 F G0 G L T a w->WL r P ops Q [⟨some d,.assign x,ty,pos,aG,none⟩] a w:=Ra h (Kn hK k)
theorem Kc {X:Act->World->Prop} (hK:∀ a w,X a w->Q .normal a w) (k:∀ a,St N D w0 F G0 G L T a w->X a w):∀ a,St N D w0 F G0 G L T a w->WP r P .skip Q a w:=fun a H=>mh (hK a w (k a H))
theorem SR {id:Nat} {l:List Oper} {y:Code} (h:∀ K:Act->World->Prop,(∀ a w,WP r P y Q a w->WL r P l.toArray (Exit.then K Q) [] a w)->∀ a,St N D w0 F G0 G L T a w->WL r P l.toArray (Exit.then K Q) l a w):∀ a,St N D w0 F G0 G L T a w->WP r P (.seq (.region id l.toArray false) y) Q a w:=fun a H=>jL fun K hK=>h K hK a H
theorem SQ {x y:Code} (h:∀ K:Act->World->Prop,(∀ a w,WP r P y Q a w->K a w)->∀ a,St N D w0 F G0 G L T a w->WP r P x (Exit.then K Q) a w):∀ a,St N D w0 F G0 G L T a w->WP r P (.seq x y) Q a w:=fun a H=>iF fun K hK=>h K hK a H
theorem SC {id:Nat} {l:List Oper} (h:∀ a,St N D w0 F G0 G L T a w->WL r P l.toArray Q l a w):∀ a,St N D w0 F G0 G L T a w->WP r P (.region id l.toArray false) Q a w:=fun a H=>uf (h a H)
theorem SB {id:Nat} {c:Code} (h:∀ a,St N D w0 F G0 G L T a w->WP r P c (Exit.inBlock id Q) a w):∀ a,St N D w0 F G0 G L T a w->WP r P (.block id c) Q a w:=fun a H=>xO (h a H)
theorem kP {a:Act} {c:Code} (H:St N D w0 F G0 G L T a w) (k:∀ a,St N D w0 F G0 G L T a w->WP r P c Q a w):WP r P c Q a w:=k a H
theorem lr {a:Act} {fn:Func} {v:av} {R:Ending->World->Prop} (H:St N [] w0 F G0 G L T a w) (hr:fn.results=#[.tmp t]) (hQ:(lk T t,Q .ret a w)=(some v,bodyPostM (FW none) 0 P fn R .ret a w)) (hR:R (.returned v) w):WP none P .ret Q a w:=by
 simp only [fP] at hQ
 exact aV (by rw [hQ.2];exact lv H hr hQ.1 hR)
theorem dT {p:Prop} [Decidable p] (h:decide p=true):p:=tY h
theorem dF {p:Prop} [Decidable p] (h:decide p=false):¬p:=of_decide_eq_false h
end
section
variable {N:Nat} {D:List Deferred} {w0:World} {F:Nat->Prop} {G0 G:GH} {L:OL} {T:List (Nat × av)}
variable {P:Program} {l:List Oper} {r:Option Nat} {pr:Nat->av->GH->Prop} {i d:Nat} {o:Oper} {bQ:List (List Nat)} {B:List Nat} {v:av}
abbrev uV (N:Nat) (D:List Deferred) (w0:World) (F:Nat->Prop) (G0 G:GH) (L:OL) (T:List (Nat × av)) (r:Option Nat) (P:Program) (l:List Oper) (d:Nat) (v:av) (o:Oper) (us:List (Nat × Nat × av)):Prop :=
 ∀ {Q:Exit->Act->World->Prop} {a:Act} {w:World} {G1:GH} (_:∀ k o,G k=some o->G1 k=some o),(∀ a',St N D w0 F G0 G1 L ((d,v) :: (vM us T++full N a)) a' w->WL r P l.toArray Q [] a' w)->∀ a',St N D w0 F G0 G1 L (vM us T++full N a) a' w->WL r P l.toArray Q [o] a' w
abbrev Gw (N:Nat) (D:List Deferred) (w0:World) (F:Nat->Prop) (G0 G:GH) (L:OL) (T:List (Nat × av)) (r:Option Nat) (P:Program) (l:List Oper) (d:Nat) (v:av) (o:Oper) (us:List (Nat × Nat × av)):Prop :=
 ∀ {Q:Exit->Act->World->Prop} {a:Act} {w:World} {G1:GH},(∀ a',St N D w0 F G0 G1 L ((d,v) :: (vM us T++full N a)) a' w->WL r P l.toArray Q [] a' w)->∀ a',St N D w0 F G0 G1 L (vM us T++full N a) a' w->WL r P l.toArray Q [o] a' w
theorem uV.k {us:List (Nat × Nat × av)} (hv:pr i=fun u _=>u=v) (k:uV N D w0 F G0 G L T r P l d v o us):Cb N D w0 F G0 G L T r P l pr i d o us :=
 fun _ a w G1 hG _ H fin=>k hG (fun _ H=>fin H (fun _ _ h=>h) (by rw [hv])) a H
theorem X0 (h:(dY l i,Nat.blt i l.length,pr i)=(some d,true,fun u _=>u=v)) (k:uV N D w0 F G0 G L T r P l d v o [])
  (hok:mo l T i=true:=by kernel_rfl) (jf:∀ i v (G G':GH),(∀ k o,G k=some o->G' k=some o)->pr i v G->pr i v G':=by exact fun _ _ _ _ _ h=>h):qW N D w0 F G0 G L T r P l bQ B pr i o:=by
 simp only [fP] at h
 exact Tt (by rw [h.1,h.2.1]) (uV.k h.2.2 k) hok jf
theorem X1 (j t:Nat) {x:av} (h:(dY l i,Nat.blt i l.length,pr j,pr i,[(j,t,x)].all (fun x=>(bQ.getD i []).contains x.1 && (dY l x.1 == some x.2.1)))=(some d,true,fun v _=>v=x,fun u _=>u=v,true)) (k:uV N D w0 F G0 G L T r P l d v o [(j,t,x)])
  (hok:mo l T i=true:=by kernel_rfl) (jf:∀ i v (G G':GH),(∀ k o,G k=some o->G' k=some o)->pr i v G->pr i v G':=by exact fun _ _ _ _ _ h=>h):qW N D w0 F G0 G L T r P l bQ B pr i o:=by
 simp only [fP] at h
 exact Eb j t (by rw [h.1,h.2.1,h.2.2.2.2]) h.2.2.1 (uV.k h.2.2.2.1 k) hok jf
theorem X2 (j t j' t':Nat) {x x':av} (h:(dY l i,Nat.blt i l.length,pr j,pr j',pr i,[(j,t,x),(j',t',x')].all (fun x=>(bQ.getD i []).contains x.1 && (dY l x.1 == some x.2.1)))=(some d,true,fun v _=>v=x,fun v _=>v=x',fun u _=>u=v,true)) (k:uV N D w0 F G0 G L T r P l d v o [(j,t,x),(j',t',x')])
  (hok:mo l T i=true:=by kernel_rfl) (jf:∀ i v (G G':GH),(∀ k o,G k=some o->G' k=some o)->pr i v G->pr i v G':=by exact fun _ _ _ _ _ h=>h):qW N D w0 F G0 G L T r P l bQ B pr i o:=by
 simp only [fP] at h
 exact Me j t j' t' (by rw [h.1,h.2.1,h.2.2.2.2.2]) (by rw [h.2.2.1,h.2.2.2.1]) (uV.k h.2.2.2.2.1 k) hok jf
theorem X3 (j t j' t' j2 t2:Nat) {x x' x2:av} (h:(dY l i,Nat.blt i l.length,pr j,pr j',pr j2,pr i,[(j,t,x),(j',t',x'),(j2,t2,x2)].all (fun x=>(bQ.getD i []).contains x.1 && (dY l x.1 == some x.2.1)))=(some d,true,fun v _=>v=x,fun v _=>v=x',fun v _=>v=x2,fun u _=>u=v,true)) (k:uV N D w0 F G0 G L T r P l d v o [(j,t,x),(j',t',x'),(j2,t2,x2)])
  (hok:mo l T i=true:=by kernel_rfl) (jf:∀ i v (G G':GH),(∀ k o,G k=some o->G' k=some o)->pr i v G->pr i v G':=by exact fun _ _ _ _ _ h=>h):qW N D w0 F G0 G L T r P l bQ B pr i o:=by
 simp only [fP] at h
 exact Tw j t j' t' j2 t2 (by rw [h.1,h.2.1,h.2.2.2.2.2.2]) (by rw [h.2.2.1,h.2.2.2.1,h.2.2.2.2.1]) (uV.k h.2.2.2.2.2.1 k) hok jf
theorem Z0 (h:(dY l i,Nat.blt i l.length,pr i)=(some d,true,fun u _=>u=v)) (k:Gw N D w0 F G0 G L T r P l d v o [])
  (hok:mo l T i=true:=by kernel_rfl) (jf:∀ i v (G G':GH),(∀ k o,G k=some o->G' k=some o)->pr i v G->pr i v G':=by exact fun _ _ _ _ _ h=>h):qW N D w0 F G0 G L T r P l bQ B pr i o:=X0 h (fun _=>k) hok jf
theorem Z1 (j t:Nat) {x:av} (h:(dY l i,Nat.blt i l.length,pr j,pr i,[(j,t,x)].all (fun x=>(bQ.getD i []).contains x.1 && (dY l x.1 == some x.2.1)))=(some d,true,fun v _=>v=x,fun u _=>u=v,true)) (k:Gw N D w0 F G0 G L T r P l d v o [(j,t,x)])
  (hok:mo l T i=true:=by kernel_rfl) (jf:∀ i v (G G':GH),(∀ k o,G k=some o->G' k=some o)->pr i v G->pr i v G':=by exact fun _ _ _ _ _ h=>h):qW N D w0 F G0 G L T r P l bQ B pr i o:=X1 j t h (fun _=>k) hok jf
theorem Z2 (j t j' t':Nat) {x x':av} (h:(dY l i,Nat.blt i l.length,pr j,pr j',pr i,[(j,t,x),(j',t',x')].all (fun x=>(bQ.getD i []).contains x.1 && (dY l x.1 == some x.2.1)))=(some d,true,fun v _=>v=x,fun v _=>v=x',fun u _=>u=v,true)) (k:Gw N D w0 F G0 G L T r P l d v o [(j,t,x),(j',t',x')])
  (hok:mo l T i=true:=by kernel_rfl) (jf:∀ i v (G G':GH),(∀ k o,G k=some o->G' k=some o)->pr i v G->pr i v G':=by exact fun _ _ _ _ _ h=>h):qW N D w0 F G0 G L T r P l bQ B pr i o:=X2 j t j' t' h (fun _=>k) hok jf
theorem St.ak {a:Act} {w:World} {p:av->Prop} (H:St N D w0 F G0 G L T a w) (h:∃ u,a.tmps[d]?=some u∧p u) (he:p=fun u=>u=v):St N D w0 F G0 G L ((d,v) :: T) a w:=by
 subst he
 obtain ⟨u,h1,h2⟩:=h
 exact H.eT (h2 ▸ h1)
theorem dI {a:Act} {w:World} {Q:Exit->Act->World->Prop} {id:Nat} (hm:P.follows .mixedOrders=true) (bQ:List (List Nat)) (B:List Nat) (hk:(vC l bQ && vN l bQ B)=true) (vs:List av) (H:St N D w0 F G0 G L T a w)
  (hstep:allI (fun i o=>qW N D w0 F G0 G L T r P l bQ B (JV vs) i o) 0 l)
  (hend:∀ a w G1,(∀ k o,G k=some o->G1 k=some o)->St N D w0 F G0 G1 L T a w->(∀ i d,B.contains i=false->dY l i=some d->∃ v,a.tmps[d]?=some v∧JV vs i v G1)->WL r P l.toArray (fun e a w=>e=.normal∧Q .normal a w) (nI l B) a w):WP r P (.region id l.toArray true) Q a w:=by
 rw [gT] at hk
 exact Ck hm bQ B hk.1 hk.2 (JV vs) (fun _ _ _ _ _ h=>h) H hstep hend
variable {w:World} {ops:Array Oper} {Q:Exit->Act->World->Prop} {b:Bool} {t:Nat} {x:Operand} {c1 c2:Code}
theorem Cd (h:ev T x=some (.bool b)) (k1:b=true->∀ a,St N D w0 F G0 G L T a w->WP r P c1 Q a w) (k2:b=false->∀ a,St N D w0 F G0 G L T a w->WP r P c2 Q a w):∀ a,St N D w0 F G0 G L T a w->WP r P (.cond x c1 c2) Q a w:=fun a H=>vk H h (fun h=>k1 h a H) (fun h=>k2 h a H)
theorem Ct (h:ev T x=some (.bool b)) (hb:b=true) (k:∀ a,St N D w0 F G0 G L T a w->WP r P c1 Q a w):∀ a,St N D w0 F G0 G L T a w->WP r P (.cond x c1 c2) Q a w:=fun a H=>Cj H h hb (k a H)
theorem Cf (h:ev T x=some (.bool b)) (hb:b=false) (k:∀ a,St N D w0 F G0 G L T a w->WP r P c2 Q a w):∀ a,St N D w0 F G0 G L T a w->WP r P (.cond x c1 c2) Q a w:=fun a H=>sH H h hb (k a H)
theorem Sp {X:Act->Prop} (t:Nat) (h:lk T t=some (.bool b)) (k1:b=true->∀ a,St N D w0 F G0 G L T a w->X a) (k2:b=false->∀ a,St N D w0 F G0 G L T a w->X a):∀ a,St N D w0 F G0 G L T a w->X a:=fun a H=>abb H t h (fun h=>k1 h a H) (fun h=>k2 h a H)
class Ec (b:Bool) (p q:outParam Prop):Prop where
 t:b=true->p
 f:b=false->q
instance {p:Prop} [Decidable p]:Ec (decide p) p (¬p):=⟨tY,of_decide_eq_false⟩
instance (priority:=1):Ec b (b=true) (b=false):=⟨id,id⟩
theorem CE {p q:Prop} (h:ev T x=some (.bool b)) [o:Ec b p q] (k1:b=true->p->∀ a,St N D w0 F G0 G L T a w->WP r P c1 Q a w) (k2:b=false->q->∀ a,St N D w0 F G0 G L T a w->WP r P c2 Q a w):∀ a,St N D w0 F G0 G L T a w->WP r P (.cond x c1 c2) Q a w:=Cd h (fun h=>k1 h (o.t h)) (fun h=>k2 h (o.f h))
theorem SE {p q:Prop} {X:Act->Prop} (t:Nat) (h:lk T t=some (.bool b)) [o:Ec b p q] (k1:b=true->p->∀ a,St N D w0 F G0 G L T a w->X a) (k2:b=false->q->∀ a,St N D w0 F G0 G L T a w->X a):∀ a,St N D w0 F G0 G L T a w->X a:=Sp t h (fun h=>k1 h (o.t h)) (fun h=>k2 h (o.f h))
theorem LR {fn:Func} {R:Ending->World->Prop} (hr:fn.results=#[.tmp t]) (hQ:(lk T t,Q .ret)=(some v,fun a w=>bodyPostM (FW none) 0 P fn R .ret a w)) (hR:∀ {a},St N [] w0 F G0 G L T a w->R (.returned v) w):∀ a,St N [] w0 F G0 G L T a w->WP none P .ret Q a w:=fun a H=>by
 simp only [fP] at hQ
 exact lr H hr (by rw [hQ.1,hQ.2]) (hR H)
end
def ra:Nat->Nat->List Nat
 | _,0=>[]
 | a,n+1=>a :: ra (a+1) n
theorem lca {α:Type} (a:α) (l m:List α):a :: l++m=a :: (l++m):=rfl
theorem dB {α:Type} (l:List α):[]++l=l:=rfl
theorem dz {p:Prop} [Decidable p] (h:p):decide p=true:=decide_eq_true h
theorem fu {p:Prop} [Decidable p] (h:¬p):decide p=false:=decide_eq_false h
abbrev Ea (pr:Nat->av->GH->Prop):Prop:=∀ i v (G G':GH),(∀ k o,G k=some o->G' k=some o)->pr i v G->pr i v G'
theorem bg {N:Nat} {D:List Deferred} {w0 w:World} {F:Nat->Prop} {G0:GH} {a:Act} {ι:Type} {Tc:List (Nat × av)} {Lc:List (Nat × Obj)} {Tv:ι->List (Nat × av)} {Lv:ι->List (Nat × Obj)} {Gv:ι->GH} {Pr:ι->Prop} {m:ι->Nat} {i:ι} (i':ι)
  (H:St N D w0 F G0 (Gv i') (Lc++Lv i') (Tv i'++Tc) a w) (hP:Pr i') (hm:m i' < m i:=by first|omega|(dsimp only;omega)) :
  ∃ i',(St N D w0 F G0 (Gv i') (Lc++Lv i') (Tv i'++Tc) a w∧Pr i')∧m i' < m i:=⟨i',⟨H,hP⟩,hm⟩
theorem Ke (x:av):∀ (vs c:List av) (o:Nat),setRow (x :: c) (o+1) vs=x :: setRow c o vs
 | [],_,_=>rfl
 | v :: vs,c,o=>by simp only [setRow,List.set_cons_succ];exact Ke x vs _ _
class zY (c:List av) (o:Nat) (vs:List av) (c':outParam (List av)):Prop where
 h:setRow c o vs=c'
class Gn (a:Nat) (b:outParam Nat):Prop where
 h:a=b
instance {a:Nat}:Gn a a:=⟨O⟩
instance {c:List av} {o:Nat}:zY c o [] c:=⟨O⟩
instance {x:av} {c c' vs:List av} {o o':Nat} [e:Gn o (o'+1)] [q:zY c o' vs c']:zY (x :: c) o vs (x :: c'):=⟨by rw [e.h,Ke,q.h]⟩
instance {x v:av} {c c' vs:List av} {o:Nat} [e:Gn o 0] [q:zY c 0 vs c']:zY (x :: c) o (v :: vs) (v :: c'):=⟨by rw [e.h];simp only [setRow,List.set_cons_zero];rw [Ke,q.h]⟩
class qD (L:List (Nat × Obj)) (i:Nat) (x:Nat × Obj) (L':outParam (List (Nat × Obj))):Prop where
 h:L.set i x=L'
instance {y x:Nat × Obj} {L:List (Nat × Obj)}:qD (y :: L) 0 x (x :: L):=⟨O⟩
instance {y x:Nat × Obj} {L L':List (Nat × Obj)} {i:Nat} [q:qD L i x L']:qD (y :: L) (i+1) x (y :: L'):=⟨by rw [List.set_cons_succ,q.h]⟩
instance {y x:Nat × Obj} {A B:List (Nat × Obj)}:qD ((y :: A).append B) 0 x (x :: A.append B):=⟨O⟩
instance {y x:Nat × Obj} {A B L':List (Nat × Obj)} {i:Nat} [q:qD (A.append B) i x L']:qD ((y :: A).append B) (i+1) x (y :: L'):=⟨by rw [<- q.h];rfl⟩
instance {x:Nat × Obj} {B L':List (Nat × Obj)} {i:Nat} [q:qD B i x L']:qD (List.append [] B) i x L':=⟨q.h⟩
instance {y x:Nat × Obj} {A B:List (Nat × Obj)}:qD ((y :: A)++B) 0 x (x :: (A++B)):=⟨O⟩
instance {y x:Nat × Obj} {A B L':List (Nat × Obj)} {i:Nat} [q:qD (A++B) i x L']:qD ((y :: A)++B) (i+1) x (y :: L'):=⟨by rw [<- q.h];rfl⟩
instance {x:Nat × Obj} {B L':List (Nat × Obj)} {i:Nat} [q:qD B i x L']:qD ([]++B) i x L':=⟨q.h⟩
theorem aX {c:Prop} {h:Decidable c} (hc:¬c:=by omega) {α:Sort _} {t e:α}:(if c then t else e)=e:=aJ hc
theorem dJ {c:Prop} {h:Decidable c} (hc:c:=by omega) {α:Sort _} {t e:α}:(if c then t else e)=t:=aM hc
theorem cu {P:Program} {f:FuncId} {fn:Func} {c:Code} (hf:P.funcs[f]?=some fn) (hb:fn.body=some c) (hn:(fn.name == "runtime.NumGoroutine")=false:=by kernel_rfl):∀ (args:Array av) (w:World),(callFunc f args).run P w=.ok (.enter f args) w:=enters hf hb hn
section
variable {N:Nat} {D:List Deferred} {w0:World} {F:Nat->Prop} {G0 G:GH} {L:List (Nat × Obj)} {T:List (Nat × av)} {r:Option Nat} {P:Program} {ops:Array Oper} {Q:Exit->Act->World->Prop} {rest:List Oper} {a:Act} {w:World} {ty:TypeId} {pos:String} {aG:Array Edge} {g:Option (Nat × Bool)}
theorem eO {t:TypeId} {sz bytes:Nat} {zero:List av} {agg:Bool} (ht:Ty P t sz bytes zero agg) {x y:Operand} (i:Nat) {b o:Nat} {c:List av} {e:TypeId} {v:av} {vs:List av} {c':List av} {L':List (Nat × Obj)} (H:St N D w0 F G0 G L T a w) (hw:Region.wanted ⟨none,.store t x y,ty,pos,aG,g⟩ (yielded ops a.tmps)=true)
  (h:(ev T x,L[i]?,ev T y,v.cells,Nat.beq vs.length sz,vs.all oneCell',Nat.ble (o+vs.length) c.length)=(some (.pointer (some ⟨b,o,none⟩)),some (b,.cells c.toArray e (0,0)),some v,vs.toArray,true,true,true))
  [q1:zY c o vs c'] [q2:qD L i (b,.cells c'.toArray e (0,0)) L']
  (k:∀ w',St N D w0 F G0 G L' T a w'->WL r P ops Q rest a w'):WL r P ops Q (⟨none,.store t x y,ty,pos,aG,g⟩ :: rest) a w:=by
 simp only [fP] at h
 obtain ⟨hx,hi,hy,hvs,hl,h1,hle⟩:=h
 refine pz ht i _ H hw hx hi hy hvs hl h1 hle q1.h (fun w' H=>k w' ?_)
 rw [q2.h] at H;exact H
end
section
variable {N:Nat} {D:List Deferred} {w0:World} {F:Nat->Prop} {G0 G G1:GH} {L:OL} {T Xs:List (Nat × av)} {l:List Oper} {a a':Act} {w w':World}
theorem ay {pr:Nat->av->GH->Prop} {S:Nat->Bool} {i d:Nat} {v:av} (HT:St N D w0 F G0 G1 L T a w) (Hb:St N D w0 F G0 G1 L (Xs++full N a) a w) (hG:∀ k o,G k=some o->G1 k=some o) (hv:∀ i d,S i=true->dY l i=some d->∃ v,a.tmps[d]?=some v∧pr i v G1)
  (jf:∀ i v (G G':GH),(∀ k o,G k=some o->G' k=some o)->pr i v G->pr i v G') (H:St N D w0 F G0 G1 L ((d,v) :: (Xs++full N a)) a' w') (hp:pr i v G1)
  (hok:mo l T i=true:=by kernel_rfl) (hi:dY l i=some d:=by exact rfl) (hdl:Nat.blt i l.length=true:=by exact rfl):DX N D w0 F G0 G L T l pr (fD S i) a' w' :=
 jw hok jf hi hdl HT Hb hG hv (fun _ _ h=>h) hp H
end
end
theorem wW:prog.underlying 3=some (.int .i64):=by kernel_rfl
theorem KX:prog.underlying 5=some (.int .u8):=by kernel_rfl
theorem jA:prog.underlying 9=some .string:=by kernel_rfl
theorem VH:bX 59:=cu func59 O
theorem NK:bX 46:=cu func46 O
theorem Vq:bX 36:=cu func36 O
theorem Cw:bX 22:=cu func22 O
def dL (b:Int):Int × Int × Int :=
  (if b=224 then 160 else if b=240 then 144 else 128,if b=237 then 159 else if b=244 then 143 else 191,
   if b < 128 then 1 else if b < 194∨244 < b then 0 else if b < 224 then 2 else if b < 240 then 3 else 4)
theorem Ky (b:Int):0<=(dL b).2.2∧(dL b).2.2<=4:=by
 simp only [dL];split
 ·omega
 split
 ·omega
 split
 ·omega
 split <;> omega
theorem abS (G:GH) (w0:World) (hG:Hold G w0) (b:Int) :
  Calls prog 59 #[.int .u8 b] w0 (cO w0 G fun v G'=>v=.tuple #[.int .u8 (dL b).1,.int .u8 (dL b).2.1,.int .i64 (dL b).2.2]∧G=G'):=by
 refine eN [(0,_)] func59 O ntmps59 O O hG ?_;intro a H;refine kP H (SR fun _ K1=>Ra O (Ra O (aB K1 O (SR fun _ K2=>Ra O (aB K2 O (SQ fun _ K3=>SB (SR fun _ K4=>Rm O (Rc O (aB K4 O (Cd O ?_ ?_)))))))))) <;> clear H K1 K2 K4
 ·intro h5 a H
  try have p5:=dT h5
  refine kP H (SC (bS K3 O (SQ fun _ K5=>SR fun _ K6=>Rm O (Kz K6 (SB (SR fun _ K7=>Rc O (aB K7 O (Cd O ?_ ?_)))))))) <;> clear H K3 K6 K7
  ·intro h22 a H
   try have mR:=dT h22
   refine kP H (SC (bS K5 O (SR fun _ K8=>Rm O (Rm O (Rm O (Ra O (Ra O (aB K8 O ?_))))))));clear H K5 K8;intro a H;refine aV ?_;refine (aY H results59 (.cons (aD H O) (.cons (aD H O) (.cons (aD H O) .nil))) ?_).1
   first|(exfalso;omega)|exact H.rt ⟨by simp only [dL];repeat (first|rw [dJ]|rw [aX]),O⟩
  intro h22 a H
  try have mR:=dF h22
  refine kP H (SR fun _ K9=>Rc O (aB K9 O (Cd O ?_ ?_))) <;> clear H K9
  ·intro aN a H
   try have fK:=dT aN
   refine kP H (SC (bS K5 O (SR fun _ aP=>Rm O (Rm O (Rm O (Ra O (Ra O (aB aP O ?_))))))));clear H K5 aP;intro a H;refine aV ?_;refine (aY H results59 (.cons (aD H O) (.cons (aD H O) (.cons (aD H O) .nil))) ?_).1
   first|(exfalso;omega)|exact H.rt ⟨by simp only [dL];repeat (first|rw [dJ]|rw [aX]),O⟩
  intro aN a H
  try have fK:=dF aN
  refine kP H (SR fun _ bH=>Rc O (aB bH O (Cd O ?_ ?_))) <;> clear H bH
  ·intro gN a H
   try have p26:=dT gN
   refine kP H (SC (bS K5 O (SR fun _ bL=>Rm O (Rm O (Rm O (Ra O (Ra O (aB bL O ?_))))))));clear H K5 bL;intro a H;refine aV ?_;refine (aY H results59 (.cons (aD H O) (.cons (aD H O) (.cons (aD H O) .nil))) ?_).1
   first|(exfalso;omega)|exact H.rt ⟨by simp only [dL];repeat (first|rw [dJ]|rw [aX]),O⟩
  intro gN a H
  try have p26:=dF gN
  refine kP H (SR fun _ bI=>Rc O (aB bI O (Cd O ?_ ?_))) <;> clear H bI
  ·intro fU a H
   try have p28:=dT fU
   refine kP H (SC (bS K5 O (SR fun _ cB=>Rm O (Rm O (Rm O (Ra O (Ra O (aB cB O ?_))))))));clear H K5 cB;intro a H;refine aV ?_;refine (aY H results59 (.cons (aD H O) (.cons (aD H O) (.cons (aD H O) .nil))) ?_).1
   first|(exfalso;omega)|exact H.rt ⟨by simp only [dL];repeat (first|rw [dJ]|rw [aX]),O⟩
  intro fU a H
  try have p28:=dF fU
  refine kP H (Kc K5 (SR fun _ dw=>Rm O (Rm O (Rm O (Ra O (Ra O (aB dw O ?_)))))));clear H K5 dw;intro a H;refine aV ?_;refine (aY H results59 (.cons (aD H O) (.cons (aD H O) (.cons (aD H O) .nil))) ?_).1
  first|(exfalso;omega)|exact H.rt ⟨by simp only [dL];repeat (first|rw [dJ]|rw [aX]),O⟩
 intro h5 a H
 try have p5:=dF h5
 refine kP H (SR fun _ dN=>Rm O (Rc O (Rm O (Sp 11 O ?_ ?_)))) <;> clear H
 ·intro h11 a H
  try have rR:=dT h11
  refine kH H (aO h11 O (Pt h11 O (aB dN O (Ct O O (SC (bS K3 O (SQ fun _ eP=>SR fun _ fM=>Rm O (Kz fM (SB (SR fun _ fO=>Rc O (aB fO O (Cd O ?_ ?_)))))))))))) <;> clear H dN K3 fM fO
  ·intro h22 a H
   try have mR:=dT h22
   refine kP H (SC (bS eP O (SR fun _ ig=>Rm O (Rm O (Rm O (Ra O (Ra O (aB ig O ?_))))))));clear H eP ig;intro a H;refine aV ?_;refine (aY H results59 (.cons (aD H O) (.cons (aD H O) (.cons (aD H O) .nil))) ?_).1
   first|(exfalso;omega)|exact H.rt ⟨by simp only [dL];repeat (first|rw [dJ]|rw [aX]),O⟩
  intro h22 a H
  try have mR:=dF h22
  refine kP H (SR fun _ iq=>Rc O (aB iq O (Cd O ?_ ?_))) <;> clear H iq
  ·intro aN a H
   try have fK:=dT aN
   refine kP H (SC (bS eP O (SR fun _ gM=>Rm O (Rm O (Rm O (Ra O (Ra O (aB gM O ?_))))))));clear H eP gM;intro a H;refine aV ?_;refine (aY H results59 (.cons (aD H O) (.cons (aD H O) (.cons (aD H O) .nil))) ?_).1
   first|(exfalso;omega)|exact H.rt ⟨by simp only [dL];repeat (first|rw [dJ]|rw [aX]),O⟩
  intro aN a H
  try have fK:=dF aN
  refine kP H (SR fun _ jC=>Rc O (aB jC O (Cd O ?_ ?_))) <;> clear H jC
  ·intro gN a H
   try have p26:=dT gN
   refine kP H (SC (bS eP O (SR fun _ iw=>Rm O (Rm O (Rm O (Ra O (Ra O (aB iw O ?_))))))));clear H eP iw;intro a H;refine aV ?_;refine (aY H results59 (.cons (aD H O) (.cons (aD H O) (.cons (aD H O) .nil))) ?_).1
   first|(exfalso;omega)|exact H.rt ⟨by simp only [dL];repeat (first|rw [dJ]|rw [aX]),O⟩
  intro gN a H
  try have p26:=dF gN
  refine kP H (SR fun _ lu=>Rc O (aB lu O (Cd O ?_ ?_))) <;> clear H lu
  ·intro fU a H
   try have p28:=dT fU
   refine kP H (SC (bS eP O (SR fun _ lX=>Rm O (Rm O (Rm O (Ra O (Ra O (aB lX O ?_))))))));clear H eP lX;intro a H;refine aV ?_;refine (aY H results59 (.cons (aD H O) (.cons (aD H O) (.cons (aD H O) .nil))) ?_).1
   first|(exfalso;omega)|exact H.rt ⟨by simp only [dL];repeat (first|rw [dJ]|rw [aX]),O⟩
  intro fU a H
  try have p28:=dF fU
  refine kP H (Kc eP (SR fun _ nN=>Rm O (Rm O (Rm O (Ra O (Ra O (aB nN O ?_)))))));clear H eP nN;intro a H;refine aV ?_;refine (aY H results59 (.cons (aD H O) (.cons (aD H O) (.cons (aD H O) .nil))) ?_).1
  first|(exfalso;omega)|exact H.rt ⟨by simp only [dL];repeat (first|rw [dJ]|rw [aX]),O⟩
 intro h11 a H
 try have rR:=dF h11
 refine kH H (YM h11 O (YC h11 O (Pf h11 O (aB dN O (Cd O ?_ ?_))))) <;> clear H dN
 ·intro h8 a H
  try have p8:=dT h8
  refine kP H (SC (bS K3 O (SQ fun _ ji=>SR fun _ mW=>Rm O (Kz mW (SB (SR fun _ mX=>Rc O (aB mX O (Cd O ?_ ?_)))))))) <;> clear H K3 mW mX
  ·intro h22 a H
   try have mR:=dT h22
   refine kP H (SC (bS ji O (SR fun _ lY=>Rm O (Rm O (Rm O (Ra O (Ra O (aB lY O ?_))))))));clear H ji lY;intro a H;refine aV ?_;refine (aY H results59 (.cons (aD H O) (.cons (aD H O) (.cons (aD H O) .nil))) ?_).1
   first|(exfalso;omega)|exact H.rt ⟨by simp only [dL];repeat (first|rw [dJ]|rw [aX]),O⟩
  intro h22 a H
  try have mR:=dF h22
  refine kP H (SR fun _ nO=>Rc O (aB nO O (Cd O ?_ ?_))) <;> clear H nO
  ·intro aN a H
   try have fK:=dT aN
   refine kP H (SC (bS ji O (SR fun _ nP=>Rm O (Rm O (Rm O (Ra O (Ra O (aB nP O ?_))))))));clear H ji nP;intro a H;refine aV ?_;refine (aY H results59 (.cons (aD H O) (.cons (aD H O) (.cons (aD H O) .nil))) ?_).1
   first|(exfalso;omega)|exact H.rt ⟨by simp only [dL];repeat (first|rw [dJ]|rw [aX]),O⟩
  intro aN a H
  try have fK:=dF aN
  refine kP H (SR fun _ lJ=>Rc O (aB lJ O (Cd O ?_ ?_))) <;> clear H lJ
  ·intro gN a H
   try have p26:=dT gN
   refine kP H (SC (bS ji O (SR fun _ ko=>Rm O (Rm O (Rm O (Ra O (Ra O (aB ko O ?_))))))));clear H ji ko;intro a H;refine aV ?_;refine (aY H results59 (.cons (aD H O) (.cons (aD H O) (.cons (aD H O) .nil))) ?_).1
   first|(exfalso;omega)|exact H.rt ⟨by simp only [dL];repeat (first|rw [dJ]|rw [aX]),O⟩
  intro gN a H
  try have p26:=dF gN
  refine kP H (SR fun _ oH=>Rc O (aB oH O (Cd O ?_ ?_))) <;> clear H oH
  ·intro fU a H
   try have p28:=dT fU
   refine kP H (SC (bS ji O (SR fun _ oI=>Rm O (Rm O (Rm O (Ra O (Ra O (aB oI O ?_))))))));clear H ji oI;intro a H;refine aV ?_;refine (aY H results59 (.cons (aD H O) (.cons (aD H O) (.cons (aD H O) .nil))) ?_).1
   first|(exfalso;omega)|exact H.rt ⟨by simp only [dL];repeat (first|rw [dJ]|rw [aX]),O⟩
  intro fU a H
  try have p28:=dF fU
  refine kP H (Kc ji (SR fun _ qB=>Rm O (Rm O (Rm O (Ra O (Ra O (aB qB O ?_)))))));clear H ji qB;intro a H;refine aV ?_;refine (aY H results59 (.cons (aD H O) (.cons (aD H O) (.cons (aD H O) .nil))) ?_).1
  first|(exfalso;omega)|exact H.rt ⟨by simp only [dL];repeat (first|rw [dJ]|rw [aX]),O⟩
 intro h8 a H
 try have p8:=dF h8
 refine kP H (SR fun _ lK=>Rm O (Rc O (aB lK O (Cd O ?_ ?_)))) <;> clear H lK
 ·intro jX a H
  try have qo:=dT jX
  refine kP H (SC (bS K3 O (SQ fun _ lM=>SR fun _ pK=>Rm O (Kz pK (SB (SR fun _ tJ=>Rc O (aB tJ O (Cd O ?_ ?_)))))))) <;> clear H K3 pK tJ
  ·intro h22 a H
   try have mR:=dT h22
   refine kP H (SC (bS lM O (SR fun _ pO=>Rm O (Rm O (Rm O (Ra O (Ra O (aB pO O ?_))))))));clear H lM pO;intro a H;refine aV ?_;refine (aY H results59 (.cons (aD H O) (.cons (aD H O) (.cons (aD H O) .nil))) ?_).1
   first|(exfalso;omega)|exact H.rt ⟨by simp only [dL];repeat (first|rw [dJ]|rw [aX]),O⟩
  intro h22 a H
  try have mR:=dF h22
  refine kP H (SR fun _ tK=>Rc O (aB tK O (Cd O ?_ ?_))) <;> clear H tK
  ·intro aN a H
   try have fK:=dT aN
   refine kP H (SC (bS lM O (SR fun _ tL=>Rm O (Rm O (Rm O (Ra O (Ra O (aB tL O ?_))))))));clear H lM tL;intro a H;refine aV ?_;refine (aY H results59 (.cons (aD H O) (.cons (aD H O) (.cons (aD H O) .nil))) ?_).1
   first|(exfalso;omega)|exact H.rt ⟨by simp only [dL];repeat (first|rw [dJ]|rw [aX]),O⟩
  intro aN a H
  try have fK:=dF aN
  refine kP H (SR fun _ xw=>Rc O (aB xw O (Cd O ?_ ?_))) <;> clear H xw
  ·intro gN a H
   try have p26:=dT gN
   refine kP H (SC (bS lM O (SR fun _ uS=>Rm O (Rm O (Rm O (Ra O (Ra O (aB uS O ?_))))))));clear H lM uS;intro a H;refine aV ?_;refine (aY H results59 (.cons (aD H O) (.cons (aD H O) (.cons (aD H O) .nil))) ?_).1
   first|(exfalso;omega)|exact H.rt ⟨by simp only [dL];repeat (first|rw [dJ]|rw [aX]),O⟩
  intro gN a H
  try have p26:=dF gN
  refine kP H (SR fun _ xB=>Rc O (aB xB O (Cd O ?_ ?_))) <;> clear H xB
  ·intro fU a H
   try have p28:=dT fU
   refine kP H (SC (bS lM O (SR fun _ rX=>Rm O (Rm O (Rm O (Ra O (Ra O (aB rX O ?_))))))));clear H lM rX;intro a H;refine aV ?_;refine (aY H results59 (.cons (aD H O) (.cons (aD H O) (.cons (aD H O) .nil))) ?_).1
   first|(exfalso;omega)|exact H.rt ⟨by simp only [dL];repeat (first|rw [dJ]|rw [aX]),O⟩
  intro fU a H
  try have p28:=dF fU
  refine kP H (Kc lM (SR fun _ uT=>Rm O (Rm O (Rm O (Ra O (Ra O (aB uT O ?_)))))));clear H lM uT;intro a H;refine aV ?_;refine (aY H results59 (.cons (aD H O) (.cons (aD H O) (.cons (aD H O) .nil))) ?_).1
  first|(exfalso;omega)|exact H.rt ⟨by simp only [dL];repeat (first|rw [dJ]|rw [aX]),O⟩
 intro jX a H
 try have qo:=dF jX
 refine kP H (SR fun _ rY=>Rm O (Rc O (aB rY O (Cd O ?_ ?_)))) <;> clear H rY
 ·intro h18 a H
  try have sQ:=dT h18
  refine kP H (SC (bS K3 O (SQ fun _ oJ=>SR fun _ xC=>Rm O (Kz xC (SB (SR fun _ xD=>Rc O (aB xD O (Cd O ?_ ?_)))))))) <;> clear H K3 xC xD
  ·intro h22 a H
   try have mR:=dT h22
   refine kP H (SC (bS oJ O (SR fun _ xE=>Rm O (Rm O (Rm O (Ra O (Ra O (aB xE O ?_))))))));clear H oJ xE;intro a H;refine aV ?_;refine (aY H results59 (.cons (aD H O) (.cons (aD H O) (.cons (aD H O) .nil))) ?_).1
   first|(exfalso;omega)|exact H.rt ⟨by simp only [dL];repeat (first|rw [dJ]|rw [aX]),O⟩
  intro h22 a H
  try have mR:=dF h22
  refine kP H (SR fun _ rZ=>Rc O (aB rZ O (Cd O ?_ ?_))) <;> clear H rZ
  ·intro aN a H
   try have fK:=dT aN
   refine kP H (SC (bS oJ O (SR fun _ BO=>Rm O (Rm O (Rm O (Ra O (Ra O (aB BO O ?_))))))));clear H oJ BO;intro a H;refine aV ?_;refine (aY H results59 (.cons (aD H O) (.cons (aD H O) (.cons (aD H O) .nil))) ?_).1
   first|(exfalso;omega)|exact H.rt ⟨by simp only [dL];repeat (first|rw [dJ]|rw [aX]),O⟩
  intro aN a H
  try have fK:=dF aN
  refine kP H (SR fun _ BP=>Rc O (aB BP O (Cd O ?_ ?_))) <;> clear H BP
  ·intro gN a H
   try have p26:=dT gN
   refine kP H (SC (bS oJ O (SR fun _ BQ=>Rm O (Rm O (Rm O (Ra O (Ra O (aB BQ O ?_))))))));clear H oJ BQ;intro a H;refine aV ?_;refine (aY H results59 (.cons (aD H O) (.cons (aD H O) (.cons (aD H O) .nil))) ?_).1
   first|(exfalso;omega)|exact H.rt ⟨by simp only [dL];repeat (first|rw [dJ]|rw [aX]),O⟩
  intro gN a H
  try have p26:=dF gN
  refine kP H (SR fun _ BR=>Rc O (aB BR O (Cd O ?_ ?_))) <;> clear H BR
  ·intro fU a H
   try have p28:=dT fU
   refine kP H (SC (bS oJ O (SR fun _ vT=>Rm O (Rm O (Rm O (Ra O (Ra O (aB vT O ?_))))))));clear H oJ vT;intro a H;refine aV ?_;refine (aY H results59 (.cons (aD H O) (.cons (aD H O) (.cons (aD H O) .nil))) ?_).1
   first|(exfalso;omega)|exact H.rt ⟨by simp only [dL];repeat (first|rw [dJ]|rw [aX]),O⟩
  intro fU a H
  try have p28:=dF fU
  refine kP H (Kc oJ (SR fun _ BS=>Rm O (Rm O (Rm O (Ra O (Ra O (aB BS O ?_)))))));clear H oJ BS;intro a H;refine aV ?_;refine (aY H results59 (.cons (aD H O) (.cons (aD H O) (.cons (aD H O) .nil))) ?_).1
  first|(exfalso;omega)|exact H.rt ⟨by simp only [dL];repeat (first|rw [dJ]|rw [aX]),O⟩
 intro h18 a H
 try have sQ:=dF h18
 refine kP H (SC (bS K3 O (SQ fun _ qV=>SR fun _ BU=>Rm O (Kz BU (SB (SR fun _ BX=>Rc O (aB BX O (Cd O ?_ ?_)))))))) <;> clear H K3 BU BX
 ·intro h22 a H
  try have mR:=dT h22
  refine kP H (SC (bS qV O (SR fun _ LM=>Rm O (Rm O (Rm O (Ra O (Ra O (aB LM O ?_))))))));clear H qV LM;intro a H;refine aV ?_;refine (aY H results59 (.cons (aD H O) (.cons (aD H O) (.cons (aD H O) .nil))) ?_).1
  first|(exfalso;omega)|exact H.rt ⟨by simp only [dL];repeat (first|rw [dJ]|rw [aX]),O⟩
 intro h22 a H
 try have mR:=dF h22
 refine kP H (SR fun _ LP=>Rc O (aB LP O (Cd O ?_ ?_))) <;> clear H LP
 ·intro aN a H
  try have fK:=dT aN
  refine kP H (SC (bS qV O (SR fun _ LQ=>Rm O (Rm O (Rm O (Ra O (Ra O (aB LQ O ?_))))))));clear H qV LQ;intro a H;refine aV ?_;refine (aY H results59 (.cons (aD H O) (.cons (aD H O) (.cons (aD H O) .nil))) ?_).1
  first|(exfalso;omega)|exact H.rt ⟨by simp only [dL];repeat (first|rw [dJ]|rw [aX]),O⟩
 intro aN a H
 try have fK:=dF aN
 refine kP H (SR fun _ LU=>Rc O (aB LU O (Cd O ?_ ?_))) <;> clear H LU
 ·intro gN a H
  try have p26:=dT gN
  refine kP H (SC (bS qV O (SR fun _ LV=>Rm O (Rm O (Rm O (Ra O (Ra O (aB LV O ?_))))))));clear H qV LV;intro a H;refine aV ?_;refine (aY H results59 (.cons (aD H O) (.cons (aD H O) (.cons (aD H O) .nil))) ?_).1
  first|(exfalso;omega)|exact H.rt ⟨by simp only [dL];repeat (first|rw [dJ]|rw [aX]),O⟩
 intro gN a H
 try have p26:=dF gN
 refine kP H (SR fun _ LW=>Rc O (aB LW O (Cd O ?_ ?_))) <;> clear H LW
 ·intro fU a H
  try have p28:=dT fU
  refine kP H (SC (bS qV O (SR fun _ LX=>Rm O (Rm O (Rm O (Ra O (Ra O (aB LX O ?_))))))));clear H qV LX;intro a H;refine aV ?_;refine (aY H results59 (.cons (aD H O) (.cons (aD H O) (.cons (aD H O) .nil))) ?_).1
  first|(exfalso;omega)|exact H.rt ⟨by simp only [dL];repeat (first|rw [dJ]|rw [aX]),O⟩
 intro fU a H
 try have p28:=dF fU
 refine kP H (Kc qV (SR fun _ LY=>Rm O (Rm O (Rm O (Ra O (Ra O (aB LY O ?_)))))));clear H qV LY;intro a H;refine aV ?_;refine (aY H results59 (.cons (aD H O) (.cons (aD H O) (.cons (aD H O) .nil))) ?_).1
 first|(exfalso;omega)|exact H.rt ⟨by simp only [dL];repeat (first|rw [dJ]|rw [aX]),O⟩
def gy (s:ByteArray) (i:Nat):Int:=if h:i < s.size then (s[i].toNat:Int) else 0
theorem pU {s:ByteArray} {i:Nat} (h:i < s.size):gy s i=(s[i].toNat:Int):=by simp [gy,h]
def kK (s:ByteArray) (at_ n:Nat):(fuel k:Nat)->(low high p:Int)->Int × Nat × Bool
 | 0,k,_,_,p=>(p,k,true)
 | f+1,k,low,high,p =>
  if n<=k then (p,k,true)
  else if s.size<=at_+k∨gy s (at_+k) < low∨high < gy s (at_+k) then (0,k,false)
  else kK s at_ n f (k+1) 128 191 (nS .or .i64 (IntKind.i64.wrap (p*2 ^ 6)) (nS .and .i64 (gy s (at_+k)) 63))
def fB (s:ByteArray) (at_:Nat):Int × Nat × Bool :=
 let b:=gy s at_
 let t:=dL b
 if t.2.2=0 then (0,0,false) else if t.2.2=1 then (b,1,true)
 else kK s at_ t.2.2.toNat 4 1 t.1 t.2.1 (nS .and .i64 b ((127:Int).fdiv (2 ^ t.2.2.toNat)))
theorem KQ (n:UInt8):IntKind.i64.wrap (n.toNat:Int)=(n.toNat:Int):=wL V (by have:=n.toNat_lt;omega)
set_option maxHeartbeats 1000000 in
theorem Ns (G:GH) (w0:World) (hG:Hold G w0) (s:ByteArray) (i:Nat) (hi:i < s.size) (hs:s.size < 4611686018427387904) :
  Calls prog 46 #[.string s,.int .i64 i] w0 (cO w0 G fun v G'=>v=.tuple #[.int .i64 (fB s i).1,.int .i64 (fB s i).2.1,.bool (fB s i).2.2]∧G=G'):=by
 have hb:=pU hi;obtain ⟨n,hn⟩:∃ n:Nat,(dL (gy s i)).2.2=(n:Int):=⟨(dL (gy s i)).2.2.toNat,by have:=Ky (gy s i);omega⟩
 have hn4:n<=4:=by have:=Ky (gy s i);omega
 refine eN [(0,_),(1,_)] func46 O ntmps46 O O hG ?_;intro a H;refine kP H (SR fun _ K1=>Ra O (Ra O (aB K1 O (SR fun _ K2=>Rm O (Rm O ?_)))));clear H K1;intro a H;refine zL _ jA H wn O O O (by first|assumption|omega) rfl ?_;clear H;intro a H;refine kH H (Ra O ?_);clear H;intro a H;rw [<- hb] at H;refine K2 _ _ ?_;clear K2;refine kP H (SR fun _ K3=>Rm O ?_);clear H;intro a H;refine s_call VH H wn O (abS _ _ H.ro _) O ?_;clear H;rintro v16 _ a w ⟨rfl,rfl⟩ - H;refine kH H (Rm O ?_);clear H;intro a H;(iterate 3 refine fZ H wn O O O ?_;clear H;intro a H);refine kH H (Ra O (Ra O (aB K3 O (SQ fun _ K4=>SR fun _ K5=>Rm O (Kz K5 (SB (SR fun _ K6=>Rc O (aB K6 O (Cd O ?_ ?_))))))))) <;> clear H K3 K5 K6
 ·intro h21 a H
  try have mD:=dT h21
  refine kP H (SR fun _ K7=>Ra O (Ra O (aB K7 O ?_)));clear H K7;intro a H;refine aV ?_;skip;refine (aY H results46 (.cons (aD H O) (.cons (aD H O) (.cons (aD H O) .nil))) ?_).1;exact H.rt ⟨by simp [fB,mD],O⟩
 intro h21 a H
 try have mD:=dF h21
 refine kP H (SR fun _ K8=>Rc O (aB K8 O (Cd O ?_ ?_))) <;> clear H K8
 ·intro h23 a H
  try have JN:=dT h23
  refine kP H (SR fun _ K9=>Rm O ?_);clear H;intro a H;refine yD (gy s i) wW KX H wn O (by rw [hb];exact KQ _) O ?_;clear H;intro a H;refine kH H (Ra O (Ra O (aB K9 O ?_)));clear H K9;intro a H;refine aV ?_;skip;refine (aY H results46 (.cons (aD H O) (.cons (aD H O) (.cons (aD H O) .nil))) ?_).1;exact H.rt ⟨by simp [fB,mD,JN],O⟩
 intro h23 a H
 try have JN:=dF h23
 refine kP H (Kc K4 (SR fun _ aP=>Rm O ?_));clear H K4;intro a H;refine yD (gy s i) wW KX H wn O (by rw [hb];exact KQ _) O ?_;clear H;intro a H;refine kH H (Rm O ?_);clear H;intro a H;refine J7 n H wn O O (by rw [hn]) (by show n<=64;omega) rfl ?_;clear H;intro a H;refine FH O H wn O O O ?_;clear H;intro a H;refine kH H (aB aP O (SQ fun _ bH=>SR fun _ bL=>aB bL O (SB ?_)));clear H aP bL;intro a H;skip;refine eG (ι:=Nat × Int × Int × Int) (Tc:=[(0,_),(1,_),(10,_)]) (Lc:=[]) (fun gh=>[(4,.int .i64 gh.2.2.2),(5,.int .i64 (gh.1:Int)),(8,.int .u8 gh.2.1),(9,.int .u8 gh.2.2.1)]) (fun gh=>[]) (fun gh=>G) (fun gh=>gh.1<=4∧fB s i=kK s i n (5 - gh.1) gh.1 gh.2.1 gh.2.2.1 gh.2.2.2) (fun gh=>5 - gh.1) ((1,_,_,_)) (by exact H.sub ⟨O,O,O,O,O,O,O,aL⟩) ?_ ?_
 ·refine ⟨V,?_⟩;simp only [fB,hn];rw [aX,aX];rfl
 clear H;rintro ⟨k,low,high,p⟩ a w hI H;dsimp only at hI H;obtain ⟨hk,hdec⟩:=hI;dsimp only [lca,dB] at H;refine kP H (SQ fun _ bI=>SR fun _ cB=>Rm O (Rm O (Rc O (Kz cB (Cd O ?_ ?_))))) <;> clear H cB
 ·intro jG a H
  try have p34:=dT jG
  refine kP H (Kc bI (SQ fun _ dw=>SB (SQ fun _ dN=>SR fun _ eP=>Rm O (Rm O (Rd O (Rm O (Rv jA O (Rc O (Rm O (Sp 43 O ?_ ?_)))))))))) <;> clear H bI
  ·intro h43 a H
   try have p43:=dT h43
   refine kH H (aQ h43 O (aO h43 O (aO h43 O (Pt h43 O (Rm O (aQ O O (aO O O (aO O O (Pt O O (Kz eP (Ct O O (SR fun _ fM=>Rm O (Ra O (Ra O (aB fM O ?_)))))))))))))));clear H eP fM;intro a H;refine aV ?_
   have hfin:fB s i=(if n<=k then (p,k,true) else (0,k,false)):=by
    rw [hdec];have e:5 - k=(4 - k)+1:=by omega
    rw [e,kK]
    by_cases hk2:n<=k
    ·rw [aM hk2,aM hk2]
    rw [aJ hk2,aJ hk2,aM (by first|omega|(rw [pU V];omega))]
   refine (aY H results46 (.cons (aD H O) (.cons (aD H O) (.cons (aD H O) .nil))) ?_).1;exact H.rt ⟨by rw [hfin];first|rw [dJ]|rw [aX],O⟩
  intro h43 a H
  try have p43:=dF h43
  refine kH H (YM h43 O (YM h43 O (YM h43 O ?_)));clear H;intro a H;refine nK _ H (wg H O O h43) O O O V V O ?_;clear H;intro a H;refine zL _ jA H (wg H O O h43) O O O (by first|assumption|omega) rfl ?_;clear H;intro a H;refine kH H (YM h43 O (YC h43 O (Pf h43 O (Rm O (Sp 52 O ?_ ?_))))) <;> clear H
  ·intro bW a H
   try have p52:=dT bW
   refine kH H (aQ bW O (aO bW O (aO bW O (Pt bW O (Kz eP (Ct O O (SR fun _ fO=>Rm O (Ra O (Ra O (aB fO O ?_))))))))));clear H eP fO;intro a H;refine aV ?_
   have hfin:fB s i=(if n<=k then (p,k,true) else (0,k,false)):=by
    rw [hdec];have e:5 - k=(4 - k)+1:=by omega
    rw [e,kK]
    by_cases hk2:n<=k
    ·rw [aM hk2,aM hk2]
    rw [aJ hk2,aJ hk2,aM (by first|omega|(rw [pU V];omega))]
   refine (aY H results46 (.cons (aD H O) (.cons (aD H O) (.cons (aD H O) .nil))) ?_).1;exact H.rt ⟨by rw [hfin];first|rw [dJ]|rw [aX],O⟩
  intro bW a H
  try have p52:=dF bW
  refine kH H (YM bW O (YM bW O (YM bW O ?_)));clear H;intro a H;refine nK _ H (wg H O O bW) O O O V V O ?_;clear H;intro a H;refine zL _ jA H (wg H O O bW) O O O (by first|assumption|omega) rfl ?_;clear H;intro a H;refine kH H (YM bW O (YC bW O (Pf bW O (Kz eP (Cd O ?_ ?_))))) <;> clear H eP
  ·intro gF a H
   try have p60:=dT gF
   refine kP H (SR fun _ ig=>Rm O (Ra O (Ra O (aB ig O ?_))));clear H ig;intro a H;refine aV ?_
   have hfin:fB s i=(if n<=k then (p,k,true) else (0,k,false)):=by
    rw [hdec];have e:5 - k=(4 - k)+1:=by omega
    rw [e,kK]
    by_cases hk2:n<=k
    ·rw [aM hk2,aM hk2]
    rw [aJ hk2,aJ hk2,aM (by first|omega|(rw [pU V];omega))]
   refine (aY H results46 (.cons (aD H O) (.cons (aD H O) (.cons (aD H O) .nil))) ?_).1;exact H.rt ⟨by rw [hfin];first|rw [dJ]|rw [aX],O⟩
  intro gF a H
  try have p60:=dF gF
  refine kP H (Kc dN (SR fun _ iq=>Rm O ?_));clear H dN;intro a H;refine aaV _ H wn O O O Y O ?_;clear H;intro a H;refine kH H (Rm O (Rm O (Rm O (Rd O ?_))));clear H;intro a H;refine zL _ jA H wn O O O (by first|assumption|omega) rfl ?_;clear H;intro a H;refine yD (gy s (i+k)) wW KX H wn O (by rw [pU V];exact KQ _) O ?_;clear H;intro a H;(iterate 2 refine FH O H wn O O O ?_;clear H;intro a H);refine kH H (aB iq O (SC (Ra O (bS dw O (SC (Rm O (Rd O (Ra O ?_))))))));clear H iq dw;intro a H;refine aj ?_;refine bg ((k+1,128,191,nS .or .i64 (IntKind.i64.wrap (p*2 ^ 6)) (nS .and .i64 (gy s (i+k)) 63))) (by exact H.sub ⟨O,O,O,O,O,O,O,aL⟩) ?_
  (try dsimp only);refine ⟨V,?_⟩
  have e:5 - k=(5 - (k+1))+1:=by omega
  rw [hdec,e,kK,aX,pU V,aX]
 intro jG a H
 try have p34:=dF jG
 refine dD ?_;refine bH _ _ ?_;clear bH;refine kP H (SR fun _ gM=>Rm O (Rm O (Ra O (Ra O (aB gM O ?_)))));clear H gM;intro a H;refine aV ?_
 have hfin:fB s i=(if n<=k then (p,k,true) else (0,k,false)):=by
  rw [hdec];have e:5 - k=(4 - k)+1:=by omega
  rw [e,kK]
  by_cases hk2:n<=k
  ·rw [aM hk2,aM hk2]
  rw [aJ hk2,aJ hk2,aM (by first|omega|(rw [pU V];omega))]
 refine (aY H results46 (.cons (aD H O) (.cons (aD H O) (.cons (aD H O) .nil))) ?_).1;exact H.rt ⟨by rw [hfin];first|rw [dJ]|rw [aX],O⟩
theorem Np (s:ByteArray) (at_ n:Nat):∀ (f k:Nat) (low high p:Int),n<=k+f->k<=n->k<=(kK s at_ n f k low high p).2.1∧(kK s at_ n f k low high p).2.1<=n∧((kK s at_ n f k low high p).2.2=true->at_+k<=s.size->at_+(kK s at_ n f k low high p).2.1<=s.size)
 | 0,k,low,high,p,h1,h2=>by simp only [kK];omega
 | f+1,k,low,high,p,h1,h2=>by
  unfold kK
  split
  ·simp only [];omega
  split
  ·simp only [];omega
  have ih:=Np s at_ n f (k+1) 128 191 (nS .or .i64 (IntKind.i64.wrap (p*2 ^ 6)) (nS .and .i64 (gy s (at_+k)) 63)) V V;refine ⟨by have:=ih.1;omega,ih.2.1,fun h3 h4=>ih.2.2 h3 V⟩
theorem Am (s:ByteArray) (i:Nat) (hi:i < s.size):(fB s i).2.1<=4∧((fB s i).2.2=true->1<=(fB s i).2.1∧i+(fB s i).2.1<=s.size):=by
 have ht:=Ky (gy s i)
 unfold fB
 simp only []
 split
 ·simp
 split
 ·simp;omega
 have:=Np s i (dL (gy s i)).2.2.toNat 4 1 (dL (gy s i)).1 (dL (gy s i)).2.1 (nS .and .i64 (gy s i) ((127:Int).fdiv (2 ^ (dL (gy s i)).2.2.toNat))) V V;refine ⟨V,fun h=>⟨V,this.2.2 h V⟩⟩
def gK (s:ByteArray) (i:Nat):Int :=
 if h:i < s.size then (if h2:(fB s i).2.2=true then gK s (i+(fB s i).2.1) else i) else -1
 termination_by s.size - i
 decreasing_by have:=(Am s i h).2 h2;omega
theorem WO (G:GH) (w0:World) (hG:Hold G w0) (s:ByteArray) (hs:s.size < 4611686018427387904) :
  Calls prog 36 #[.string s] w0 (cO w0 G fun v G'=>v=.int .i64 (gK s 0)∧G=G'):=by
 refine eN [(0,_)] func36 O ntmps36 O O hG ?_;intro a H;refine kP H (SR fun _ K1=>aB K1 O (SQ fun _ K2=>SR fun _ K3=>aB K3 O (SB ?_)));clear H K1 K3;intro a H;skip;refine eG (ι:=Nat) (Tc:=[(0,_)]) (Lc:=[]) (fun gh=>[(3,.int .i64 (gh:Int))]) (fun gh=>[]) (fun gh=>G) (fun gh=>gh<=s.size∧gK s 0=gK s gh) (fun gh=>s.size - gh) (0) (by exact H.sub ⟨O,O,aL⟩) ?_ ?_
 ·exact ⟨V,O⟩
 clear H;intro i a w hI H;obtain ⟨hk,hf⟩:=hI;dsimp only [lca,dB] at H;refine kP H (SQ fun _ K4=>SR fun _ K5=>Rm O (Rm O (Rv jA O (Rc O (Kz K5 (Cd O ?_ ?_)))))) <;> clear H K5
 ·intro h10 a H
  try have qm:=dT h10
  refine kP H (Kc K4 (SB (SR fun _ K6=>Rm O (Rm O ?_))));clear H K4;intro a H;refine s_call NK H wn O (Ns _ _ H.ro s i V hs) O ?_;clear H;rintro v14 _ a w ⟨rfl,rfl⟩ - H;have hd:=Am s i V;refine kH H (Rm O ?_);clear H;intro a H;(iterate 3 refine fZ H wn O O O ?_;clear H;intro a H);refine kH H (Ra O (Ra O (aB K6 O (SQ fun _ K7=>SR fun _ K8=>Rm O (Rn O (Kz K8 (Cd O ?_ ?_))))))) <;> clear H K6 K8
  ·intro h19 a H
   try have Fw:=dT h19
   exact kP H (SR fun _ K9=>Rm O (aB K9 O (LR results36 O fun H=>H.rt ⟨by rw [hf,gK,dif_pos V,dif_neg (by simpa using h19)],O⟩)))
  intro h19 a H
  try have Fw:=dF h19
  refine kP H (Kc K7 (SC (Rm O (Rm O (Rd O (Ra O ?_))))));clear H K7;intro a H;refine aj ?_;refine JF ((i+(fB s i).2.1)) (by exact H.sub ⟨O,O,aL⟩) ?_ ?_
  ·have h1:(fB s i).2.2=true:=by simpa using h19
   have h2:=hd.2 h1;refine ⟨V,?_⟩;rw [hf,gK,dif_pos V,dif_pos h1]
  have h1:(fB s i).2.2=true:=by simpa using h19
  have h2:=hd.2 h1
  omega
 intro h10 a H
 try have qm:=dF h10
 refine dD ?_;refine K2 _ _ ?_;clear K2;exact kP H (SR fun _ aP=>aB aP O (LR results36 O fun H=>H.rt ⟨by rw [hf,gK,dif_neg V],O⟩))
def fJ (s:ByteArray):Bool:=decide (gK s 0 < 0)
theorem DY (G:GH) (w0:World) (hG:Hold G w0) (s:ByteArray) (hs:s.size < 4611686018427387904) :
  Calls prog 22 #[.string s] w0 (cO w0 G fun v G'=>v=.bool (fJ s)∧G=G'):=by
 refine eN [(0,_)] func22 O ntmps22 O O hG ?_;intro a H;refine kP H (SR fun _ K1=>aB K1 O (SR fun _ K2=>Rm O ?_));clear H K1;intro a H;refine s_call Vq H wn O (WO _ _ H.ro s hs) O ?_;clear H;rintro v4 _ a w ⟨rfl,rfl⟩ - H;exact kH H (Rc O (aB K2 O (LR results22 O fun H=>H.rt ⟨O,O⟩)))
def kD (s:ByteArray) (i:Nat):Nat :=
 if i < s.size then (if nS .and .u8 (gy s i) 192=128 then 0 else 1)+kD s (i+1) else 0
 termination_by s.size - i
theorem Nf (s:ByteArray):∀ (n i:Nat),s.size - i=n->kD s i<=n
 | 0,i,h=>by rw [kD,aX];exact bD _
 | n+1,i,h=>by
  have ih:=Nf s n (i+1) V;rw [kD,dJ]
  split <;> omega
def ng (s:ByteArray):Nat:=if fJ s then kD s 0 else 0
def BH (s:ByteArray):Int:=if fJ s then 0 else 12
theorem UK (s:ByteArray):ng s<=s.size:=by unfold ng;have:=Nf s s.size 0 V;split <;> omega
theorem UU (G:GH) (w0:World) (hG:Hold G w0) (s:ByteArray) (hs:s.size < 4611686018427387904) :
  Calls prog 71 #[.string s] w0 (cO w0 G fun v G'=>v=.tuple #[vi (ng s),vi (BH s)]∧G=G'):=by
 refine eN [(0,_)] func71 O ntmps71 O O hG ?_;intro a H;refine kP H (SR fun _ K1=>Ra O (aB K1 O (SQ fun _ K2=>SR fun _ K3=>Rm O ?_)));clear H K1;intro a H;refine s_call Cw H wn O (DY _ _ H.ro s hs) O ?_;clear H;rintro v6 _ a w ⟨rfl,rfl⟩ - H;refine kH H (Rn O (Kz K3 (Cd O ?_ ?_))) <;> clear H K3
 ·intro h7 a H
  refine kP H (SR fun _ K4=>Ra O (aB K4 O ?_));clear H K4;intro a H;refine aV ?_;refine (aY H results71 (.cons (aD H O) (.cons (aD H O) .nil)) ?_).1;exact H.rt ⟨by simp [ng,BH,show fJ s=false by simpa using h7],O⟩
 intro h7 a H
 try have p7:=dF h7
 refine kP H (Kc K2 (SQ fun _ K5=>SR fun _ K6=>Rm O (Rv jA O (Rm O (Kz K6 (SB ?_))))));clear H K2 K6;intro a H;skip;refine eG (ι:=Nat × Nat) (Tc:=[(0,_),(9,_)]) (Lc:=[]) (fun gh=>[(2,vi gh.2),(10,vi gh.1)]) (fun gh=>[]) (fun gh=>G) (fun gh=>gh.1<=s.size∧gh.2<=gh.1∧gh.2+kD s gh.1=ng s) (fun gh=>s.size - gh.1) ((0,0)) (by exact H.sub ⟨O,O,O,O,aL⟩) ?_ ?_
 ·exact ⟨V,V,by simp [ng,show fJ s=true by simpa using h7]⟩
 clear H;rintro ⟨i,n⟩ a w hI H;dsimp only at hI H;obtain ⟨hk,hn,hf⟩:=hI;dsimp only [lca,dB] at H;refine kP H (SR fun _ K7=>Rc O (Kz K7 (SQ fun _ K8=>Cd O ?_ ?_))) <;> clear H K7
 ·intro h11 a H
  try have rR:=dT h11
  refine kP H (Kc K8 (SQ fun _ K9=>SB (SR fun _ aP=>Rm O (aB aP O (SR fun _ bH=>Rm O (Rm O ?_))))));clear H K8 aP;intro a H;refine zL _ jA H wn O O O (by first|assumption|omega) rfl ?_;clear H;intro a H;refine FH O H wn O O O ?_;clear H;intro a H;refine kH H (Rc O (Kz bH (Cd O ?_ ?_))) <;> clear H bH
  ·intro dZ a H
   try have lg:=dT dZ
   refine kP H (SC (Rm O (Rd O (bS K9 O (SC (Rd O (Rm O ?_)))))));clear H K9;intro a H;refine aj ?_;refine bg ((i+1,n+1)) (by exact H.sub ⟨O,O,O,O,aL⟩) ?_
   (try dsimp only);rw [<- pU V] at lg;rw [kD,dJ,aJ lg] at hf;exact ⟨V,V,V⟩
  intro dZ a H
  try have lg:=dF dZ
  refine kP H (Kc K9 (SC (Rd O (Rm O ?_))));clear H K9;intro a H;refine aj ?_;refine bg ((i+1,n)) (by exact H.sub ⟨O,O,O,O,aL⟩) ?_
  (try dsimp only);rw [<- pU V,Af] at lg;rw [kD,dJ,aM lg] at hf;exact ⟨V,V,V⟩
 intro h11 a H
 try have rR:=dF h11
 refine dD ?_;refine K5 _ _ ?_;clear K5;refine kP H (SR fun _ bL=>Rm O (Ra O (aB bL O ?_)));clear H bL;intro a H;refine aV ?_;refine (aY H results71 (.cons (aD H O) (.cons (aD H O) .nil)) ?_).1;exact H.rt ⟨by rw [kD,aX,qZ] at hf;rw [hf];simp [BH,show fJ s=true by simpa using h7],O⟩
section
def bP (e sz:Nat) (v:av) (n:Nat) (xs:List av) (Lo:OL):Prop :=
 xs.length=n*sz∧((v=.slice none 0 0∧n=0∧Lo=[])∨∃ b cap cur,v=.slice (some ⟨b,0,none⟩) n cap∧Lo=[(b,.cells cur e (0,0))]∧n<=cap∧cap<=maxLen∧cur.size=cap*sz∧cur.toList.take (n*sz)=xs)
theorem bP.nil {e sz:Nat}:bP e sz (.slice none 0 0) 0 [] []:=⟨by simp,.inl ⟨O,O,O⟩⟩
theorem bP.shape {e sz n:Nat} {v:av} {xs:List av} {Lo:OL} (h:bP e sz v n xs Lo):∃ A c,v=.slice A n c∧n<=c∧c<=maxLen:=by
 rcases h.2 with ⟨rfl,rfl,_⟩|⟨b,cap,cur,rfl,_,h1,h2,_,_⟩
 ·exact ⟨none,0,O,bD _,by simp [maxLen]⟩
 ·exact ⟨_,cap,O,h1,h2⟩
section
variable {N:Nat} {D:List Deferred} {w0:World} {F:Nat->Prop} {G0 G:GH} {L Li Lo:OL} {T:List (Nat × av)}
variable {r:Option Nat} {P:Program} {ops:Array Oper} {Q:Exit->Act->World->Prop} {rest:List Oper} {a:Act} {w w':World}
variable {d:Nat} {ty:TypeId} {pos:String} {aG:Array Edge} {g:Option (Nat × Bool)}
theorem bP.owns {e sz n:Nat} {v:av} {xs:List av} (h:bP e sz v n xs Lo) (H:Hp w0 F G0 G (Li++Lo) w):w.ownsRow 0 e sz v n xs:=by
 refine ⟨h.1,?_⟩
 rcases h.2 with ⟨h1,h2,_⟩|⟨b,cap,cur,h1,h2,h3,h4,h5,h6⟩
 ·exact .inl ⟨h1,h2⟩
 ·exact .inr ⟨b,cap,cur,h1,dU _,H.own (b,.cells cur e (0,0)) (by simp [h2]),h3,h4,h5,h6⟩
theorem MU {e sz n n':Nat} {v v':av} {xs xs':List av} (h:bP e sz v n xs Lo) (ho:jS G Lo w) (hown:w'.ownsRow 0 e sz v' n' xs') (hg:w.grownBy w' v.ownBlock) (hb:v'.ownBlock=v.ownBlock∨v'.ownBlock=some w.heap.size) :
  ∃ kG,bP e sz v' n' xs' kG∧Change w w' G G Lo kG:=by
 have hrow:∀ k,v.ownBlock=some k->∃ p∈Lo,p.1=k:=by
  intro k hk
  rcases h.2 with ⟨h1,_,_⟩|⟨b,cap,cur,h1,h2,_⟩
  ·rw [h1] at hk;cases hk
  ·rw [h1] at hk;simp only [Value.ownBlock,ku] at hk;exact ⟨_,by rw [h2];exact List.mem_singleton_self _,hk⟩
 have hro:∀ k o,G k=some o->w'.heap[k]?=some o:=by
  intro k o hk
  rw [hg.block k (lt_of_heap (ho.ro k o hk)) (fun e'=>by
   obtain ⟨p,hp,e2⟩:=hrow k e'.symm
   have:=ho.sep p hp
   rw [e2,hk] at this;cases this)]
  exact ho.ro k o hk
 have hfr:∀ k,k < w.heap.size->(∀ p∈Lo,p.1≠k)->w'.heap[k]?=w.heap[k]?:=fun k hk hn=>hg.block k hk fun e'=>by
  obtain ⟨p,hp,e2⟩:=hrow k e'.symm
  exact hn p hp e2
 rcases hown.2 with ⟨h1,h2⟩|⟨b,cap,cur,h1,_,h3,h4,h5,h6,h7⟩
 ·exact ⟨[],⟨hown.1,.inl ⟨h1,h2,O⟩⟩,⟨hg.os,hg.tape,hg.output,hg.size,hfr,fun _ _ h=>h,fun _ _ h=>.inl h,⟨hro,fun _ h=>(by cases h),fun _ h=>(by cases h),List.Pairwise.nil⟩,fun _ h=>(by cases h)⟩⟩
 ·refine ⟨[(b,.cells cur e (0,0))],⟨hown.1,.inr ⟨b,cap,cur,h1,O,h4,h5,h6,h7⟩⟩,⟨hg.os,hg.tape,hg.output,hg.size,hfr,fun _ _ h=>h,fun _ _ h=>.inl h,⟨hro,fun p hp=>?_,fun p hp=>?_,by simp⟩,fun p hp=>?_⟩⟩
  ·rw [vY.1 hp];exact h3
  ·rw [vY.1 hp]
   cases hgb:G b with
   | none=>rfl
   | some o =>
    exfalso
    rw [h1] at hb
    rcases hb with hb|hb
    ·obtain ⟨p',hp',e2⟩:=hrow b (by rw [<- hb];rfl)
     have:=ho.sep p' hp'
     rw [e2,hgb] at this;cases this
    ·simp only [Value.ownBlock,ku] at hb
     have:=lt_of_heap (ho.ro b o hgb)
     omega
  ·rw [vY.1 hp]
   rw [h1] at hb
   rcases hb with hb|hb
   ·obtain ⟨p',hp',e2⟩:=hrow b (by rw [<- hb];rfl)
    exact .inr ⟨p',hp',e2⟩
   ·simp only [Value.ownBlock,ku] at hb
    exact .inl (by simp only;omega)
theorem eD {t e:TypeId} {sz bytes:Nat} {zero:List av} {agg:Bool} (hs:P.underlying t=some (.slice e)) (ht:Ty P e sz bytes zero agg) (hz:Nat.beq zero.length sz=true) (hsz:Nat.blt 0 sz=true) {x y:Operand} {v:av} {n m c b2 o2:Nat} {xs news:List av} (H:St N D w0 F G0 G (Li++Lo) T a w)
  (hw:Region.wanted ⟨some d,.call { callee:=.builtin .append,args:=#[x,y],argTypes:=#[t,t] },ty,pos,aG,g⟩ (yielded ops a.tmps)=true) (hx:ev T x=some v) (hy:ev T y=some (.slice (some ⟨b2,o2,none⟩) m c)) (hrow:bP e sz v n xs Lo)
  (hn:news.length=m*sz) (hc:∀ j u,news[j]?=some u->w.cell? ⟨b2,o2+j,none⟩=some u) (h1:news.all Value.oneCell'=true) (h63:n+m<=maxLen) (hb:(n+m)*bytes<=140737488355328) (hd:Nat.blt d N=true)
  (k:∀ v' kG a' w',bP e sz v' (n+m) (xs++news) kG->St N D w0 F G0 G (Li++kG) ((d,v') :: T) a' w'->WL r P ops Q rest a' w') :
  WL r P ops Q (⟨some d,.call { callee:=.builtin .append,args:=#[x,y],argTypes:=#[t,t] },ty,pos,aG,g⟩ :: rest) a w:=by
 obtain ⟨i,z,hi,hi1,hi2,hi3,hi4⟩:=ht.parts
 obtain ⟨v',w2,hrun,r1,r2,_,r4⟩:=run_append_own_at (P:=P) w 0 t ty e i z sz bytes hs hi hi3 hi1 hi2 (by rw [hi4];simpa using uW hz) (Eq.mp Nat.blt_eq hsz) v n xs (hrow.owns H.hp) ⟨b2,o2,none⟩ m c news hn (fun j u hj=>by rw [add_lit];exact hc j u hj) (fun u hu=>gq.1 h1 u hu) h63 hb (dU _)
 obtain ⟨kG,hr,hch⟩:=MU hrow H.hp.owns r1 r2 r4
 refine dQ (v:=v') (w':=w2) hw O ?_ (k v' kG _ w2 hr (H.put hd v' (H.hp.change hch)))
 simp [execOp,resolve,invoke,builtin,H.ev hx,H.ev hy,bZ,hrun]
theorem aaB {t e:TypeId} {sz bytes:Nat} {zero:List av} {agg:Bool} (hs:P.underlying t=some (.slice e)) (ht:Ty P e sz bytes zero agg) {x y:Operand} {A B:Option Addr} {n c c':Nat} (H:St N D w0 F G0 G L T a w)
  (hw:Region.wanted ⟨some d,.call { callee:=.builtin .append,args:=#[x,y],argTypes:=#[t,t] },ty,pos,aG,g⟩ (yielded ops a.tmps)=true) (hx:ev T x=some (.slice A n c)) (hy:ev T y=some (.slice B 0 c')) (hnc:n<=c) (hd:Nat.blt d N=true)
  (k:∀ a',St N D w0 F G0 G L ((d,.slice A n c) :: T) a' w->WL r P ops Q rest a' w) :
  WL r P ops Q (⟨some d,.call { callee:=.builtin .append,args:=#[x,y],argTypes:=#[t,t] },ty,pos,aG,g⟩ :: rest) a w:=by
 refine dQ (v:=.slice A n c) (w':=w) hw O ?_ (k _ (H.put hd _ H.hp))
 have h1:∀ w,(Builtin.firstCells sz 0 (.slice B 0 c')).run P w=.ok #[] w:=by intro w;cases B <;> simp [Builtin.firstCells,loadCells,loadCellsFrom]
 have hle:n+0<=c:=by omega
 cases A <;> simp [execOp,resolve,invoke,builtin,H.ev hx,H.ev hy,bZ,Builtin.append_,lq hs,ht.uK,Builtin.lenOf,hnc,h1,storeCells]
theorem yC {x:Operand} {fv:av} {xs:List Operand} {vs:List av} {ts:Array TypeId} {R:av->GH->Prop} (H:St N D w0 F G0 G L T a w) (hw:Region.wanted ⟨some d,.call { callee:=.value x,args:=xs.toArray,argTypes:=ts },ty,pos,aG,g⟩ (yielded ops a.tmps)=true)
  (hf:ev T x=some fv) (hx:evs T xs=some vs) (hc:uR P fv vs w (cO w G R)) (hd:Nat.blt d N=true)
  (k:∀ v G' a' w',R v G'->(∀ k o,G k=some o->G' k=some o)->St N D w0 F G0 G' L ((d,v) :: T) a' w'->WL r P ops Q rest a' w'):WL r P ops Q (⟨some d,.call { callee:=.value x,args:=xs.toArray,argTypes:=ts },ty,pos,aG,g⟩ :: rest) a w:=by
 refine Lb (nx:=_) (R:=cO w G R) hw O O ?_ ?_
 ·have h1:=H.evs hx
  have e:(execOp a.eval ⟨some d,.call { callee:=.value x,args:=xs.toArray,argTypes:=ts },ty,pos,aG,g⟩)=(do let d <- Deferred.ofValue fv vs.toArray;invoke d.target d.args:Sem Next):=by
   simp only [execOp,resolve,H.ev hf,List.map_toArray,h1]
  rw [e]
  exact hc.go
 ·rintro e w' ⟨v,G',rfl,hb,hx,hR⟩
  exact ⟨v,O,k v G' _ w' hR hx.1 (H.put hd v (H.hp.Ms hb hx))⟩
end
def dK (G:GH) (sz:Nat) (rows:List (List Dat)) (xs:List av):Prop :=
 ∃ css:List (List av),xs=css.flatten∧css.length=rows.length∧∀ (j:Nat) (r:List Dat) (cs:List av),rows[j]?=some r->css[j]?=some cs->aZ G r cs∧cs.length=sz
theorem dK.nil {G:GH} {sz:Nat}:dK G sz [] []:=⟨[],O,O,fun j r cs h=>by simp at h⟩
theorem dK.mono {G G':GH} (hm:∀ k o,G k=some o->G' k=some o) {sz:Nat} {rows:List (List Dat)} {xs:List av} (h:dK G sz rows xs):dK G' sz rows xs:=by
 obtain ⟨css,h1,h2,h3⟩:=h
 exact ⟨css,h1,h2,fun j r cs hr hc=>⟨(h3 j r cs hr hc).1.mono hm,(h3 j r cs hr hc).2⟩⟩
theorem dK.snoc {G:GH} {sz:Nat} {rows:List (List Dat)} {xs:List av} (h:dK G sz rows xs) {q:List Dat} {cs:List av} (hr:aZ G q cs) (hl:cs.length=sz):dK G sz (rows++[q]) (xs++cs):=by
 obtain ⟨css,h1,h2,h3⟩:=h
 refine ⟨css++[cs],by simp [h1],by simp [h2],fun j r c hj hc=>?_⟩
 by_cases hlt:j < rows.length
 ·rw [vZ hlt] at hj
  rw [vZ V] at hc
  exact h3 j r c hj hc
 ·have I7:j=rows.length:=by
   have:=(iI.1 hj).1
   simp at this;omega
  subst I7
  rw [xK (bD _),Nat.sub_self] at hj
  rw [xK V,h2,Nat.sub_self] at hc
  simp only [xI,ku] at hj hc
  subst hj;subst hc
  exact ⟨hr,hl⟩
theorem Ob {sz:Nat}:∀ {css:List (List av)} {j:Nat} {cs:List av},(∀ (j:Nat) (cs:List av),css[j]?=some cs->cs.length=sz)->css[j]?=some cs->∀ i,i < sz->css.flatten[j*sz+i]?=cs[i]?
 | [],_,_,_,h,_,_=>by simp at h
 | c :: css,0,cs,hl,h,i,hi=>by
  simp only [xI,ku] at h
  subst h
  have:=hl 0 c O
  simp only [List.flatten_cons,Nat.zero_mul,fC]
  rw [vZ V]
 | c :: css,j+1,cs,hl,h,i,hi=>by
  have hc:=hl 0 c O
  have ih:=Ob (css:=css) (j:=j) (cs:=cs) (fun j cs hj=>hl (j+1) cs (by simpa using hj)) (by simpa using h) i hi
  simp only [List.flatten_cons]
  rw [xK (by rw [hc,Nat.succ_mul];omega),<- ih]
  congr 1
  rw [hc,Nat.succ_mul];omega
theorem kr.cat {G:GH} {sz b:Nat}:∀ {rows:List (List Dat)} {o:Nat},kr G sz b o rows->∃ xs:List av,xs.length=rows.length*sz∧(∀ j u,xs[j]?=some u->aR G b (o+j)=some u)∧xs.all Value.oneCell'=true∧dK G sz rows xs
 | [],o,_=>⟨[],by simp,fun j u h=>by simp at h,O,dK.nil⟩
 | r :: rs,o,h=>by
  simp only [kr] at h
  obtain ⟨⟨cs,h1,h2,h3⟩,h4⟩:=h
  obtain ⟨xs,g1,g2,g3,css,g4,g5,g6⟩:=kr.cat h4
  refine ⟨cs++xs,by simp [h1,g1,Nat.succ_mul,Nat.add_comm],fun j u hj=>?_,by simp [h3.one,g3],cs :: css,by simp [g4],by simp [g5],fun j q c hj hc=>?_⟩
  ·by_cases hlt:j < cs.length
   ·rw [vZ hlt] at hj;exact h2 j u hj
   ·rw [xK V] at hj
    rw [<- g2 _ u hj];congr 1;omega
  ·cases j with
   | zero=>simp only [xI,ku] at hj hc;subst hj;subst hc;exact ⟨h3,h1⟩
   | succ j=>exact g6 j q c (by simpa using hj) (by simpa using hc)
theorem aC.cells {G:GH} {sz:Nat} {rows:List (List Dat)} {A:Option Addr} {n c:Nat} (h:aC G (.sl sz rows) (.slice A n c)):n=rows.length∧n<=c∧c<=maxLen∧(A=none->rows=[]) ∧
  (rows≠[]->∃ b o xs,A=some ⟨b,o,none⟩∧xs.length=n*sz∧(∀ j u,xs[j]?=some u->aR G b (o+j)=some u)∧xs.all Value.oneCell'=true∧dK G sz rows xs):=by
 simp only [aC] at h
 obtain ⟨A',c',h1,h2,h3,h4⟩:=h
 injection h1 with e1 e2 e3
 subst e1;subst e2;subst e3
 refine ⟨O,h2,h3,fun hn=>?_,fun hne=>?_⟩
 ·apply Classical.byContradiction
  intro hne
  obtain ⟨b,o,e,_⟩:=h4 hne
  rw [hn] at e;cases e
 ·obtain ⟨b,o,e,hr⟩:=h4 hne
  obtain ⟨xs,g1,g2,g3,g4⟩:=hr.cat
  exact ⟨b,o,xs,e,g1,g2,g3,g4⟩
theorem aC.kR {G:GH} {sz:Nat} {A:Option Addr} {n c:Nat} (h:n=0) (hc:c<=maxLen):aC G (.sl sz []) (.slice A n c):=by
 subst h
 simp only [aC]
 exact ⟨A,c,O,dU _,hc,fun h=>absurd O h⟩
theorem aC.mQ {G:GH} {e sz n b cap:Nat} {cur:Array av} {xs:List av} {rows:List (List Dat)} (hb:G b=some (.cells cur e (0,0))) (hl:rows.length=n) (hc:n<=cap) (hm:cap<=maxLen) (ht:cur.toList.take (n*sz)=xs) (nG:dK G sz rows xs) :
  aC G (.sl sz rows) (.slice (some ⟨b,0,none⟩) n cap):=by
 obtain ⟨css,h1,h2,h3⟩:=nG
 simp only [aC]
 refine ⟨_,cap,by rw [hl],V,hm,fun _=>⟨b,0,O,kr.mk fun k q hk=>?_⟩⟩
 have hkl:k < css.length:=by rw [h2];exact (iI.1 hk).1
 have hcs:css[k]?=some css[k]:=iR hkl
 obtain ⟨g1,g2⟩:=h3 k q _ hk hcs
 refine ⟨css[k],g2,fun j u hj=>?_,g1⟩
 have hjs:j < sz:=by rw [<- g2];exact (iI.1 hj).1
 have hlen:∀ (j:Nat) (cs:List av),css[j]?=some cs->cs.length=sz:=by
  intro j cs hj
  have hjl:j < rows.length:=by rw [<- h2];exact (iI.1 hj).1
  exact (h3 j _ cs (iR hjl) hj).2
 have hf:=Ob hlen hcs j hjs
 rw [<- h1,<- ht,hj] at hf
 unfold aR
 rw [hb]
 simp only
 have hlt:k*sz+j < n*sz:=by
  have:(k+1)*sz<=n*sz:=Nat.mul_le_mul_right _ V
  rw [Nat.succ_mul] at this;omega
 rw [sj,aM hlt] at hf
 simpa using hf
theorem St.ni {N:Nat} {D:List Deferred} {w0:World} {F:Nat->Prop} {G0 G:GH} {Li Lo:OL} {T:List (Nat × av)} {a:Act} {w:World} {e sz n:Nat} {v:av} {xs:List av} {rows:List (List Dat)} (H:St N D w0 F G0 G (Li++Lo) T a w)
  (hrow:bP e sz v n xs Lo) (hl:rows.length=n) (nG:dK G sz rows xs):∃ G',(∀ k o,G k=some o->G' k=some o)∧aC G' (.sl sz rows) v∧St N D w0 F G0 G' Li T a w:=by
 rcases hrow.2 with ⟨rfl,h2,rfl⟩|⟨b,cap,cur,rfl,rfl,h3,h4,h5,h6⟩
 ·refine ⟨G,fun _ _ h=>h,?_,by simpa using H⟩
  have:rows=[]:=List.eq_nil_of_length_eq_zero V
  subst this
  simp only [aC]
  exact ⟨none,0,by simp,by simp,by simp [maxLen],fun h=>absurd O h⟩
 ·have hi:(Li++[(b,Obj.cells cur e (0,0))])[Li.length]?=some (b,.cells cur e (0,0)):=by simp
  have hn:=H.Ol _ hi
  have hm:∀ k o,G k=some o->(G.add b (.cells cur e (0,0))) k=some o:=fun k o h=>GH.GA G hn k o h
  refine ⟨_,hm,aC.mQ (GH.Mh G b _) hl h3 h4 h6 (nG.mono hm),?_⟩
  have:=H.giveUp _ hi
  rwa [List.eraseIdx_append_of_length_le (bD _),Nat.sub_self,List.eraseIdx_zero,List.tail_cons,mg] at this
theorem St.jd {N:Nat} {D:List Deferred} {w0:World} {F:Nat->Prop} {G0 G:GH} {L:OL} {T:List (Nat × av)} {a:Act} {w:World} {b:Nat} {o:Obj} (H:St N D w0 F G0 G ((b,o) :: L) T a w) :
  ∃ G',(∀ k o,G k=some o->G' k=some o)∧G' b=some o∧St N D w0 F G0 G' L T a w :=
 ⟨G.add b o,GH.GA G (H.Ol 0 rfl),GH.Mh G b o,H.giveUp 0 rfl⟩
theorem St.lQ {N:Nat} {D:List Deferred} {w0:World} {F:Nat->Prop} {G0 G:GH} {L:OL} {T:List (Nat × av)} {a:Act} {w:World} {b e sz:Nat} {cs:List av} {d:List Dat} (H:St N D w0 F G0 G ((b,.cells cs.toArray e (0,0)) :: L) T a w) (hl:cs.length=sz) (hr:aZ G d cs) :
  ∃ G',(∀ k o,G k=some o->G' k=some o)∧aC G' (.sl sz [d]) (.slice (some ⟨b,0,none⟩) 1 1)∧St N D w0 F G0 G' L T a w:=by
 obtain ⟨G',hm,hb,H⟩:=H.jd
 exact ⟨G',hm,aC.mQ (xs:=cs) hb O (bD _) Y (by simp [<- hl]) (by simpa using (dK.nil (sz:=sz)).snoc (hr.mono hm) hl),H⟩
structure Now {α:Type} (xs:List AP) (P:α->AP) (J:Nat->GH->OL->Prop) (je j:Nat) (A:List α) (g:GH) (L:OL):Prop where
 now:J j g L
 rem:∀ i a,A[i]?=some a->xs[j+i]?=some (P a)
 len:j+A.length=je
theorem Now.head {α:Type} {xs:List AP} {P:α->AP} {J:Nat->GH->OL->Prop} {je j:Nat} {x:α} {A:List α} {g:GH} {L:OL} (h:Now xs P J je j (x :: A) g L):xs[j]?=some (P x):=h.rem 0 x O
theorem Now.step {α:Type} {xs:List AP} {P:α->AP} {J:Nat->GH->OL->Prop} {je j:Nat} {x:α} {A:List α} {g g':GH} {L L':OL} (h:Now xs P J je j (x :: A) g L) (hJ:J (j+1) g' L'):Now xs P J je (j+1) A g' L' :=
 ⟨hJ,fun i a hi=>by rw [show j+1+i=j+(i+1) by omega];exact h.rem (i+1) a (by simpa using hi),by have:=h.len;simp only [kI] at this;omega⟩
theorem Hp.yx {R:av->GH->OL->Prop} {v:av} {w0 w:World} {G0 G:GH} {L0 L L':OL} (h:Hp w0 (Fr w0 L0) G0 G L w) (hs:L'.Sublist L) (hR:R v G L'):jT w0 G0 L0 R (.returned v) w:=(h.drop hs).dO hR
section
variable {N:Nat} {D:List Deferred} {w0:World} {F:Nat->Prop} {G0 G:GH} {L Li Lo:OL} {T:List (Nat × av)}
variable {r:Option Nat} {P:Program} {ops:Array Oper} {Q:Exit->Act->World->Prop} {rest:List Oper} {a:Act} {w:World}
variable {d:Nat} {ty:TypeId} {pos:String} {aG:Array Edge} {g:Option (Nat × Bool)}
theorem Qz {t e:TypeId} {sz bytes:Nat} {zero:List av} {agg:Bool} (hs:P.underlying t=some (.slice e)) (ht:Ty P e sz bytes zero agg) (hz:Nat.beq zero.length sz=true) (hsz:Nat.blt 0 sz=true) {x y:Operand} {v:av} {n m c:Nat} {A:Option Addr} {xs:List av} {rows:List (List Dat)} (H:St N D w0 F G0 G (Li++Lo) T a w)
  (hw:Region.wanted ⟨some d,.call { callee:=.builtin .append,args:=#[x,y],argTypes:=#[t,t] },ty,pos,aG,g⟩ (yielded ops a.tmps)=true) (hx:ev T x=some v) (hy:ev T y=some (.slice A m c)) (hrow:bP e sz v n xs Lo)
  (hrep:aC G (.sl sz rows) (.slice A m c)) (h63:n+m<=maxLen) (hb:(n+m)*bytes<=140737488355328) (hd:Nat.blt d N=true)
  (k:∀ v' kG news a' w',bP e sz v' (n+m) (xs++news) kG->dK G sz rows news->St N D w0 F G0 G (Li++kG) ((d,v') :: T) a' w'->WL r P ops Q rest a' w') :
  WL r P ops Q (⟨some d,.call { callee:=.builtin .append,args:=#[x,y],argTypes:=#[t,t] },ty,pos,aG,g⟩ :: rest) a w:=by
 obtain ⟨hn,hc1,hc2,hnil,Zg⟩:=hrep.cells
 by_cases hr0:rows=[]
 ·have hm0:m=0:=by rw [hn,hr0];rfl
  subst hm0
  obtain ⟨A',c',rfl,h1,h2⟩:=hrow.shape
  refine aaB hs ht H hw hx hy h1 hd fun a' H'=>?_
  exact k _ Lo [] a' w (by simpa using hrow) (by rw [hr0];exact dK.nil) H'
 ·obtain ⟨b,o,news,rfl,hxl,hxc,hx1,nG⟩:=Zg hr0
  exact eD hs ht hz hsz H hw hx hy hrow hxl (fun j u hj=>H.hp.aR (hxc j u hj)) hx1 h63 hb hd fun v' kG a' w' hr' H'=>k v' kG news a' w' hr' nG H'
theorem J8 {t e:TypeId} {sz bytes:Nat} {zero:List av} {agg:Bool} (hs:P.underlying t=some (.slice e)) (ht:Ty P e sz bytes zero agg) {x y z:Operand} {A:Option Addr} {n c:Nat} (lo hi:Nat) {p q:Int} (H:St N D w0 F G0 G L T a w)
  (hw:Region.wanted ⟨some d,.slice t x (some y) (some z) none,ty,pos,aG,g⟩ (yielded ops a.tmps)=true) (hx:ev T x=some (.slice A n c)) (hy:ev T y=some (.int .i64 p)) (hz:ev T z=some (.int .i64 q)) (hp:p=(lo:Int)) (hq:q=(hi:Int)) (h1:lo<=hi) (h2:hi<=c) (hd:Nat.blt d N=true)
  (k:∀ a',St N D w0 F G0 G L ((d,.slice (if c=lo then A else A.map (·.add (lo*sz))) (hi - lo) (c - lo)) :: T) a' w->WL r P ops Q rest a' w):WL r P ops Q (⟨some d,.slice t x (some y) (some z) none,ty,pos,aG,g⟩ :: rest) a w:=by
 subst hp;subst hq
 refine dQ (v:=.slice (if c=lo then A else A.map (·.add (lo*sz))) (hi - lo) (c - lo)) (w':=w) hw O ?_ (k _ (H.put hd _ H.hp))
 simp [execOp,H.ev hx,H.ev hy,H.ev hz,Instr.sliceAt,Instr.slice,Instr.sliceBounds,Instr.sliceBound,bZ,lq hs,ht.uK,asIntOf,h1,h2]
end
theorem aC.part {G:GH} {sz:Nat} {rows:List (List Dat)} {A:Option Addr} {n c:Nat} (h:aC G (.sl sz rows) (.slice A n c)) (lo hi:Nat) (h1:lo<=hi) (h2:hi<=rows.length) :
  aC G (.sl sz ((rows.drop lo).take (hi - lo))) (.slice (if c=lo then A else A.map (·.add (lo*sz))) (hi - lo) (c - lo)):=by
 obtain ⟨A',c',he,hc1,hc2,hg⟩:=h.slice
 injection he with e1 e2 e3
 subst e1;subst e3
 have hl:((rows.drop lo).take (hi - lo)).length=hi - lo:=by simp;omega
 simp only [aC]
 refine ⟨_,_,by rw [hl],by rw [hl];omega,V,fun hn=>?_⟩
 have hlt:lo < hi:=by
  rcases Nat.lt_or_ge lo hi with h|h
  ·exact h
  ·exact absurd (List.eq_nil_of_length_eq_zero (by rw [hl];omega)) hn
 obtain ⟨b,o,cs,hA,-⟩:=hg lo rows[lo] (by simp)
 subst hA
 refine ⟨b,o+lo*sz,by rw [aJ V,oM,add_lit],kr.mk fun k r hk=>?_⟩
 rw [sj] at hk
 split at hk
 ·rw [List.getElem?_drop] at hk
  obtain ⟨b',o',cs,hA,g1,g2,g3⟩:=hg (lo+k) r hk
  obtain ⟨rfl,rfl⟩:b=b'∧o=o':=by simpa using hA
  exact ⟨cs,g1,fun j u hj=>by rw [<- g2 j u hj];congr 1;rw [Nat.add_mul];omega,g3⟩
 ·cases hk
theorem dK.append {G:GH} {sz:Nat} {r1 r2:List (List Dat)} {x1 x2:List av} (h1:dK G sz r1 x1) (h2:dK G sz r2 x2):dK G sz (r1++r2) (x1++x2):=by
 obtain ⟨c1,rfl,e1,f1⟩:=h1
 obtain ⟨c2,rfl,e2,f2⟩:=h2
 refine ⟨c1++c2,by simp,by simp [e1,e2],fun j r cs hr hc=>?_⟩
 by_cases hj:j < r1.length
 ·exact f1 j r cs (by rwa [vZ hj] at hr) (by rwa [vZ V] at hc)
 ·exact f2 (j - r1.length) r cs (by rwa [xK V] at hr) (by rwa [xK V,e1] at hc)
end
section
section
variable {N:Nat} {D:List Deferred} {w0:World} {F:Nat->Prop} {G0 G G1 G2:GH} {L L1 L2:OL} {T Xs:List (Nat × av)}
variable {r:Option Nat} {P:Program} {Q:Exit->Act->World->Prop} {l:List Oper} {a a':Act} {w w':World}
theorem Ai {x y:Nat} (h:x≠y):Nat.beq x y=false:=by
 cases h':Nat.beq x y with
 | false=>rfl
 | true=>exact absurd (uW h') h
theorem Ao {i e:Nat} (h:dY l i=some e):i < l.length:=by
 unfold dY at h
 by_cases hl:i < l.length
 ·exact hl
 ·rw [List.getElem?_eq_none V] at h;cases h
theorem qR (A B C D':OL):(A++(B++(C++D'))).Perm ((A++(B++D'))++C):=by
 rw [nR A,nR B]
 exact List.Perm.append_left A (List.Perm.append_left B List.perm_append_comm)
theorem QO:∀ (vs c:List av) (o:Nat),o+vs.length<=c.length->setRow c o vs=c.take o++vs++c.drop (o+vs.length)
 | [],c,o,_=>by simp [setRow]
 | v :: vs,c,o,h=>by
  simp only [kI] at h
  rw [setRow,QO vs (c.set o v) (o+1) (by simp;omega),List.take_set,List.drop_set,aM V,lZ V]
  have e:((c.take o++[c[o]]).set o v)=c.take o++[v]:=by
   have hl:(c.take o).length=o:=by simp;omega
   rw [List.set_append,aJ V,hl,Nat.sub_self];rfl
  rw [e,kI,show o+1+vs.length=o+(vs.length+1) by omega]
  simp
theorem St.weak (h:St N D w0 F G0 G L Xs a w) (hs:∀ t v,lk T t=some v->lk Xs t=some v):St N D w0 F G0 G L T a w:=⟨h.jv,fun t v ht=>h.get t v (hs t v ht),h.mJ,h.hp⟩
end
end
section
structure zZ (P:Program) (t:TypeId):Prop where
 h:(P.info? t).map (fun j=>j.size == 0)=some false
theorem zZ.parts {P:Program} {t:TypeId} (h:zZ P t):∃ j,P.info? t=some j∧j.size≠0:=by
 obtain ⟨j,h1,h2⟩:=mG.1 h.h
 exact ⟨j,h1,by simpa using h2⟩
structure U8 (P:Program) (e:TypeId):Prop where
 h:(P.info? e).map (fun i=>(i.zero,i.size,i.bytes))=some (some (.int .u8 0),1,1)
section
variable {N:Nat} {D:List Deferred} {w0:World} {F:Nat->Prop} {G0 G:GH} {L Li Lo:OL} {T:List (Nat × av)}
variable {r:Option Nat} {P:Program} {ops:Array Oper} {Q:Exit->Act->World->Prop} {rest:List Oper} {a:Act} {w:World}
variable {d:Nat} {ty:TypeId} {pos:String} {aG:Array Edge} {g:Option (Nat × Bool)}
theorem Hp.shape (h:Hp w0 F G0 G L w) {i b:Nat} {c:Array av} {e:TypeId} {fz:Nat × Nat} (hi:L[i]?=some (b,.cells c e fz)):w.shape? b=some (e,c.size):=by
 have:=h.own _ (jK hi)
 simp only at this
 simp [World.shape?,this]
theorem abe {t u te e:TypeId} {x:Operand} {b o:Nat} {c:Array av} {fz:Nat × Nat} (hs:P.underlying t=some (.pointer te)) (hu:P.underlying u=some .unsafePointer) (hj:zZ P te) (H:St N D w0 F G0 G L T a w) (hw:Region.wanted ⟨some d,.convert t u x,ty,pos,aG,g⟩ (yielded ops a.tmps)=true)
  (hx:ev T x=some (.pointer (some ⟨b,o,none⟩))) (i:Nat) (hi:L[i]?=some (b,.cells c e fz)) (ho:Nat.blt o c.size=true) (hd:Nat.blt d N=true)
  (k:∀ a',St N D w0 F G0 G L ((d,.pointer (some ⟨b,o,none⟩)) :: T) a' w->WL r P ops Q rest a' w):WL r P ops Q (⟨some d,.convert t u x,ty,pos,aG,g⟩ :: rest) a w:=by
 obtain ⟨j,h1,h2⟩:=hj.parts
 refine dQ (v:=.pointer (some ⟨b,o,none⟩)) (w':=w) hw O ?_ (k _ (H.put hd _ H.hp))
 have h:=Lib.run_to_unsafe (P:=P) w ⟨b,o,none⟩ hs hu h1 h2 (H.hp.shape hi) (Eq.mp Nat.blt_eq ho)
 simp only [execOp,H.ev hx,bZ,h,iX,kJ]
theorem aaH {t u te e:TypeId} {x:Operand} {b o:Nat} {c:Array av} {fz:Nat × Nat} (hs:P.underlying t=some .unsafePointer) (hu:P.underlying u=some (.pointer te)) (hj:zZ P te) (H:St N D w0 F G0 G L T a w) (hw:Region.wanted ⟨some d,.convert t u x,ty,pos,aG,g⟩ (yielded ops a.tmps)=true)
  (hx:ev T x=some (.pointer (some ⟨b,o,none⟩))) (i:Nat) (hi:L[i]?=some (b,.cells c e fz)) (hl:liesAt P P.depth e (c.size / P.cellsOf e) o te 1=true) (hd:Nat.blt d N=true)
  (k:∀ a',St N D w0 F G0 G L ((d,.pointer (some ⟨b,o,none⟩)) :: T) a' w->WL r P ops Q rest a' w):WL r P ops Q (⟨some d,.convert t u x,ty,pos,aG,g⟩ :: rest) a w:=by
 obtain ⟨j,h1,h2⟩:=hj.parts
 refine dQ (v:=.pointer (some ⟨b,o,none⟩)) (w':=w) hw O ?_ (k _ (H.put hd _ H.hp))
 have h:=Lib.run_from_unsafe (P:=P) w ⟨b,o,none⟩ hs hu h1 (H.hp.shape hi) hl
 simp only [execOp,H.ev hx,bZ,h,iX,kJ]
theorem aaR {f:FuncId} {xs:List Operand} {v:av} {ts:Array TypeId} (hcf:∀ (w:World),(callFunc f #[v]).run P w=.ok (.value v) w) (H:St N D w0 F G0 G L T a w) (hw:Region.wanted ⟨some d,.call { callee:=.value (.func f),args:=xs.toArray,argTypes:=ts },ty,pos,aG,g⟩ (yielded ops a.tmps)=true)
  (hx:evs T xs=some [v]) (hd:Nat.blt d N=true)
  (k:∀ a',St N D w0 F G0 G L ((d,v) :: T) a' w->WL r P ops Q rest a' w):WL r P ops Q (⟨some d,.call { callee:=.value (.func f),args:=xs.toArray,argTypes:=ts },ty,pos,aG,g⟩ :: rest) a w:=by
 refine dQ (v:=v) (w':=w) hw O ?_ (k _ (H.put hd _ H.hp))
 have h1:=H.evs hx
 simp [execOp,resolve,Act.eval,Deferred.ofValue,invoke,bZ,h1,hcf]
theorem aas {f:FuncId} {fn:Func} (hf:P.funcs[f]?=some fn) (hname:(fn.name == "runtime.NumGoroutine")=false) (hb:fn.body.isNone=true) (hn:Extern.findNext fn=none) (he:Extern.find fn=some Extern.AbiNoEscape.same) (v:av) (w:World):(callFunc f #[v]).run P w=.ok (.value v) w:=by
 rw [run_callFunc_extern hf hname hb hn he,Lib.run_noEscape]
 rfl
theorem QD {t u te:TypeId} (hs:P.underlying t=some (.pointer te)) {x:Operand} {p:Option Addr} (H:St N D w0 F G0 G L T a w) (hw:Region.wanted ⟨some d,.binOp .eql t x (.const (.pointer none)) u,ty,pos,aG,g⟩ (yielded ops a.tmps)=true) (hx:ev T x=some (.pointer p)) (hd:Nat.blt d N=true)
  (k:∀ a',St N D w0 F G0 G L ((d,.bool p.isNone) :: T) a' w->WL r P ops Q rest a' w):WL r P ops Q (⟨some d,.binOp .eql t x (.const (.pointer none)) u,ty,pos,aG,g⟩ :: rest) a w:=by
 refine dQ (v:=.bool p.isNone) (w':=w) hw O ?_ (k _ (H.put hd _ H.hp))
 have h1:(Op.equal t (.pointer p) (.pointer none)).run P w=.ok p.isNone w:=by
  show (Op.equalIn (9999+1) t (.pointer p) (.pointer none)).run P w=_
  rw [Op.equalIn.eq_2,bZ,lq hs]
  cases p <;> simp
 have h2:(do eqGuard .eql t x (.const (.pointer none)) (.pointer p) (.pointer none);binOp .eql t (.pointer p) (.pointer none):Sem av).run P w=.ok (.bool p.isNone) w:=by
  have e:(do eqGuard .eql t x (.const (.pointer none)) (.pointer p) (.pointer none);binOp .eql t (.pointer p) (.pointer none):Sem av)=(do pure (.bool (<- Op.equal t (.pointer p) (.pointer none))):Sem av):=rfl
  rw [e,bZ,h1];rfl
 have e0:execOp a.eval ⟨some d,.binOp .eql t x (.const (.pointer none)) u,ty,pos,aG,g⟩=(do pure (.value (<- (do eqGuard .eql t x (.const (.pointer none)) (.pointer p) (.pointer none);binOp .eql t (.pointer p) (.pointer none):Sem av))):Sem Next):=by
  simp only [execOp,H.ev hx];rfl
 rw [e0,bZ,h2]
 rfl
theorem aaO {t u te:TypeId} (hs:P.underlying t=some (.pointer te)) (hj:zZ P te) {x y:Operand} {p:Addr} (H:St N D w0 F G0 G L T a w) (hw:Region.wanted ⟨some d,.binOp .neq t x y u,ty,pos,aG,g⟩ (yielded ops a.tmps)=true) (hx:ev T x=some (.pointer (some p))) (hy:ev T y=some (.pointer (some p))) (hd:Nat.blt d N=true)
  (k:∀ a',St N D w0 F G0 G L ((d,.bool false) :: T) a' w->WL r P ops Q rest a' w):WL r P ops Q (⟨some d,.binOp .neq t x y u,ty,pos,aG,g⟩ :: rest) a w:=by
 obtain ⟨j,h1,h2⟩:=hj.parts
 refine dQ (v:=.bool false) (w':=w) hw O ?_ (k _ (H.put hd _ H.hp))
 have h:=Lib.run_neq_ptr_same (P:=P) (w:=w) p hs h1
 simp only [execOp,H.ev hx,H.ev hy]
 simp [bZ,eqGuard,h]
theorem aaC {t u e:TypeId} (hs:P.underlying t=some (.slice e)) (hu:P.underlying u=some .string) (ht:U8 P e) {x y:Operand} {v:av} {n:Nat} {xs:List av} {s:ByteArray} (H:St N D w0 F G0 G (Li++Lo) T a w)
  (hw:Region.wanted ⟨some d,.call { callee:=.builtin .append,args:=#[x,y],argTypes:=#[t,u] },ty,pos,aG,g⟩ (yielded ops a.tmps)=true) (hx:ev T x=some v) (hy:ev T y=some (.string s)) (hrow:bP e 1 v n xs Lo)
  (h63:n+s.size<=140737488355328) (hd:Nat.blt d N=true)
  (k:∀ v' kG a' w',bP e 1 v' (n+s.size) (xs++Lib.strCells s) kG->(v=.slice none 0 0->s.size=0->v'=.slice none 0 0)->St N D w0 F G0 G (Li++kG) ((d,v') :: T) a' w'->WL r P ops Q rest a' w') :
  WL r P ops Q (⟨some d,.call { callee:=.builtin .append,args:=#[x,y],argTypes:=#[t,u] },ty,pos,aG,g⟩ :: rest) a w:=by
 obtain ⟨i,hi,hz⟩:=mG.1 ht.h
 simp only [fP] at hz
 have hown:=hrow.owns H.hp
 obtain ⟨v',w2,hrun,r1,r2,r3⟩:=Lib.run_append_own_string (P:=P) (w:=w) 0 t u ty e i hs hu hi hz.1 hz.2.1 hz.2.2 v n xs hown s (by simp only [maxLen];omega) h63 (dU _)
 have hxl:xs.length=n:=by simpa using hrow.1
 have hb:v'.ownBlock=v.ownBlock∨v'.ownBlock=some w.heap.size:=by
  rcases hown.2 with ⟨hv,hn⟩|⟨g,cap,cur,hv,_,hg,hnc,hcm,hcs,_⟩
  ·subst hv
   by_cases hm:s.size=0
   ·left;rw [r3.2 ⟨O,hm⟩]
   ·right
    have hr:=run_append_nil_string (P:=P) w t u ty e i (.int .u8 0) hs hu hi hz.1 s V V (by rw [hz.2.2];omega)
    rw [hrun] at hr
    injection hr with h1 h2
    rw [h1];rfl
  ·subst hv
   by_cases hroom:n+s.size<=cap
   ·left
    have hcs':cur.size=cap:=by simpa using hcs
    have hr:=Lib.run_append_room_string (P:=P) (w:=w) t u ty e i hs hu hi hz.2.1 g n cap cur hg s hroom V
    rw [hrun] at hr
    injection hr with h1 h2
    rw [h1];rfl
   ·right
    have holds:∀ j u,xs[j]?=some u->w.cell? ((⟨g,0,none⟩:Addr).add j)=some u:=hown.cells (g:=g) O
    have hr:=Lib.run_append_grow_string (P:=P) (w:=w) t u ty e i (.int .u8 0) hs hu hi hz.1 ⟨g,0,none⟩ n cap xs (by rw [hz.2.1];simpa using hxl) holds s V V (by rw [hz.2.2];exact growslice_fits V V)
    rw [hrun] at hr
    injection hr with h1 h2
    rw [h1];rfl
 obtain ⟨kG,hr,hch⟩:=MU hrow H.hp.owns r1 r2 hb
 refine dQ (v:=v') (w':=w2) hw O ?_ (k v' kG _ w2 hr (fun h1 h2=>r3.2 ⟨h1,h2⟩) (H.put hd v' (H.hp.change hch)))
 simp [execOp,resolve,invoke,builtin,H.ev hx,H.ev hy,bZ,hrun]
theorem aaX {t:TypeId} {x:Operand} {p:Addr} {n c:Nat} (H:St N D w0 F G0 G L T a w) (hw:Region.wanted ⟨some d,.call { callee:=.builtin .unsafeSliceData,args:=#[x],argTypes:=#[t] },ty,pos,aG,g⟩ (yielded ops a.tmps)=true) (hx:ev T x=some (.slice (some p) n c)) (hc:c≠0) (hd:Nat.blt d N=true)
  (k:∀ a',St N D w0 F G0 G L ((d,.pointer (some p)) :: T) a' w->WL r P ops Q rest a' w):WL r P ops Q (⟨some d,.call { callee:=.builtin .unsafeSliceData,args:=#[x],argTypes:=#[t] },ty,pos,aG,g⟩ :: rest) a w:=by
 refine dQ (v:=.pointer (some p)) (w':=w) hw O ?_ (k _ (H.put hd _ H.hp))
 have h:=Lib.run_unsafeSliceData_row (P:=P) (w:=w) #[t] ty p n c hc
 simp [execOp,resolve,invoke,builtin,H.ev hx,bZ,h]
theorem acF {w:World} {b n:Nat} {c:Array av} {e:TypeId} {fz:Nat × Nat} (h:w.heap[b]?=some (.cells c e fz)) (hn:n≠0):∃ CB,pQ b (.cells c e CB) w (w.freeze ⟨b,0,none⟩ n):=by
 unfold World.freeze
 rw [aJ hn]
 refine ⟨if fz.1 == fz.2 then (0,0+n) else (min fz.1 0,max fz.2 (0+n)),O,O,O,by simp,?_,fun k hk=>?_⟩
 ·simp [Array.getElem?_modify,h]
 ·simp [Array.getElem?_modify,Ne.symm hk]
theorem QL {pt it e:TypeId} {x y:Operand} {b i:Nat} {cur:Array av} {fz:Nat × Nat} (l:List UInt8) (hp:P.underlying pt=some (.pointer e)) (hc:P.cellsOf e=1) (h0:l≠[]) (h63:l.length<=9223372036854775807) (H:St N D w0 F G0 G L T a w)
  (hw:Region.wanted ⟨some d,.call { callee:=.builtin .unsafeString,args:=#[x,y],argTypes:=#[pt,it] },ty,pos,aG,g⟩ (yielded ops a.tmps)=true) (hx:ev T x=some (.pointer (some ⟨b,0,none⟩))) (hy:ev T y=some (.int .i64 (l.length:Int)))
  (hi:L[i]?=some (b,.cells cur e fz)) (hl:cur.toList.take l.length=Lib.byteCells l) (hd:Nat.blt d N=true)
  (k:∀ CB a' w',St N D w0 F G0 G (L.set i (b,.cells cur e CB)) ((d,.string ⟨l.toArray⟩) :: T) a' w'->WL r P ops Q rest a' w'):WL r P ops Q (⟨some d,.call { callee:=.builtin .unsafeString,args:=#[x,y],argTypes:=#[pt,it] },ty,pos,aG,g⟩ :: rest) a w:=by
 have hb:=H.hp.own _ (jK hi)
 simp only at hb
 have hlen:l.length<=cur.size:=by
  have:=jD List.length hl
  simp only [List.length_take,Lib.byteCells_length,Array.length_toList] at this
  omega
 obtain ⟨CB,hu⟩:=acF (n:=l.length) hb (by simpa using h0)
 have h:=Lib.run_unsafeString_row (P:=P) w pt it ty e hp hc b cur.size (H.hp.shape hi) l h0 hlen h63 (fun j x hj=>by
  rw [add_lit,fC]
  simp only [World.cell?,hb]
  have h2:(cur.toList.take l.length)[j]?=some (.int .u8 x.toNat):=by rw [hl];simp [Lib.byteCells,hj]
  rw [sj] at h2
  split at h2
  ·simpa using h2
  ·cases h2)
 refine dQ (v:=.string ⟨l.toArray⟩) (w':=w.freeze ⟨b,0,none⟩ l.length) hw O ?_ (k CB _ _ (H.put hd _ (H.hp.upd hi hu)))
 simp [execOp,resolve,invoke,builtin,H.ev hx,H.ev hy,bZ,h]
theorem N7 (sz n:Nat):∀ (css:List (List av)) (k:Nat) (pre z:List av),pre.length=k*sz->z.length=css.length*sz->(∀ c∈css,c.length=sz)->k+css.length=n ->
  um ((List.range n).map fun i=>(i*sz,sz)) (pre++z) ((css.zipIdx k).map fun p=>(p.2,p.1))=some (pre++css.flatten)
 | [],k,pre,z,_,hz,_,_=>by
  have:z=[]:=List.eq_nil_of_length_eq_zero (by simpa using hz)
  subst this
  simp [um]
 | c :: css,k,pre,z,hp,hz,hc,hn=>by
  have hcl:=hc c qH
  simp only [kI] at hz hn
  have hpl:((List.range n).map fun i=>(i*sz,sz))[k]?=some (k*sz,sz):=by
   rw [qG,List.getElem?_range V];rfl
  have hz1:z.length=sz+css.length*sz:=by rw [hz,Nat.add_mul,Nat.one_mul,Nat.add_comm]
  have hle:k*sz+c.length<=(pre++z).length:=by rw [iK,hp,hcl];omega
  have e1:Nat.beq c.length sz=true:=by rw [hcl];exact Nat.beq_refl sz
  have e2:Nat.ble (k*sz+c.length) (pre++z).length=true:=Eq.mpr Nat.ble_eq hle
  rw [List.zipIdx_cons,iT]
  simp only [um,hpl,e1,e2,Bool.and_self,cond_true]
  have e3:setRow (pre++z) (k*sz) c=(pre++c)++z.drop sz:=by
   rw [QO _ _ _ hle,<- hp,List.take_left' O,List.drop_append,List.drop_of_length_le V,xJ,hcl]
   congr 2;omega
  rw [e3,N7 sz n css (k+1) (pre++c) (z.drop sz) (by rw [iK,hp,hcl,Nat.succ_mul]) (by rw [List.length_drop];omega) (fun q hq=>hc q (List.mem_cons_of_mem _ hq)) V]
  simp
theorem zK {t e:TypeId} {sz bytes:Nat} {zero:List av} {agg:Bool} (hs:P.underlying t=some (.slice e)) (ht:Ty P e sz bytes zero agg) {n:Nat} {xs:List (Nat × Operand)} {vs:List (Nat × av)} (css:List (List av)) (H:St N D w0 F G0 G L T a w) (hw:Region.wanted ⟨some d,.buildSlice t n xs.toArray,ty,pos,aG,g⟩ (yielded ops a.tmps)=true)
  (hx:pts T xs=some vs) (hv:vs.map (fun x=>(x.1,x.2.cells.toList))=(css.zipIdx 0).map fun p=>(p.2,p.1)) (hl:css.all (fun c=>Nat.beq c.length sz)=true) (hcn:Nat.beq css.length n=true) (hn:Nat.ble (n*sz) 1000=true) (hn0:Nat.beq (n*sz) 0=false) (hd:Nat.blt d N=true)
  (k:∀ b a' w',w0.heap.size<=b->St N D w0 F G0 G ((b,.cells css.flatten.toArray e (0,0)) :: L) ((d,.slice (some ⟨b,0,none⟩) n n) :: T) a' w'->WL r P ops Q rest a' w'):WL r P ops Q (⟨some d,.buildSlice t n xs.toArray,ty,pos,aG,g⟩ :: rest) a w:=by
 have hcn':css.length=n:=uW hcn
 refine eU (vs':=(css.zipIdx 0).map fun p=>(p.2,p.1)) hs ht ((List.range (n*sz)).map (fun i=>zero[i % zero.length]!)) css.flatten H hw hx hv hn hn0 O (fun i q h=>?_) ?_ hd k
 ·rw [qG] at h
  obtain ⟨j,hj,rfl⟩:=mG.1 h
  obtain ⟨h1,h2⟩:=iI.1 hj
  rw [List.getElem_range] at h2
  rw [h2]
 ·have h:=N7 sz n css 0 [] ((List.range (n*sz)).map (fun i=>zero[i % zero.length]!)) (by simp) (by simp [hcn']) (fun c hc=>uW (gq.1 hl c hc)) V
  simpa using h
end
end
section
structure Gy (P:Program) (s n off:Nat):Prop where
 h:(match P.underlying s with|some (.struct fs)=>(fs[n]?).bind fun f=>((P.underlying f.type).map (fun|.struct _=>true|.array _ _=>true|_=>false)).map fun g=>(f.offset,g)|_=>none)=some (off,false)
theorem Gy.parts {P:Program} {s n off:Nat} (h:Gy P s n off):∃ fs fl u,P.underlying s=some (.struct fs)∧fs[n]?=some fl∧P.underlying fl.type=some u∧(match u with|.struct _=>true|.array _ _=>true|_=>false)=false∧fl.offset=off:=by
 obtain ⟨h⟩:=h
 split at h
 ·rename_i fs hs
  obtain ⟨fl,hf,h2⟩:=Option.bind_eq_some_iff.1 h
  obtain ⟨b,hb,h3⟩:=mG.1 h2
  obtain ⟨u,hu,h4⟩:=mG.1 hb
  simp only [fP] at h3
  refine ⟨fs,fl,u,hs,hf,hu,?_,h3.1⟩
  rw [<- h3.2,<- h4]
  cases u <;> rfl
 ·cases h
def wP (s:ByteArray) (p:Nat):List av:=if p < s.size then [.bool true,.int .i64 p,.int .i32 (Utf8.decode s p).1] else [.bool false]
def Bg (s:ByteArray) (p:Nat):Nat:=if p < s.size then p+(Utf8.decode s p).2 else p
theorem ZM {s:ByteArray} {p:Nat}:(wP s p)[0]?=some (.bool (decide (p < s.size))):=by
 unfold wP;split <;> simp_all
theorem PZ {s:ByteArray} {p:Nat} (h:p < s.size):wP s p=[.bool true,.int .i64 p,.int .i32 (Utf8.decode s p).1]:=aM h
theorem PY {s:ByteArray} {p:Nat} (h:p < s.size):Bg s p=p+(Utf8.decode s p).2:=aM h
theorem U2 (s:ByteArray) (p:Nat):1<=(Utf8.decode s p).2:=by
 simp only [Utf8.decode]
 repeat' split
 all_goals simp
def jP (s:ByteArray):Nat->Nat->List (Nat × Nat)
 | 0,_=>[]
 | f+1,p=>if p < s.size then (p,(Utf8.decode s p).1) :: jP s f (p+(Utf8.decode s p).2) else []
def gD (s:ByteArray):List (Nat × Nat):=jP s s.size 0
theorem Bh (s:ByteArray):∀ f p,(jP s f p).length<=f
 | 0,_=>by simp [jP]
 | f+1,p=>by
  rw [jP];split
  ·rw [kI];have:=Bh s f (p+(Utf8.decode s p).2);omega
  ·simp
theorem Qx (s:ByteArray):∀ f p acc,Conv.runesFrom s f p acc=acc++((jP s f p).map fun x=>Value.int .i32 (x.2:Int)).toArray
 | 0,p,acc=>by simp [Conv.runesFrom,jP]
 | f+1,p,acc=>by
  rw [Conv.runesFrom,jP]
  split
  ·show Conv.runesFrom s f (p+(Utf8.decode s p).2) (acc.push (.int .i32 (Int.ofNat (Utf8.decode s p).1)))=_
   rw [Qx s f];simp
  ·simp
section
variable {N:Nat} {D:List Deferred} {w0:World} {F:Nat->Prop} {G0 G:GH} {L Li Lo:OL} {T:List (Nat × av)}
variable {r:Option Nat} {P:Program} {ops:Array Oper} {Q:Exit->Act->World->Prop} {rest:List Oper} {a:Act} {w:World}
variable {d:Nat} {ty:TypeId} {pos:String} {aG:Array Edge} {g:Option (Nat × Bool)}
theorem zN {t yt:TypeId} {x y:Operand} {p q:Int} (z:Int) (H:St N D w0 F G0 G L T a w) (hw:Region.wanted ⟨some d,.binOp .rem t x y yt,ty,pos,aG,g⟩ (yielded ops a.tmps)=true) (hx:ev T x=some (.int .i64 p)) (hy:ev T y=some (.int .i64 q)) (hq:¬ q=0) (hz:p.tmod q=z) (hd:Nat.blt d N=true)
  (k:∀ a',St N D w0 F G0 G L ((d,.int .i64 z) :: T) a' w->WL r P ops Q rest a' w):WL r P ops Q (⟨some d,.binOp .rem t x y yt,ty,pos,aG,g⟩ :: rest) a w:=by
 subst hz
 refine dQ (v:=.int .i64 (p.tmod q)) (w':=w) hw O ?_ (k _ (H.put hd _ H.hp))
 simp [execOp,H.ev hx,H.ev hy,eqGuard,binOp,Op.intDiv,hq]
theorem abg {s:TypeId} {x:Operand} {n off:Nat} {cs:Array av} {v:av} (hs:Gy P s n off) (H:St N D w0 F G0 G L T a w) (hw:Region.wanted ⟨some d,.field s x n,ty,pos,aG,g⟩ (yielded ops a.tmps)=true) (hx:ev T x=some (.agg cs)) (hv:cs[off]?=some v) (hd:Nat.blt d N=true)
  (k:∀ a',St N D w0 F G0 G L ((d,v) :: T) a' w->WL r P ops Q rest a' w):WL r P ops Q (⟨some d,.field s x n,ty,pos,aG,g⟩ :: rest) a w:=by
 obtain ⟨fs,fl,u,h1,h2,h3,h4,h5⟩:=hs.parts
 have ha:(isAgg fl.type).run P w=.ok false w:=by
  unfold isAgg
  simp only [bZ,lq h3,iX]
  cases u <;> simp_all
 refine dQ (v:=v) (w':=w) hw O ?_ (k _ (H.put hd _ H.hp))
 subst h5
 simp [execOp,Instr.field,part,asAgg,bZ,H.ev hx,lq h1,h2,ha,hv]
theorem aaT {t:TypeId} {x:Operand} {s:ByteArray} (ht:P.underlying t=some .string) (H:St N D w0 F G0 G L T a w) (hw:Region.wanted ⟨some d,.range t x,ty,pos,aG,g⟩ (yielded ops a.tmps)=true) (hx:ev T x=some (.string s)) (hd:Nat.blt d N=true)
  (k:∀ b a' w',w0.heap.size<=b->St N D w0 F G0 G ((b,.stringIter s 0) :: L) ((d,.pointer (some ⟨b,0,none⟩)) :: T) a' w'->WL r P ops Q rest a' w'):WL r P ops Q (⟨some d,.range t x,ty,pos,aG,g⟩ :: rest) a w:=by
 refine dQ (v:=.pointer (some ⟨w.heap.size,0,none⟩)) (w':=w.iter s 0) hw O ?_ (k _ _ _ H.hp.size (H.put hd _ (H.hp.alloc _)))
 simp only [execOp,H.ev hx,bZ,run_range_string w t s ht,iX,kJ]
theorem acG {w:World} {b p p':Nat} {s:ByteArray} (h:w.heap[b]?=some (.stringIter s p)):pQ b (.stringIter s p') w (w.iterAt b s p'):=by
 have hlt:b < w.heap.size:=(Array.getElem?_eq_some_iff.1 h).1
 refine ⟨O,O,O,by simp [World.iterAt],by simp [World.iterAt,hlt],fun k hk=>?_⟩
 simp only [World.iterAt]
 rw [Array.getElem?_setIfInBounds_ne (Ne.symm hk)]
theorem aaQ {x:Operand} {s:ByteArray} {b p i:Nat} (H:St N D w0 F G0 G L T a w) (hw:Region.wanted ⟨some d,.next x true,ty,pos,aG,g⟩ (yielded ops a.tmps)=true) (hx:ev T x=some (.pointer (some ⟨b,0,none⟩))) (hi:L[i]?=some (b,.stringIter s p)) (hd:Nat.blt d N=true)
  (k:∀ a' w',St N D w0 F G0 G (L.set i (b,.stringIter s (Bg s p))) ((d,.tuple (wP s p).toArray) :: T) a' w'->WL r P ops Q rest a' w'):WL r P ops Q (⟨some d,.next x true,ty,pos,aG,g⟩ :: rest) a w:=by
 have ho:w.heap[b]?=some (.stringIter s p):=H.hp.own _ (jK hi)
 by_cases h:p < s.size
 ·have k2:=k (a.put (some d) (.tuple (wP s p).toArray)) (w.iterAt b s (Bg s p)) (H.put hd _ (H.hp.upd hi (acG ho)))
  refine dQ (v:=.tuple (wP s p).toArray) (w':=w.iterAt b s (Bg s p)) hw O ?_ k2
  rw [PZ h,PY h]
  simp only [execOp,H.ev hx,bZ,Lib.run_next_any_at w b s p _ ho h,iX,kJ]
 ·have e:Bg s p=p:=aJ h
  have hs:L.set i (b,.stringIter s (Bg s p))=L:=by
   rw [e];apply List.ext_getElem?;intro j
   rw [List.getElem?_set]
   split
   ·rename_i hij;subst hij
    split
    ·exact hi.symm
    ·rename_i hj;rw [List.getElem?_eq_none V]
   ·rfl
  have k2:=k (a.put (some d) (.tuple (wP s p).toArray)) w (by rw [hs];exact H.put hd _ H.hp)
  refine dQ (v:=.tuple (wP s p).toArray) (w':=w) hw O ?_ k2
  rw [show wP s p=[.bool false] from aJ h]
  simp only [execOp,H.ev hx,bZ,Lib.run_next_end_at w b s p _ ho h,iX,kJ]
theorem aaU {t u e:TypeId} {x:Operand} {s:ByteArray} (ht:P.underlying t=some .string) (hu:P.underlying u=some (.slice e)) (he:P.underlying e=some (.int .i32)) (H:St N D w0 F G0 G L T a w) (hw:Region.wanted ⟨some d,.convert t u x,ty,pos,aG,g⟩ (yielded ops a.tmps)=true) (hx:ev T x=some (.string s)) (hz:s.size<=4294967296) (hd:Nat.blt d N=true)
  (k:∀ v Lo a' w',bP e 1 v (gD s).length ((gD s).map fun x=>Value.int .i32 (x.2:Int)) Lo->St N D w0 F G0 G (Lo++L) ((d,v) :: T) a' w'->WL r P ops Q rest a' w'):WL r P ops Q (⟨some d,.convert t u x,ty,pos,aG,g⟩ :: rest) a w:=by
 have hr:=Qx s s.size 0 #[]
 have hl:=Bh s s.size 0
 have hsz:(Conv.runesFrom s s.size 0 #[]).size=(gD s).length:=by rw [hr];simp [gD]
 have hc:=run_runes_of_string (P:=P) w t u e s ht hu he (by rw [hsz];unfold gD;omega)
 have hge:=grownCap_ge w (gD s).length 0 e
 have hml:(gD s).length<=maxLen:=by
  have:maxLen=9223372036854775807:=rfl
  unfold gD;omega
 rw [hsz] at hc
 have hrow:bP e 1 (.slice (some ⟨w.heap.size,0,none⟩) (gD s).length (grownCap w (gD s).length 0 e)) (gD s).length ((gD s).map fun x=>Value.int .i32 (x.2:Int)) [(w.heap.size,.cells (Conv.runesFrom s s.size 0 #[]++Array.replicate (grownCap w (gD s).length 0 e - (gD s).length) (.int .i32 0)) e (0,0))]:=by
  refine ⟨by simp,.inr ⟨_,_,_,O,O,hge,grownCap_le_maxLen w _ 0 e hml,?_,?_⟩⟩
  ·simp only [Array.size_append,hsz,Array.size_replicate];omega
  ·rw [hr,Array.toList_append,Nat.mul_one]
   simp only [Array.empty_append,gD]
   rw [List.take_left' (by simp)]
 have k2:=k _ _ _ _ hrow (H.put hd _ (H.hp.drew.alloc _))
 refine dQ (v:=.slice (some ⟨w.heap.size,0,none⟩) (gD s).length (grownCap w (gD s).length 0 e)) (w':=w.drew.alloc _) hw O ?_ k2
 simp only [execOp,H.ev hx,bZ,hc,iX,kJ]
theorem aaS {t u e:TypeId} {x:Operand} {b o n c:Nat} (zs:List Int) (ht:P.underlying t=some (.slice e)) (he:P.underlying e=some (.int .i32)) (hu:P.underlying u=some .string) (H:St N D w0 F G0 G L T a w) (hw:Region.wanted ⟨some d,.convert t u x,ty,pos,aG,g⟩ (yielded ops a.tmps)=true) (hx:ev T x=some (.slice (some ⟨b,o,none⟩) n c)) (hn:zs.length=n)
  (hc:∀ j (h:j < zs.length),w.cell? ⟨b,o+j,none⟩=some (.int .i32 zs[j])) (hd:Nat.blt d N=true)
  (k:∀ a',St N D w0 F G0 G L ((d,.string (runesBytes zs)) :: T) a' w->WL r P ops Q rest a' w):WL r P ops Q (⟨some d,.convert t u x,ty,pos,aG,g⟩ :: rest) a w:=by
 have hr:=run_convert_runes (P:=P) w t u e ⟨b,o,none⟩ n c zs V ht he hu (fun j hj=>by
  have h:=hc j hj
  rw [List.getD_eq_getElem?_getD,iR hj,add_lit]
  exact h)
 rw [iU V] at hr
 refine dQ (v:=.string (runesBytes zs)) (w':=w) hw O ?_ (k _ (H.put hd _ H.hp))
 simp only [execOp,H.ev hx,bZ,hr,iX,kJ]
theorem QK {t:TypeId} {x y z:Operand} {s:ByteArray} {ky kz:IntKind} {p q:Int} (lo hi:Nat) (ht:P.underlying t=some .string) (H:St N D w0 F G0 G L T a w) (hw:Region.wanted ⟨some d,.slice t x (some y) (some z) none,ty,pos,aG,g⟩ (yielded ops a.tmps)=true) (hx:ev T x=some (.string s)) (hy:ev T y=some (.int ky p)) (hz:ev T z=some (.int kz q)) (hp:p=(lo:Int)) (hq:q=(hi:Int)) (h1:lo<=hi) (h2:hi<=s.size) (hd:Nat.blt d N=true)
  (k:∀ a',St N D w0 F G0 G L ((d,.string (s.extract lo hi)) :: T) a' w->WL r P ops Q rest a' w):WL r P ops Q (⟨some d,.slice t x (some y) (some z) none,ty,pos,aG,g⟩ :: rest) a w:=by
 subst hp;subst hq
 have hr:=run_slice_string (P:=P) w t s ky kz (lo:Int) (hi:Int) ht V V V
 rw [Int.toNat_natCast,Int.toNat_natCast] at hr
 refine dQ (v:=.string (s.extract lo hi)) (w':=w) hw O ?_ (k _ (H.put hd _ H.hp))
 simp only [execOp,H.ev hx,oM,Option.map_none,H.ev hy,H.ev hz,bZ,run_sliceAt_string w t _ _ _ _ ht,hr,iX,kJ]
theorem QJ {t:TypeId} {x y:Operand} {s:ByteArray} {ky:IntKind} {p:Int} (lo:Nat) (ht:P.underlying t=some .string) (H:St N D w0 F G0 G L T a w) (hw:Region.wanted ⟨some d,.slice t x (some y) none none,ty,pos,aG,g⟩ (yielded ops a.tmps)=true) (hx:ev T x=some (.string s)) (hy:ev T y=some (.int ky p)) (hp:p=(lo:Int)) (h1:lo<=s.size) (hd:Nat.blt d N=true)
  (k:∀ a',St N D w0 F G0 G L ((d,.string (s.extract lo s.size)) :: T) a' w->WL r P ops Q rest a' w):WL r P ops Q (⟨some d,.slice t x (some y) none none,ty,pos,aG,g⟩ :: rest) a w:=by
 subst hp
 have hr:=run_slice_string_l (P:=P) w t s ht ky (lo:Int) V V
 rw [Int.toNat_natCast] at hr
 refine dQ (v:=.string (s.extract lo s.size)) (w':=w) hw O ?_ (k _ (H.put hd _ H.hp))
 simp only [execOp,H.ev hx,oM,Option.map_none,H.ev hy,bZ,run_sliceAt_string w t _ _ _ _ ht,hr,iX,kJ]
theorem aaZ {t e:TypeId} {sz bytes:Nat} {zero:List av} {agg:Bool} (hs:P.underlying t=some (.slice e)) (ht:Ty P e sz bytes zero agg) {x y:Operand} {A:Option Addr} {n c:Nat} (lo:Nat) {p:Int} (H:St N D w0 F G0 G L T a w)
  (hw:Region.wanted ⟨some d,.slice t x (some y) none none,ty,pos,aG,g⟩ (yielded ops a.tmps)=true) (hx:ev T x=some (.slice A n c)) (hy:ev T y=some (.int .i64 p)) (hp:p=(lo:Int)) (h1:lo<=n) (hd:Nat.blt d N=true)
  (k:∀ a',St N D w0 F G0 G L ((d,.slice (if c=lo then A else A.map (·.add (lo*sz))) (n - lo) (c - lo)) :: T) a' w->WL r P ops Q rest a' w):WL r P ops Q (⟨some d,.slice t x (some y) none none,ty,pos,aG,g⟩ :: rest) a w:=by
 subst hp
 refine dQ (v:=.slice (if c=lo then A else A.map (·.add (lo*sz))) (n - lo) (c - lo)) (w':=w) hw O ?_ (k _ (H.put hd _ H.hp))
 simp [execOp,H.ev hx,H.ev hy,Instr.sliceAt,Instr.slice,Instr.sliceBounds,Instr.sliceBound,bZ,lq hs,ht.uK,asIntOf,h1]
theorem QA {t e:TypeId} {n sz bytes:Nat} {zero z:List av} {agg:Bool} (hs:P.underlying t=some (.array n e)) (ht:Ty P e sz bytes zero agg) (hz:(P.info? t).map (fun i=>i.zero.map fun z=>z.cells.toList)=some (some z)) {xs:List (Nat × Operand)} {vs:List (Nat × av)} {vs':List (Nat × List av)} (cs:List av) (H:St N D w0 F G0 G L T a w) (hw:Region.wanted ⟨some d,.build t xs.toArray,ty,pos,aG,g⟩ (yielded ops a.tmps)=true)
  (hx:pts T xs=some vs) (hv:vs.map (fun x=>(x.1,x.2.cells.toList))=vs') (hpl:∀ i q,((List.range n).map fun i=>(i*sz,sz))[i]?=some q->(some (i*sz,sz):Option (Nat × Nat))=some q) (hf:um ((List.range n).map fun i=>(i*sz,sz)) z vs'=some cs) (hd:Nat.blt d N=true)
  (k:∀ a',St N D w0 F G0 G L ((d,.agg cs.toArray) :: T) a' w->WL r P ops Q rest a' w):WL r P ops Q (⟨some d,.build t xs.toArray,ty,pos,aG,g⟩ :: rest) a w:=by
 refine dQ (v:=.agg cs.toArray) (w':=w) hw O ?_ (k _ (H.put hd _ H.hp))
 obtain ⟨i,hi,hi2⟩:=mG.1 hz
 obtain ⟨z0,hz0,hz1⟩:=mG.1 hi2
 have hzv:(zeroValue t).run P w=.ok z0 w:=by simp [zeroValue,bZ,zJ hi,hz0]
 have hzc:z0.cells=z.toArray:=by rw [<- hz1]
 have CO:=fill_eq (fun i=>some (i*sz,sz)) _ hpl vs vs' z cs hv hf
 simp only [execOp,List.map_toArray,H.pts hx,Instr.build,bZ,hzv,lq hs,iX,ht.uK,hzc,CO,kJ]
end
end
theorem Es {s:ByteArray} {a n:Nat}:∀ (f k:Nat) (low high p:Int),(kK s a n f k low high p).2.2=true->k<=n->n<=k+f ->
  (kK s a n f k low high p).2.1=n∧∀ j,k<=j->j < n->a+j < s.size∧(if j=k then low<=gy s (a+j)∧gy s (a+j)<=high else 128<=gy s (a+j)∧gy s (a+j)<=191)
 | 0,k,low,high,p,_,h1,h2=>by
  have hk:k=n:=by omega
  subst hk;exact ⟨by rw [kK],fun j hj hj2=>by omega⟩
 | f+1,k,low,high,p,h,h1,h2=>by
  rw [kK] at h |-
  by_cases hn:n<=k
  ·rw [aM hn];exact ⟨by dsimp only;omega,fun j hj hj2=>by omega⟩
  rw [aJ hn] at h |-
  by_cases hb:s.size<=a+k∨gy s (a+k) < low∨high < gy s (a+k)
  ·rw [aM hb] at h;cases h
  rw [aJ hb] at h |-;obtain ⟨e1,e2⟩:=Es f (k+1) 128 191 _ h V V;refine ⟨e1,fun j hj hj2=>?_⟩
  by_cases hjk:j=k
  ·subst hjk;rw [aM O];omega
  rw [aJ hjk];have:=e2 j V hj2
  split at this
  ·omega
  exact this
theorem yS {s:ByteArray} {i:Nat} (h:i < s.size):gy s i=((s.get! i).toNat:Int):=by
 have e:s.get! i=s[i]:=by
  unfold ByteArray.get!
  exact getElem!_pos s.data i h
 rw [pU h,e]
theorem wu {s:ByteArray} {i:Nat} (hi:i < s.size) (h:(fB s i).2.2=true):(Utf8.decode s i).2=(fB s i).2.1∧¬ ((Utf8.decode s i).1=65533∧(Utf8.decode s i).2=1) ∧
  (∀ j,0 < j->j < (fB s i).2.1->i+j < s.size∧128<=gy s (i+j)∧gy s (i+j)<=191)∧¬ (128<=gy s i∧gy s i<=191):=by
 have hb:=yS hi;have hlt:(s.get! i).toNat < 256:=(s.get! i).toNat_lt;obtain ⟨B,hB⟩:∃ B,B=(s.get! i).toNat:=⟨_,O⟩;rw [<- hB] at hb hlt
 unfold fB at h |-
 simp only at h |-
 have ht:dL (gy s i)=dL (B:Int):=by rw [hb]
 rw [ht] at h |-
 by_cases c1:B < 128
 ·have e3:(dL (B:Int)).2.2=1:=by simp only [dL];rw [dJ]
  rw [aX,aM e3]
  have hd:Utf8.decode s i=(B,1):=by
   unfold Utf8.decode
   simp only [qZ,<- hB]
   rw [dJ]
  rw [hd];exact ⟨O,by simp;omega,fun j h1 h2=>by simp at h2;omega,V⟩
 by_cases c2:B < 194∨244 < B
 ·have e3:(dL (B:Int)).2.2=0:=by simp only [dL];rw [aX,dJ]
  rw [aM e3] at h;cases h
 by_cases c3:B < 224
 ·have e3:(dL (B:Int)).2.2=2:=by simp only [dL];rw [aX,aX,dJ]
  have e1:(dL (B:Int)).1=128∧(dL (B:Int)).2.1=191:=by simp only [dL];refine ⟨?_,?_⟩ <;> (rw [aX,aX])
  rw [aX,aX,e3,e1.1,e1.2] at h |-;obtain ⟨q1,q2⟩:=Es _ _ _ _ _ h Y Y;have b1:=q2 1 Y Y;rw [aM O] at b1;have g1:=yS b1.1;obtain ⟨B1,hB1⟩:∃ B1,B1=(s.get! (i+1)).toNat:=⟨_,O⟩;rw [<- hB1] at g1;rw [q1]
  have hd:Utf8.decode s i=((B % 32)*64+B1 % 64,2):=by
   unfold Utf8.decode
   simp only [qZ,<- hB,<- hB1]
   rw [aX,aM (by simp [b1.1];omega),dJ]
  rw [hd];refine ⟨O,by simp,fun j h1 h2=>?_,V⟩
  obtain rfl:j=1:=by have:j < 2:=h2;omega
  exact ⟨b1.1,b1.2⟩
 by_cases c4:B < 240
 ·have e3:(dL (B:Int)).2.2=3:=by simp only [dL];rw [aX,aX,aX,dJ]
  have e1:128<=(dL (B:Int)).1∧(dL (B:Int)).2.1<=191∧(B=224->(dL (B:Int)).1=160)∧(B=237->(dL (B:Int)).2.1=159):=by
   simp only [dL]
   refine ⟨?_,?_,fun e=>?_,fun e=>?_⟩
   ·split
    ·omega
    split <;> omega
   ·split
    ·omega
    split <;> omega
   ·rw [dJ]
   rw [dJ]
  obtain ⟨lo,hlo⟩:∃ x,x=(dL (B:Int)).1:=⟨_,O⟩;obtain ⟨hi',hhi⟩:∃ x,x=(dL (B:Int)).2.1:=⟨_,O⟩;rw [aX,aX,e3,<- hlo,<- hhi] at h |-;rw [<- hlo,<- hhi] at e1;obtain ⟨q1,q2⟩:=Es _ _ _ _ _ h Y Y;have b1:=q2 1 Y Y;have b2:=q2 2 Y Y;rw [aM O] at b1;rw [aJ Y] at b2;have g1:=yS b1.1;have g2:=yS b2.1;obtain ⟨B1,hB1⟩:∃ B1,B1=(s.get! (i+1)).toNat:=⟨_,O⟩;obtain ⟨B2,hB2⟩:∃ B2,B2=(s.get! (i+2)).toNat:=⟨_,O⟩;rw [<- hB1] at g1;rw [<- hB2] at g2;rw [q1]
  have hv:Utf8.valid (((B % 16)*4096+(B1 % 64)*64+B2 % 64:Nat):Int)=true:=by
   simp only [Utf8.valid,Bool.or_eq_true,gT,dH]
   have adH:=e1.2.2.2
   omega
  have hd:Utf8.decode s i=((B % 16)*4096+(B1 % 64)*64+B2 % 64,3):=by
   unfold Utf8.decode
   simp only [qZ,<- hB,<- hB1,<- hB2]
   have adG:=e1.2.2.1;rw [aX,aJ (by simp;omega),aM (by simp [b1.1,b2.1];omega),aM (by simp only [gT,dH];exact ⟨V,hv⟩)]
  rw [hd];refine ⟨O,by simp,fun j h1 h2=>?_,V⟩;have h2':j < 3:=h2
  rcases (show j=1∨j=2 by omega) with rfl|rfl
  ·exact ⟨b1.1,V,V⟩
  exact ⟨b2.1,b2.2⟩
 have e3:(dL (B:Int)).2.2=4:=by simp only [dL];rw [aX,aX,aX,aX]
 have e1:128<=(dL (B:Int)).1∧(dL (B:Int)).2.1<=191∧(B=240->(dL (B:Int)).1=144)∧(B=244->(dL (B:Int)).2.1=143):=by
  simp only [dL]
  refine ⟨?_,?_,fun e=>?_,fun e=>?_⟩
  ·split
   ·omega
   split <;> omega
  ·split
   ·omega
   split <;> omega
  ·rw [aX,dJ]
  rw [aX,dJ]
 obtain ⟨lo,hlo⟩:∃ x,x=(dL (B:Int)).1:=⟨_,O⟩;obtain ⟨hi',hhi⟩:∃ x,x=(dL (B:Int)).2.1:=⟨_,O⟩;rw [aX,aX,e3,<- hlo,<- hhi] at h |-;rw [<- hlo,<- hhi] at e1;obtain ⟨q1,q2⟩:=Es _ _ _ _ _ h Y Y;have b1:=q2 1 Y Y;have b2:=q2 2 Y Y;have b3:=q2 3 Y Y;rw [aM O] at b1;rw [aJ Y] at b2 b3;have g1:=yS b1.1;have g2:=yS b2.1;have g3:=yS b3.1;obtain ⟨B1,hB1⟩:∃ B1,B1=(s.get! (i+1)).toNat:=⟨_,O⟩;obtain ⟨B2,hB2⟩:∃ B2,B2=(s.get! (i+2)).toNat:=⟨_,O⟩;obtain ⟨B3,hB3⟩:∃ B3,B3=(s.get! (i+3)).toNat:=⟨_,O⟩;rw [<- hB1] at g1;rw [<- hB2] at g2;rw [<- hB3] at g3;rw [q1];have adI:=e1.2.2.1;have adJ:=e1.2.2.2
 have hv:Utf8.valid (((B % 8)*262144+(B1 % 64)*4096+(B2 % 64)*64+B3 % 64:Nat):Int)=true:=by
  simp only [Utf8.valid,Bool.or_eq_true,gT,dH]
  omega
 have hd:Utf8.decode s i=((B % 8)*262144+(B1 % 64)*4096+(B2 % 64)*64+B3 % 64,4):=by
  unfold Utf8.decode
  simp only [qZ,<- hB,<- hB1,<- hB2,<- hB3]
  rw [aX,aJ (by simp;omega),aJ (by simp;omega),aM (by simp [b1.1,b2.1,b3.1];omega),aM (by simp only [gT,dH];exact ⟨V,hv⟩)]
 rw [hd];refine ⟨O,by simp,fun j h1 h2=>?_,V⟩;have h2':j < 4:=h2
 rcases (show j=1∨j=2∨j=3 by omega) with rfl|rfl|rfl
 ·exact ⟨b1.1,V,V⟩
 ·exact ⟨b2.1,b2.2⟩
 exact ⟨b3.1,b3.2⟩
section
abbrev aH (b o : Nat) : Value := .pointer (some ⟨b, o, none⟩)
end
end Go.Proofs.YtomebajfpcjoeaaDoor
