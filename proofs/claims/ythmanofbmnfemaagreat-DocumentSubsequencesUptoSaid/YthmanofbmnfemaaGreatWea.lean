/-
  What the claim stands on, part 1: Lg Op Oq Cb Rep Dr Sq Sg Row Dy De Dj Bd Eq Mp Dk Dw Dm Dl Dp.
-/
import Derived.Test.YthmanofbmnfemaaGreatProg
import Derived.CallsIn
import Derived.TacticsIn
import Derived.RangeFuncIn
import Derived.RangeFuncLeaves
import Derived.RangeFuncRecord
import Derived.Below
import Derived.KernelRfl
import Derived.Maps.AppendAt
import Derived.IntWalk
import Derived.OrdersIn
import Derived.Lib.Builder
import Derived.Lib.UnsafeStr
import Derived.Lib.AppendStr
import Derived.Laws.Externs
import Derived.Laws.StructEq
import Derived.ChangeKeysEq
import Derived.MapKept
namespace Go.Proofs.YthmanofbmnfemaaGreat
set_option linter.all false
open Go.Proofs.Tryz
section
theorem ah.{u}:∀ {c:Prop} {h:Decidable c},¬c→∀ {α:Sort u} {t e:α},(if c then t else e)=e:=@if_neg
theorem ay.{u}:∀ {c:Prop} {h:Decidable c},c→∀ {α:Sort u} {t e:α},(if c then t else e)=t:=@if_pos
theorem aB.{u,v}:∀ {α:Sort u} {β:Sort v} {a₁ a₂:α} (f:α→β),a₁=a₂→f a₁=f a₂:=@congrArg
theorem bB:True:=trivial
theorem bN:∀ (n:Nat),n≤n:=@Nat.le_refl
theorem bO.{u_1,u_2}:∀ {α:Type u_1} {β:Type u_2} {xs:List α} (f:α→β),List.length (List.map f xs)=List.length xs:=@List.length_map
theorem bX.{u_1}:∀ {α:Type u_1} (l:List α),List.Sublist l l:=@List.Sublist.refl
theorem dM:∀ {α β:Type} (P:Go.Program) (w:Go.World) (x:Go.Sem α) (f:α→Go.Sem β),   Go.Sem.run P (x >>= f) w=Go.Result.andThen (Go.Sem.run P x w) fun a w'=>Go.Sem.run P (f a) w':=@Go.Sem.run_bind
theorem dY.{u_1}:∀ {α:Type u_1} {l:List α} {i:Nat} (h:i < List.length l),l[i]?=some l[i]:=@List.getElem?_eq_getElem
theorem eu.{u,v}:∀ {α:Type u} {β:Type v} {f:α→β} {a:α} {l:List α},List.map f (a :: l)=f a :: List.map f l:=@List.map_cons
theorem fH.{u_1}:∀ {α:Type u_1} {a:α} {l:List α},a∈a :: l:=@List.mem_cons_self
theorem fM.{u_1}:∀ {α:Type u_1} {i:Nat} {l:List α},List.length l≤i→List.drop i l=[]:=@List.drop_of_length_le
theorem fQ:∀ (n:Nat),0+n=n:=@Nat.zero_add
theorem fZ.{u,v}:∀ {α:Type u} {β:Type v} (fst:α) (snd:β) (Xz:α) (aaI:β),   ((fst,snd)=(Xz,aaI))=(fst=Xz∧snd=aaI):=@Prod.mk.injEq
theorem gy.{u}:∀ {α:Type u} (xs bs cs:List α),xs++bs++cs=xs++(bs++cs):=@List.append_assoc
theorem gL.{u_1}:∀ {α:Type u_1} (y:α) {a:α} {l:List α},a∈l→a∈y :: l:=@List.mem_cons_of_mem
theorem gN.{u_1}:∀ {α:Type u_1} {i:Nat} {l:List α} (h:i < List.length l),List.take (i+1) l=List.take i l++[l[i]]:=@List.take_succ_eq_append_getElem
theorem gV:∀ (n:Nat),0≤n:=@Nat.zero_le
theorem iD.{u}:∀ {α:Type u} (xs:List α),[]++xs=xs:=@List.nil_append
theorem iE:∀ {p:Prop} [inst:Decidable p],p→decide p=true:=@decide_eq_true
theorem iF.{u_1}:∀ {α:Type u_1} {l:List α} {n:Nat} (h:n < List.length l),l[n]∈l:=@List.getElem_mem
theorem iL.{u_1}:∀ {α:Type u_1} {i:Nat} {a:α} {l:List α},l[i]?=some a↔∃ h,l[i]=a:=@List.getElem?_eq_some_iff
theorem iQ.{u_1}:∀ {α:Type u_1} {b:α} {l:List α} {a:α},a∈b :: l↔a=b∨a∈l:=@List.mem_cons
theorem jg.{u}:∀ {α:Type u} {a:α} {xs bs:List α},a :: xs++bs=a :: (xs++bs):=@List.cons_append
theorem jh.{u_1}:∀ {α:Type u_1} {i:Nat} {l:List α},List.length l≤i→List.take i l=l:=@List.take_of_length_le
theorem jA:∀ {p:Prop} [inst:Decidable p],¬p→decide p=false:=@decide_eq_false
theorem jH.{u}:∀ {α:Type u} {xs bs:List α},List.length (xs++bs)=List.length xs+List.length bs:=@List.length_append
theorem kr.{u_1}:∀ {α:Type u_1} {l:List α} {i:Nat} {a:α},l[i]?=some a→a∈l:=@List.mem_of_getElem?
theorem kG.{u}:∀ {α:Type u} {a:α} {xs:List α},List.length (a :: xs)=List.length xs+1:=@List.length_cons
theorem kI:∀ (n:Nat),n+0=n:=@Nat.add_zero
theorem lg:∀ {α β:Type} (a:α) (w:Go.World) (f:α→Go.World→Go.Result β),Go.Result.andThen (Go.Result.ok a w) f=f a w:=@Go.Result.andThen_ok
theorem lq.{u_1}:∀ {α:Type u_1} {p:α→Bool} {l:List α},List.all l p=true↔∀ (x:α),x∈l→p x=true:=@List.all_eq_true
theorem lu:∀ {p:Prop} [Decidable p],¬¬p↔p:=@Decidable.not_not
theorem lS.{u}:∀ {α:Type u} (val abn:α),(some val=some abn)=(val=abn):=@Option.some.injEq
theorem lT.{u_1}:∀ {α:Type u_1} {a:α} {s t:List α},a∈s++t↔a∈s∨a∈t:=@List.mem_append
theorem lU:∀ (a b:Bool),((a && b)=true)=(a=true∧b=true):=@Bool.and_eq_true
theorem lV:∀ {p:Prop} [inst:Decidable p],(decide p=true)=p:=@decide_eq_true_eq
theorem lW.{u_1}:∀ {α:Type u_1} {i:Nat} {l:List α} (h:i < List.length l),List.drop i l=l[i] :: List.drop (i+1) l:=@List.drop_eq_getElem_cons
theorem lX:∀ {p:Prop} [inst:Decidable p],decide p=true→p:=@of_decide_eq_true
theorem lY.{u}:∀ {α:Type u} (xs:List α),xs++[]=xs:=@List.append_nil
theorem mV.{u_1,u_2}:∀ {α:Type u_1} {b:α} {abP:Type u_2} {x:Option abP} {f:abP→α},   Option.map f x=some b↔∃ a,x=some a∧f a=b:=@Option.map_eq_some_iff
theorem nE.{u_1,u_2}:∀ {α:Type u_1} {β:Type u_2} {f:α→β} {l:List α} {i:Nat},(List.map f l)[i]?=Option.map f l[i]?:=@List.getElem?_map
theorem nG.{u_1,u_2}:∀ {α:Type u_1} {β:Type u_2} {f:α→β} {l₁ l₂:List α},List.map f (l₁++l₂)=List.map f l₁++List.map f l₂:=@List.map_append
theorem nX:∀ {p:Prop} {x:Decidable p},decide p=false↔¬p:=@decide_eq_false_iff_not
theorem qE:∀ {α:Type} (P:Go.Program) (w:Go.World) (a:α),Go.Sem.run P (pure a) w=Go.Result.ok a w:=@Go.Sem.run_pure
theorem qF.{u_1}:∀ {α:Type u_1} {l₁ l₂:List α} {i:Nat},List.length l₁≤i→(l₁++l₂)[i]?=l₂[i - List.length l₁]?:=@List.getElem?_append_right
theorem qG:∀ {a b:Bool},a=b↔(a=true↔b=true):=@Bool.eq_iff_iff
theorem rz:∀ {m n:Nat},m∈List.range n↔m < n:=@List.mem_range
theorem rC.{u_1}:∀ {α:Type u_1} {a b:α},a∈[b]↔a=b:=@List.mem_singleton
theorem rD.{u_1}:∀ {α:Type u_1} {l₁ l₂:List α},List.Perm (l₁++l₂) (l₂++l₁):=@List.perm_append_comm
theorem sG.{u_1}:∀ {α:Type u_1} {xs:Array α},List.length xs.toList=Array.size xs:=@Array.length_toList
theorem uG.{u_1}:∀ {α:Type u_1} {l:List α} {i j:Nat},(List.take i l)[j]?=if j < i then l[j]? else none:=@List.getElem?_take
theorem uH:∀ (b:Bool),(false && b)=false:=@Bool.false_and
theorem uJ:∀ (b:Bool),((!b)=true)=(b=false):=@Bool.not_eq_true'
theorem uK.{u,v}:∀ {α:Type u} {β:Type v} {f:α→β},List.map f []=[]:=@List.map_nil
theorem wV.{u_1}:∀ {α:Type u_1} {l₁ l₂:List α} {i:Nat},i < List.length l₁→(l₁++l₂)[i]?=l₁[i]?:=@List.getElem?_append_left
theorem wW.{u_1}:∀ {α:Type u_1} {l:List α},List.take (List.length l) l=l:=@List.take_length
theorem xY.{u}:∀ {α:Type u} {R:α→α→Prop} {a:α} {l:List α},   List.Pairwise R (a :: l)↔(∀ (a':α),a'∈l→R a a')∧List.Pairwise R l:=@List.pairwise_cons
theorem yg.{u_1}:∀ {α:Type u_1} {a:α} {l:List α},(a :: l)[0]?=some a:=@List.getElem?_cons_zero
theorem yh.{u_1}:∀ {α:Type u_1} [inst:BEq α] [LawfulBEq α] {a:α} {xs:List α},List.contains xs a=true↔a∈xs:=@List.contains_iff_mem
theorem zi.{u_1}:∀ {α:Type u_1} (a:α) (l:List α),List.Sublist l (a :: l):=@List.sublist_cons_self
theorem Am:∀ {n m:Nat},Nat.beq n m=true→n=m:=@Nat.eq_of_beq_eq_true
theorem Ca:∀ (b:Bool),(true && b)=b:=@Bool.true_and
theorem DI:(false=true)=False:=@Bool.false_eq_true
theorem HZ:∀ (n m:Nat),n+m - n=m:=@Nat.add_sub_cancel_left
abbrev aj := Value
theorem dD {a b:Bool} (h:a=b):Value.bool a=Value.bool b:=congrArg _ h
end
set_option maxRecDepth 20000
set_option maxHeartbeats 4000000
section
open Go.RowKit
def FW (r:Option Nat):Fence:={ Fence.wide with round:=r }
theorem JV (r:Option Nat):(FW r).depth.isSome=true→1≤(0:Nat):=by intro h;cases h
abbrev WP (r:Option Nat) (P:Program) (c:Code) (Q:Exit→Act→World→Prop) (a:Act) (w:World):Prop:=c.wpIn (FW r) 0 P Q a w
abbrev WL (r:Option Nat) (P:Program) (ops:Array Oper) (Q:Exit→Act→World→Prop) (l:List Oper) (a:Act) (w:World):Prop:=wpListIn (FW r) 0 P ops Q l a w
theorem OV {r:Option Nat} {n:Nat} {P:Program} {f:FuncId} {args:Array aj} {w:World} {R:Ending→World→Prop} (h:Calls P f args w R):CallsIn (FW r) n P f args w R:=callsIn_wide.2 h
theorem acW {r:Option Nat} {n:Nat} {P:Program} {f:FuncId} {args:Array aj} {w:World} {R:Ending→World→Prop} (h:CallsIn (FW r) n P f args w R):Calls P f args w R:=callsIn_wide.1 h
def lk:List (Nat × aj)→Nat→Option aj
 | [],_=>none
 | (s,v) :: r,t=>bif Nat.beq s t then some v else lk r t
theorem vD (t:Nat) (v:aj) (T:List (Nat × aj)):lk ((t,v) :: T) t=some v:=by simp [lk]
theorem tF {s t:Nat} (h:s≠t) (v:aj) (T:List (Nat × aj)):lk ((s,v) :: T) t=lk T t:=by
 have:Nat.beq s t=false:=by
  cases h':Nat.beq s t with
  | false=>rfl
  | true=>exact absurd (Am h') h
 simp [lk,this]
def ev (T:List (Nat × aj)):Operand→Option aj
 | .tmp t=>lk T t
 | .const v=>some v
 | .global g=>some (.pointer (some ⟨g,0,none⟩))
 | .func f=>some (.func (.func f) #[] #[])
def evs (T:List (Nat × aj)):List Operand→Option (List aj)
 | []=>some []
 | x :: r=>match ev T x,evs T r with|some v,some vs=>some (v :: vs)|_,_=>none
abbrev GH:=Nat→Option Obj
structure Hp (w0:World) (F:Nat→Prop) (G0 G:GH) (L:List (Nat × Obj)) (w:World):Prop where
 os:w.os=w0.os
 tape:w.tape=w0.tape
 output:w.output=w0.output
 size:w0.heap.size≤w.heap.size
 sO:∀ k,F k→k < w0.heap.size
 fr:∀ k,F k→w.heap[k]?=w0.heap[k]?
 ro:∀ k o,G k=some o→w.heap[k]?=some o
 gm:∀ k o,G0 k=some o→G k=some o
 gx:∀ k o,G k=some o→G0 k=some o∨¬ F k
 own:∀ p∈L,w.heap[p.1]?=some p.2
 qU:∀ p∈L,G p.1=none
 qR:∀ p∈L,¬ F p.1
 nd:L.Pairwise fun p q=>p.1≠q.1
structure St (N:Nat) (D:List Deferred) (w0:World) (F:Nat→Prop) (G0 G:GH) (L:List (Nat × Obj)) (T:List (Nat × aj)) (a:Act) (w:World):Prop where
 lC:a.tmps.size=N
 get:∀ t v,lk T t=some v→a.tmps[t]?=some v
 qI:a.defers=D
 hp:Hp w0 F G0 G L w
theorem lt_of_heap {w:World} {k:Nat} {o:Obj} (h:w.heap[k]?=some o):k < w.heap.size:=(Array.getElem?_eq_some_iff.1 h).1
structure uE (b:Nat) (o:Obj) (w w':World):Prop where
 os:w'.os=w.os
 tape:w'.tape=w.tape
 output:w'.output=w.output
 size:w'.heap.size=w.heap.size
 this:w'.heap[b]?=some o
 others:∀ k,k≠b→w'.heap[k]?=w.heap[k]?
section
variable {N:Nat} {D:List Deferred} {w0 w w':World} {F:Nat→Prop} {G0 G G':GH} {L L':List (Nat × Obj)} {T:List (Nat × aj)} {a:Act} {b:Nat} {o o':Obj}
theorem Hp.lt (h:Hp w0 F G0 G L w) {p:Nat × Obj} (hp:p∈L):p.1 < w.heap.size:=lt_of_heap (h.own p hp)
theorem Hp.alloc (h:Hp w0 F G0 G L w) (o:Obj):Hp w0 F G0 G ((w.heap.size,o) :: L) (w.alloc o):=by
 have hold:∀ k,k < w.heap.size→(w.alloc o).heap[k]?=w.heap[k]?:=fun k hk=>Below.heap_alloc w o k hk
 refine ⟨h.os,h.tape,h.output,by simp;exact Nat.le_succ_of_le h.size,h.sO,fun k hk=>(hold k (Nat.lt_of_lt_of_le (h.sO k hk) h.size)).trans (h.fr k hk),fun k o' hk=>(hold k (lt_of_heap (h.ro k o' hk))).trans (h.ro k o' hk),h.gm,h.gx,?_,?_,?_,?_⟩
 ·intro p hp
  rcases iQ.1 hp with rfl|hp
  ·show (w.heap.push o)[w.heap.size]?=some o;simp
  ·exact (hold _ (h.lt hp)).trans (h.own p hp)
 ·intro p hp
  rcases iQ.1 hp with rfl|hp
  ·cases hg:G w.heap.size with
   | none=>rfl
   | some o'=>exact absurd (lt_of_heap (h.ro _ _ hg)) (Nat.lt_irrefl _)
  ·exact h.qU p hp
 ·intro p hp
  rcases iQ.1 hp with rfl|hp
  ·intro hf;exact absurd (Nat.lt_of_lt_of_le (h.sO _ hf) h.size) (Nat.lt_irrefl _)
  ·exact h.qR p hp
 ·refine xY.2 ⟨fun q hq=>?_,h.nd⟩
  have:=h.lt hq
  simp only;omega
theorem Hp.below (h:Hp w0 F G0 G L w) (hb:Below w.heap.size w w'):Hp w0 F G0 G L w':=by
 refine ⟨hb.os.trans h.os,hb.tape.trans h.tape,hb.output.trans h.output,Nat.le_trans h.size hb.size,h.sO,fun k hk=>(hb.block k (Nat.lt_of_lt_of_le (h.sO k hk) h.size)).trans (h.fr k hk),fun k o hk=>(hb.block k (lt_of_heap (h.ro k o hk))).trans (h.ro k o hk),h.gm,h.gx,fun p hp=>(hb.block _ (h.lt hp)).trans (h.own p hp),h.qU,h.qR,h.nd⟩
def Ext (n1:Nat) (G G':GH) (w':World):Prop:=(∀ k o,G k=some o→G' k=some o)∧(∀ k o,G' k=some o→G k=some o∨n1≤k)∧(∀ k o,G' k=some o→w'.heap[k]?=some o)
theorem Hp.VK (h:Hp w0 F G0 G L w) (hb:Below w.heap.size w w') (hx:Ext w.heap.size G G' w'):Hp w0 F G0 G' L w':=by
 have h':=h.below hb
 refine ⟨h'.os,h'.tape,h'.output,h'.size,h'.sO,h'.fr,hx.2.2,fun k o hk=>hx.1 k o (h.gm k o hk),fun k o hk=>?_,h'.own,fun p hp=>?_,h'.qR,h'.nd⟩
 ·rcases hx.2.1 k o hk with hk|hk
  ·exact h.gx k o hk
  ·exact .inr fun hf=>absurd (Nat.lt_of_lt_of_le (h.sO k hf) h.size) (by omega)
 ·cases hg:G' p.1 with
  | none=>rfl
  | some o =>
   rcases hx.2.1 _ _ hg with hk|hk
   ·rw [h.qU p hp] at hk;cases hk
   ·exact absurd (h.lt hp) (by omega)
theorem Tw:∀ {L:List (Nat × Obj)} {i b:Nat} {o o':Obj},L.Pairwise (fun p q=>p.1≠q.1)→L[i]?=some (b,o)→(L.set i (b,o')).Pairwise fun p q=>p.1≠q.1
 | [],_,_,_,_,h,_=>h
 | p :: L,0,b,o,o',h,hi=>by
  simp only [yg,lS] at hi
  subst hi
  exact xY.2 ⟨(xY.1 h).1,(xY.1 h).2⟩
 | p :: L,i+1,b,o,o',h,hi=>by
  simp only [List.getElem?_cons_succ] at hi
  refine xY.2 ⟨fun q hq=>?_,Tw (xY.1 h).2 hi⟩
  rcases List.mem_or_eq_of_mem_set hq with hq|rfl
  ·exact (xY.1 h).1 q hq
  ·exact (xY.1 h).1 (b,o) (kr hi)
theorem SS:∀ {L:List (Nat × Obj)} {i:Nat} {p q:Nat × Obj},L.Pairwise (fun p q=>p.1≠q.1)→L[i]?=some p→q∈L→q.1=p.1→q=p
 | [],_,_,_,_,h,_,_=>by simp at h
 | x :: L,0,p,q,h,hi,hq,e=>by
  simp only [yg,lS] at hi
  subst hi
  rcases iQ.1 hq with rfl|hq
  ·rfl
  ·exact absurd e.symm ((xY.1 h).1 q hq)
 | x :: L,i+1,p,q,h,hi,hq,e=>by
  simp only [List.getElem?_cons_succ] at hi
  rcases iQ.1 hq with rfl|hq
  ·exact absurd e ((xY.1 h).1 p (kr hi))
  ·exact SS (xY.1 h).2 hi hq e
theorem Hp.upd (h:Hp w0 F G0 G L w) {i:Nat} (hi:L[i]?=some (b,o)) (hu:uE b o' w w'):Hp w0 F G0 G (L.set i (b,o')) w':=by
 have hm:(b,o)∈L:=kr hi
 refine ⟨hu.os.trans h.os,hu.tape.trans h.tape,hu.output.trans h.output,hu.size ▸ h.size,h.sO,fun k hk=>?_,fun k o hk=>?_,h.gm,h.gx,fun p hp=>?_,fun p hp=>?_,fun p hp=>?_,Tw h.nd hi⟩
 ·exact (hu.others k (fun e=>h.qR _ hm (e ▸ hk))).trans (h.fr k hk)
 ·refine (hu.others k (fun e=>?_)).trans (h.ro k o hk)
  have:=h.qU _ hm
  rw [← e,hk] at this;cases this
 ·by_cases e:p.1=b
  ·rcases List.mem_or_eq_of_mem_set hp with hp'|rfl
   ·obtain ⟨j,hj⟩:=List.getElem?_of_mem hp
    have hib:i < L.length:=(iL.1 hi).1
    have hset:(L.set i (b,o'))[i]?=some (b,o'):=by simp [hib]
    have:=SS (Tw (o':=o') h.nd hi) hset hp e
    rw [this];exact hu.this
   ·exact hu.this
  ·rcases List.mem_or_eq_of_mem_set hp with hp|rfl
   ·exact (hu.others _ e).trans (h.own p hp)
   ·exact absurd rfl e
 ·rcases List.mem_or_eq_of_mem_set hp with hp|rfl
  ·exact h.qU p hp
  ·exact (h.qU (b,o) hm:G b=none)
 ·rcases List.mem_or_eq_of_mem_set hp with hp|rfl
  ·exact h.qR p hp
  ·exact (h.qR (b,o) hm:¬ F b)
theorem Hp.drew (h:Hp w0 F G0 G L w):Hp w0 F G0 G L w.drew:=⟨h.os,h.tape,h.output,h.size,h.sO,h.fr,h.ro,h.gm,h.gx,h.own,h.qU,h.qR,h.nd⟩
theorem Hp.drop (h:Hp w0 F G0 G L w) (hs:L'.Sublist L):Hp w0 F G0 G L' w:=⟨h.os,h.tape,h.output,h.size,h.sO,h.fr,h.ro,h.gm,h.gx,fun p hp=>h.own p (hs.subset hp),fun p hp=>h.qU p (hs.subset hp),fun p hp=>h.qR p (hs.subset hp),h.nd.sublist hs⟩
theorem Hp.cu {Pl bS Lo:List (Nat × Obj)} (h:Hp w0 F G0 G (Pl++Lo) w) (idx:List Nat) (hi:idx.Nodup) (hL:idx.map (fun i=>Pl[i]?)=bS.map some):Hp w0 F G0 G (bS++Lo) w:=by
 have hget:∀ (j:Nat) (p:Nat × Obj),bS[j]?=some p→∃ i:Nat,idx[j]?=some i∧Pl[i]?=some p:=by
  intro j p hp
  have h1:(idx.map (fun i=>Pl[i]?))[j]?=some (some p):=by rw [hL];simp [hp]
  rw [nE] at h1
  obtain ⟨i,hi1,hi2⟩:=mV.1 h1
  exact ⟨i,hi1,hi2⟩
 have hmem:∀ p∈bS++Lo,p∈Pl++Lo:=by
  intro p hp
  rcases lT.1 hp with hp|hp
  ·obtain ⟨j,hj⟩:=List.getElem?_of_mem hp
   obtain ⟨i,_,hi2⟩:=hget j p hj
   exact List.mem_append_left _ (kr hi2)
  ·exact List.mem_append_right _ hp
 have hnd:=List.pairwise_append.1 h.nd
 refine ⟨h.os,h.tape,h.output,h.size,h.sO,h.fr,h.ro,h.gm,h.gx,fun p hp=>h.own p (hmem p hp),fun p hp=>h.qU p (hmem p hp),fun p hp=>h.qR p (hmem p hp),List.pairwise_append.2 ⟨?_,hnd.2.1,fun p hp q hq=>?_⟩⟩
 ·refine List.pairwise_iff_getElem.2 fun x y hx hy hxy=>?_
  obtain ⟨i,hi1,hi2⟩:=hget x _ (dY hx)
  obtain ⟨j,hj1,hj2⟩:=hget y _ (dY hy)
  have hij:i≠j:=by
   intro e
   subst e
   obtain ⟨hx1,hx2⟩:=iL.1 hi1
   obtain ⟨hy1,hy2⟩:=iL.1 hj1
   exact (List.pairwise_iff_getElem.1 hi x y hx1 hy1 hxy) (by rw [hx2,hy2])
  obtain ⟨hi3,hi4⟩:=iL.1 hi2
  obtain ⟨hj3,X5⟩:=iL.1 hj2
  rcases Nat.lt_or_ge i j with hlt|hge
  ·rw [← hi4,← X5];exact List.pairwise_iff_getElem.1 hnd.1 i j hi3 hj3 hlt
  ·rw [← hi4,← X5];exact Ne.symm (List.pairwise_iff_getElem.1 hnd.1 j i hj3 hi3 (by omega))
 ·obtain ⟨j,hj⟩:=List.getElem?_of_mem hp
  obtain ⟨i,_,hi2⟩:=hget j p hj
  exact hnd.2.2 p (kr hi2) q hq
def GH.add (G:GH) (b:Nat) (o:Obj):GH:=fun k=>if k=b then some o else G k
theorem GH.EY (G:GH) {b:Nat} {o:Obj} (hn:G b=none) (k:Nat) (o':Obj) (h:G k=some o'):(G.add b o) k=some o':=by
 unfold GH.add;rw [ah (fun e=>by subst e;rw [hn] at h;cases h)];exact h
theorem GH.EZ (G:GH) (b:Nat) (o:Obj):(G.add b o) b=some o:=by simp [GH.add]
theorem Hp.giveUp (h:Hp w0 F G0 G L w) (i:Nat) (hi:L[i]?=some (b,o)):Hp w0 F G0 (G.add b o) (L.eraseIdx i) w:=by
 have hm:(b,o)∈L:=kr hi
 have hsub:(L.eraseIdx i).Sublist L:=List.eraseIdx_sublist L i
 have hne:∀ p∈L.eraseIdx i,p.1≠b:=by
  intro p hp e
  have h1:=SS h.nd hi (hsub.subset hp) e
  subst h1
  obtain ⟨j,hj,hjp⟩:=List.mem_eraseIdx_iff_getElem?.1 hp
  have hnd:=h.nd
  have hij:j≠i:=hj
  have hlt1:j < L.length:=(iL.1 hjp).1
  have hlt2:i < L.length:=(iL.1 hi).1
  have e1:=(iL.1 hjp).2
  have e2:=(iL.1 hi).2
  rcases Nat.lt_or_ge j i with hlt|hge
  ·exact (List.pairwise_iff_getElem.1 hnd j i hlt1 hlt2 hlt) (by rw [e1,e2])
  ·exact (List.pairwise_iff_getElem.1 hnd i j hlt2 hlt1 (by omega)) (by rw [e1,e2])
 refine ⟨h.os,h.tape,h.output,h.size,h.sO,h.fr,fun k o' hk=>?_,fun k o' hk=>GH.EY G (h.qU _ hm) k o' (h.gm k o' hk),fun k o' hk=>?_,fun p hp=>h.own p (hsub.subset hp),fun p hp=>?_,fun p hp=>h.qR p (hsub.subset hp),h.nd.sublist hsub⟩
 ·unfold GH.add at hk
  split at hk
  ·rename_i e;subst e;cases hk;exact h.own _ hm
  ·exact h.ro k o' hk
 ·unfold GH.add at hk
  split at hk
  ·rename_i e;subst e;exact .inr (h.qR _ hm)
  ·exact h.gx k o' hk
 ·unfold GH.add
  rw [ah (hne p hp)]
  exact h.qU p (hsub.subset hp)
theorem St.ev (h:St N D w0 F G0 G L T a w) {x:Operand} {v:aj} (hx:Proofs.YthmanofbmnfemaaGreat.ev T x=some v):a.eval x=v:=by
 cases x with
 | tmp t =>
  have:=h.get t v hx
  simp only [Act.eval,Array.getD_eq_getD_getElem?,this,Option.getD_some]
 | const u=>simp only [Proofs.YthmanofbmnfemaaGreat.ev,lS] at hx;subst hx;rfl
 | global g=>simpa [Proofs.YthmanofbmnfemaaGreat.ev,Act.eval] using hx
 | func f=>simpa [Proofs.YthmanofbmnfemaaGreat.ev,Act.eval] using hx
theorem St.evs (h:St N D w0 F G0 G L T a w):∀ {xs:List Operand} {vs:List aj},Proofs.YthmanofbmnfemaaGreat.evs T xs=some vs→xs.map a.eval=vs
 | [],vs,hx=>by simp [Proofs.YthmanofbmnfemaaGreat.evs] at hx;subst hx;rfl
 | x :: xs,vs,hx=>by
  unfold Proofs.YthmanofbmnfemaaGreat.evs at hx
  split at hx
  ·rename_i v vs' h1 h2
   simp only [lS] at hx
   subst hx
   rw [eu,h.ev h1,h.evs h2]
  ·cases hx
theorem St.put (h:St N D w0 F G0 G L T a w) {d:Nat} (hd:Nat.blt d N=true) (v:aj) (H':Hp w0 F G0 G' L' w'):St N D w0 F G0 G' L' ((d,v) :: T) (a.put (some d) v) w':=by
 have hlt:d < a.tmps.size:=by rw [h.lC];exact Eq.mp Nat.blt_eq hd
 refine ⟨by simp [Act.put,h.lC],fun t u ht=>?_,h.qI,H'⟩
 simp only [Act.put,Array.getElem?_setIfInBounds]
 by_cases e:d=t
 ·subst e
  rw [vD] at ht
  simp [hlt];simpa using ht
 ·rw [tF e] at ht
  simp [e];exact h.get t u ht
theorem St.move (h:St N D w0 F G0 G L T a w) (H':Hp w0 F G0 G' L' w'):St N D w0 F G0 G' L' T a w':=⟨h.lC,h.get,h.qI,H'⟩
def Uh (T:List (Nat × aj)):List (Nat × aj)→Prop
 | []=>True
 | (t,v) :: r=>lk T t=some v∧Uh T r
theorem aaS {T:List (Nat × aj)}:∀ {T':List (Nat × aj)},Uh T T'→∀ {t v},lk T' t=some v→lk T t=some v
 | [],_,_,_,h=>by simp [lk] at h
 | (s,u) :: r,hs,t,v,h=>by
  by_cases e:s=t
  ·subst e;rw [vD] at h;exact h ▸ hs.1
  ·rw [tF e] at h;exact aaS hs.2 h
theorem St.sub (h:St N D w0 F G0 G L T a w) {T':List (Nat × aj)} (hs:Uh T T'):St N D w0 F G0 G L T' a w:=⟨h.lC,fun t v ht=>h.get t v (aaS hs ht),h.qI,h.hp⟩
theorem St.cu {Pl bS Lo:List (Nat × Obj)} (h:St N D w0 F G0 G (Pl++Lo) T a w) (idx:List Nat) (hi:idx.Nodup) (hL:idx.map (fun i=>Pl[i]?)=bS.map some):St N D w0 F G0 G (bS++Lo) T a w:=⟨h.lC,h.get,h.qI,h.hp.cu idx hi hL⟩
end
end
section
open Go.RowKit
section base
variable {r:Option Nat} {P:Program} {ops:Array Oper} {Q:Exit→Act→World→Prop} {rest:List Oper} {a:Act} {w w':World} {o:Oper}
def MZ:Op→Bool
 | .defer _=>false
 | _=>true
theorem Ua {o:Oper} {ro:Option Nat} {ρ:Operand→aj} (h:MZ o.op=true):o.semAt ro ρ=execOp ρ o :=
 Oper.semAt_eq ro ρ o fun c e=>by rw [e] at h;cases h
theorem aG (h:Q .normal a w):WL r P ops Q [] a w:=wpListIn_nil h
theorem UF (hw:Region.wanted o (yielded ops a.tmps)=true) (h:o.wpIn (FW r) 0 P a w (WL r P ops Q rest) Q):WL r P ops Q (o :: rest) a w:=by
 show wpListIn (FW r) 0 P ops Q (o :: rest) a w
 unfold wpListIn
 rw [ay hw]
 exact h
theorem abD (hw:Region.wanted o (yielded ops a.tmps)=false) (h:WL r P ops Q rest (a.put o.dst undef) w):WL r P ops Q (o :: rest) a w:=by
 show wpListIn (FW r) 0 P ops Q (o :: rest) a w
 unfold wpListIn
 rw [ah (by simp [hw])]
 exact ⟨fun _ _=>trivial,h⟩
theorem fq {v:aj} (hw:Region.wanted o (yielded ops a.tmps)=true) (hd:MZ o.op=true) (h:(execOp a.eval o).run P w=.ok (.value v) w')
  (k:WL r P ops Q rest (a.put o.dst v) w'):WL r P ops Q (o :: rest) a w:=by
 refine UF hw ⟨fun _ _=>trivial,?_⟩
 rw [Ua hd,h]
 exact k
theorem UG (hw:Region.wanted o (yielded ops a.tmps)=true) (hd:MZ o.op=true) (h:(execOp a.eval o).run P w=.ok .skip w')
  (k:WL r P ops Q rest (a.put o.dst undef) w'):WL r P ops Q (o :: rest) a w:=by
 refine UF hw ⟨fun _ _=>trivial,?_⟩
 rw [Ua hd,h]
 exact k
def After (P:Program) (nx:Result Next) (R:Ending→World→Prop):Prop :=
 match nx with
 | .ok (.enter f args) w'=>Calls P f args w' R
 | .ok (.round l f tmps assign body) w'=>RoundIn (FW none) 0 P l f tmps assign body w' R
 | _=>False
structure qX (P:Program) (fv:aj) (args:List aj) (w:World) (R:Ending→World→Prop):Prop where
 go:After P ((do let d ← Deferred.ofValue fv args.toArray;invoke d.target d.args:Sem Next).run P w) R
theorem UE {nx:Result Next} {R:Ending→World→Prop} (hw:Region.wanted o (yielded ops a.tmps)=true) (hd:MZ o.op=true) (h:(execOp a.eval o).run P w=nx) (hc:After P nx R)
  (k:∀ e w',R e w'→∃ v,e=.returned v∧WL r P ops Q rest (a.put o.dst v) w'):WL r P ops Q (o :: rest) a w:=by
 refine UF hw ⟨fun _ _=>trivial,?_⟩
 rw [Ua hd,h]
 cases nx with
 | halt x y=>exact hc.elim
 | ok x w1 =>
  cases x with
  | enter f args =>
   refine ⟨JV r,(OV hc).mono fun e w2 hR=>?_⟩
   obtain ⟨v,rfl,hk⟩:=k e w2 hR
   exact hk
  | round l f tmps assign body =>
   have hc':RoundIn (FW none) 0 P l f tmps assign body w1 R:=hc
   refine ⟨JV r,?_⟩
   have h2:RoundIn (FW r) (0 - 1) P l f tmps assign body w1 R:=⟨bB,fun c cs hr=>hc'.2 c cs (room_wide _)⟩
   exact h2.mono fun e w2 hR=>by obtain ⟨v,rfl,hk⟩:=k e w2 hR;exact hk
  | _=>exact hc.elim
end base
section steps
variable {N:Nat} {D:List Deferred} {w0:World} {F:Nat→Prop} {G0 G:GH} {L:List (Nat × Obj)} {T:List (Nat × aj)}
variable {r:Option Nat} {P:Program} {ops:Array Oper} {Q:Exit→Act→World→Prop} {rest:List Oper} {a:Act} {w:World}
variable {d:Nat} {ty:TypeId} {pos:String} {aK:Array Edge} {g:Option (Nat × Bool)}
theorem wn {op:Op} {dst:Option Tmp} {y:Nat→Option Bool}:Region.wanted ⟨dst,op,ty,pos,aK,none⟩ y=true:=rfl
theorem abG (H:St N D w0 F G0 G L T a w) {j t:Nat} {b:Bool} (hj:(ops[j]?).bind (·.dst)=some t) (ht:lk T t=some (.bool b)):yielded ops a.tmps j=some b:=by
 unfold yielded
 rw [hj]
 simp [H.get t _ ht]
theorem wg (H:St N D w0 F G0 G L T a w) {op:Op} {dst:Option Tmp} {j t:Nat} {want b:Bool} (hj:(ops[j]?).bind (·.dst)=some t) (ht:lk T t=some (.bool b)) (hb:b=want) :
  Region.wanted ⟨dst,op,ty,pos,aK,some (j,want)⟩ (yielded ops a.tmps)=true:=by
 simp [Region.wanted,abG H hj ht,hb]
theorem aas (H:St N D w0 F G0 G L T a w) {op:Op} {j t:Nat} {want b:Bool} (hj:(ops[j]?).bind (·.dst)=some t) (ht:lk T t=some (.bool b)) (hb:b=!want) (hd:Nat.blt d N=true)
  (k:∀ a',St N D w0 F G0 G L ((d,undef) :: T) a' w→WL r P ops Q rest a' w):WL r P ops Q (⟨some d,op,ty,pos,aK,some (j,want)⟩ :: rest) a w:=by
 refine abD ?_ (k _ (H.put hd undef H.hp))
 simp only [Region.wanted,abG H hj ht,hb]
 cases want <;> rfl
theorem anz (H:St N D w0 F G0 G L T a w) {op:Op} {j t:Nat} {want:Bool} (hj:(ops[j]?).bind (·.dst)=some t) (ht:lk T t=some undef) (hd:Nat.blt d N=true)
  (k:∀ a',St N D w0 F G0 G L ((d,undef) :: T) a' w→WL r P ops Q rest a' w):WL r P ops Q (⟨some d,op,ty,pos,aK,some (j,want)⟩ :: rest) a w:=by
 refine abD ?_ (k _ (H.put hd undef H.hp))
 have h:yielded ops a.tmps j=none:=by
  unfold yielded
  rw [hj]
  simp [H.get t _ ht,undef]
 simp only [Region.wanted,h]
 cases want <;> rfl
theorem anC (_H:St N D w0 F G0 G L T a w) (t:Nat) {b:Bool} {X:Prop} (_ht:lk T t=some (.bool b)) (h1:b=true→X) (h0:b=false→X):X:=by cases b <;> simp_all
theorem C8 {x:Operand} {v:aj} (H:St N D w0 F G0 G L T a w) (hw:Region.wanted ⟨some d,.move x,ty,pos,aK,g⟩ (yielded ops a.tmps)=true) (hx:ev T x=some v) (hd:Nat.blt d N=true)
  (k:∀ a',St N D w0 F G0 G L ((d,v) :: T) a' w→WL r P ops Q rest a' w):WL r P ops Q (⟨some d,.move x,ty,pos,aK,g⟩ :: rest) a w :=
 fq (v:=v) (w':=w) hw rfl (by simp [execOp,H.ev hx]) (k _ (H.put hd v H.hp))
theorem ang {x:Operand} {v:aj} (H:St N D w0 F G0 G L T a w) (hw:Region.wanted ⟨some d,.assign x,ty,pos,aK,g⟩ (yielded ops a.tmps)=true) (hx:ev T x=some v) (hd:Nat.blt d N=true)
  (k:∀ a',St N D w0 F G0 G L ((d,v) :: T) a' w→WL r P ops Q rest a' w):WL r P ops Q (⟨some d,.assign x,ty,pos,aK,g⟩ :: rest) a w :=
 fq (v:=v) (w':=w) hw rfl (by simp [execOp,H.ev hx]) (k _ (H.put hd v H.hp))
theorem Jv {c x y:Operand} {b:Bool} {v:aj} (H:St N D w0 F G0 G L T a w) (hw:Region.wanted ⟨some d,.pick c x y,ty,pos,aK,g⟩ (yielded ops a.tmps)=true) (hc:ev T c=some (.bool b)) (hb:b=true) (hx:ev T x=some v) (hd:Nat.blt d N=true)
  (k:∀ a',St N D w0 F G0 G L ((d,v) :: T) a' w→WL r P ops Q rest a' w):WL r P ops Q (⟨some d,.pick c x y,ty,pos,aK,g⟩ :: rest) a w :=
 fq (v:=v) (w':=w) hw rfl (by simp [execOp,H.ev hx,H.ev hc,asBool,hb]) (k _ (H.put hd v H.hp))
theorem Nl {c x y:Operand} {b:Bool} {v:aj} (H:St N D w0 F G0 G L T a w) (hw:Region.wanted ⟨some d,.pick c x y,ty,pos,aK,g⟩ (yielded ops a.tmps)=true) (hc:ev T c=some (.bool b)) (hb:b=false) (hx:ev T y=some v) (hd:Nat.blt d N=true)
  (k:∀ a',St N D w0 F G0 G L ((d,v) :: T) a' w→WL r P ops Q rest a' w):WL r P ops Q (⟨some d,.pick c x y,ty,pos,aK,g⟩ :: rest) a w :=
 fq (v:=v) (w':=w) hw rfl (by simp [execOp,H.ev hx,H.ev hc,asBool,hb]) (k _ (H.put hd v H.hp))
class jK (P:Program) (t:TypeId) (d:outParam TypeDesc):Prop where
 h:P.underlying t=some d
class Ty (P:Program) (t:TypeId) (sz bytes:outParam Nat) (zero:outParam (List aj)) (agg:outParam Bool):Prop where
 info:(P.info? t).map (fun i=>(i.size,i.bytes,i.zero.map fun z=>z.cells.toList))=some (sz,bytes,some zero)
 ag:(P.underlying t).map (fun|.struct _=>true|.array _ _=>true|_=>false)=some agg
theorem Ty.parts {t:TypeId} {sz bytes:Nat} {zero:List aj} {agg:Bool} (h:Ty P t sz bytes zero agg):∃ i z,P.info? t=some i∧i.size=sz∧i.bytes=bytes∧i.zero=some z∧z.cells=zero.toArray:=by
 obtain ⟨i,hi,hx⟩:=mV.1 h.info
 simp only [fZ] at hx
 obtain ⟨z,hz,hzz⟩:=mV.1 hx.2.2
 exact ⟨i,z,hi,hx.1,hx.2.1,hz,by rw [← hzz]⟩
theorem CX {t:TypeId} {i:TypeInfo} (h:P.info? t=some i) (w:World):(typeInfo t).run P w=.ok i w:=by simp [typeInfo,program,Sem.run,dM,h]
theorem Ty.Bo {t:TypeId} {sz bytes:Nat} {zero:List aj} {agg:Bool} (h:Ty P t sz bytes zero agg) (w:World):(sizeOf t).run P w=.ok sz w:=by
 obtain ⟨i,z,hi,h1,-,-,-⟩:=h.parts
 simp [sizeOf,dM,CX hi,h1]
theorem Ty.aam {t:TypeId} {sz bytes:Nat} {zero:List aj} {agg:Bool} (h:Ty P t sz bytes zero agg) (w:World):∃ z,(zeroValue t).run P w=.ok z w∧z.cells=zero.toArray:=by
 obtain ⟨i,z,hi,-,-,h1,h2⟩:=h.parts
 exact ⟨z,by simp [zeroValue,dM,CX hi,h1],h2⟩
theorem mE {t:TypeId} {u:TypeDesc} (h:P.underlying t=some u) (w:World):(underlying t).run P w=.ok u w:=by simp [underlying,program,Sem.run,dM,h]
theorem Ty.Ng {t:TypeId} {sz bytes:Nat} {zero:List aj} {agg:Bool} (h:Ty P t sz bytes zero agg) (w:World):(isAgg t).run P w=.ok agg w:=by
 obtain ⟨u,hu,hx⟩:=mV.1 h.ag
 unfold isAgg
 simp only [dM,mE hu,lg]
 cases u <;> simp_all
theorem dx {elem:TypeId} {sz bytes:Nat} {zero:List aj} {agg:Bool} (ht:Ty P elem sz bytes zero agg) (H:St N D w0 F G0 G L T a w) (hw:Region.wanted ⟨some d,.alloc elem,ty,pos,aK,g⟩ (yielded ops a.tmps)=true) (hd:Nat.blt d N=true)
  (k:∀ b a' w',w0.heap.size≤b→St N D w0 F G0 G ((b,.cells zero.toArray elem (0,0)) :: L) ((d,.pointer (some ⟨b,0,none⟩)) :: T) a' w'→WL r P ops Q rest a' w'):WL r P ops Q (⟨some d,.alloc elem,ty,pos,aK,g⟩ :: rest) a w:=by
 obtain ⟨z,hz,hzc⟩:=ht.aam w
 refine fq (v:=.pointer (some ⟨w.heap.size,0,none⟩)) (w':=w.alloc (.cells zero.toArray elem (0,0))) hw rfl ?_ (k _ _ _ H.hp.size (H.put hd _ (H.hp.alloc _)))
 simp [execOp,Instr.alloc,dM,hz,newVar,newRow,newObj,Sem.run,hzc]
theorem dU {elem:TypeId} {x:Operand} {v:aj} {cs:List aj} (H:St N D w0 F G0 G L T a w) (hw:Region.wanted ⟨some d,.box elem x,ty,pos,aK,g⟩ (yielded ops a.tmps)=true) (hx:ev T x=some v) (hc:v.cells=cs.toArray) (hd:Nat.blt d N=true)
  (k:∀ b a' w',w0.heap.size≤b→St N D w0 F G0 G ((b,.cells cs.toArray elem (0,0)) :: L) ((d,.pointer (some ⟨b,0,none⟩)) :: T) a' w'→WL r P ops Q rest a' w'):WL r P ops Q (⟨some d,.box elem x,ty,pos,aK,g⟩ :: rest) a w:=by
 refine fq (v:=.pointer (some ⟨w.heap.size,0,none⟩)) (w':=w.alloc (.cells cs.toArray elem (0,0))) hw rfl ?_ (k _ _ _ H.hp.size (H.put hd _ (H.hp.alloc _)))
 simp [execOp,Instr.box,dM,newVar,newRow,newObj,Sem.run,H.ev hx,hc]
def aF (G:GH) (b o:Nat):Option aj:=match G b with|some (.cells c _ _)=>c[o]?|_=>none
theorem Hp.aF (h:Hp w0 F G0 G L w) {b o:Nat} {v:aj} (hg:Proofs.YthmanofbmnfemaaGreat.aF G b o=some v):w.cell? ⟨b,o,none⟩=some v:=by
 unfold Proofs.YthmanofbmnfemaaGreat.aF at hg
 split at hg
 ·rename_i c e f he
  simp only [World.cell?,h.ro b _ he]
  exact hg
 ·cases hg
theorem Hp.nQ (h:Hp w0 F G0 G L w) (i:Nat) {b o:Nat} {c:Array aj} {e:TypeId} {fz:Nat × Nat} {v:aj} (hi:L[i]?=some (b,.cells c e fz)) (hv:c[o]?=some v):w.cell? ⟨b,o,none⟩=some v:=by
 have:=h.own _ (kr hi)
 simp only [World.cell?] at *
 rw [this]
 exact hv
theorem add_lit (b o n:Nat):(⟨b,o,none⟩:Addr).add n=⟨b,o+n,none⟩:=by
 unfold Addr.add
 split
 ·rename_i h;subst h;rfl
 ·rfl
theorem TF {b o:Nat} {v:aj} (h:w.cell? ⟨b,o,none⟩=some v):(load ⟨b,o,none⟩).run P w=.ok v w:=by simp [load,Sem.run,h]
theorem run_loadCells (b:Nat) (w:World):∀ (cs:List aj) (o i:Nat) (acc:Array aj),(∀ j v,cs[j]?=some v→w.cell? ⟨b,o+i+j,none⟩=some v) →
  (loadCellsFrom ⟨b,o,none⟩ i cs.length acc).run P w=.ok (acc++cs.toArray) w
 | [],o,i,acc,_=>by simp [loadCellsFrom,Sem.run]
 | c :: cs,o,i,acc,h=>by
  have h0:=h 0 c rfl
  have ih:=run_loadCells b w cs o (i+1) (acc.push c) (fun j v hj=>by have:=h (j+1) v (by simpa using hj);rw [← this];congr 2;omega)
  simp only [loadCellsFrom,kG,dM,add_lit,TF (P:=P) (by simpa using h0),lg,ih]
  congr 1
  apply Array.ext'
  simp
theorem kX {t:TypeId} {sz bytes:Nat} {zero:List aj} (ht:Ty P t sz bytes zero false) {x:Operand} {b o:Nat} {v:aj} (H:St N D w0 F G0 G L T a w) (hw:Region.wanted ⟨some d,.load t x,ty,pos,aK,g⟩ (yielded ops a.tmps)=true)
  (hx:ev T x=some (.pointer (some ⟨b,o,none⟩))) (hc:w.cell? ⟨b,o,none⟩=some v) (hd:Nat.blt d N=true)
  (k:∀ a',St N D w0 F G0 G L ((d,v) :: T) a' w→WL r P ops Q rest a' w):WL r P ops Q (⟨some d,.load t x,ty,pos,aK,g⟩ :: rest) a w:=by
 refine fq (v:=v) (w':=w) hw rfl ?_ (k _ (H.put hd v H.hp))
 simp only [execOp,Instr.loadAt,Instr.sureAddr,loadVar,dM,H.ev hx,ht.Ng,lg,qE,DI,if_false,TF hc]
theorem bg {t:TypeId} {sz bytes:Nat} {zero:List aj} (ht:Ty P t sz bytes zero true) {x:Operand} {b o:Nat} {cs:List aj} (H:St N D w0 F G0 G L T a w) (hw:Region.wanted ⟨some d,.load t x,ty,pos,aK,g⟩ (yielded ops a.tmps)=true)
  (hx:ev T x=some (.pointer (some ⟨b,o,none⟩))) (hl:cs.length=sz) (hc:∀ j v,cs[j]?=some v→w.cell? ⟨b,o+j,none⟩=some v) (hd:Nat.blt d N=true)
  (k:∀ a',St N D w0 F G0 G L ((d,.agg cs.toArray) :: T) a' w→WL r P ops Q rest a' w):WL r P ops Q (⟨some d,.load t x,ty,pos,aK,g⟩ :: rest) a w:=by
 refine fq (v:=.agg cs.toArray) (w':=w) hw rfl ?_ (k _ (H.put hd _ H.hp))
 have h1:=run_loadCells (P:=P) b w cs o 0 #[] (fun j v hj=>by simpa using hc j v hj)
 simp only [Array.empty_append,hl] at h1
 simp [execOp,Instr.loadAt,Instr.sureAddr,loadVar,dM,H.ev hx,ht.Ng,ht.Bo,loadCells,h1]
theorem Hp.cK (h:Hp w0 F G0 G L w) (i:Nat) {b o:Nat} {c:List aj} {e:TypeId} {fz:Nat × Nat} {cs:List aj} (hi:L[i]?=some (b,.cells c.toArray e fz)) (hv:(c.drop o).take cs.length=cs):∀ j v,cs[j]?=some v→w.cell? ⟨b,o+j,none⟩=some v:=by
 intro j v hj
 refine h.nQ i hi ?_
 rw [← hv,uG] at hj
 split at hj
 ·rw [List.getElem?_drop] at hj
  simpa using hj
 ·cases hj
theorem apj {b o:Nat} {c:Array aj} {e:TypeId} {fz:Nat × Nat} (h:w.heap[b]?=some (.cells c e fz)) (v:aj):uE b (.cells (c.setIfInBounds o v) e fz) w (w.setCell ⟨b,o,none⟩ v):=by
 refine ⟨rfl,rfl,rfl,by simp,?_,fun k hk=>Below.heap_setCell w _ v k hk⟩
 simp [World.setCell,Array.getElem?_modify,h]
theorem uE.trans {b:Nat} {o1 o2:Obj} {w1 w2 w3:World} (h:uE b o1 w1 w2) (k:uE b o2 w2 w3):uE b o2 w1 w3 :=
 ⟨k.os.trans h.os,k.tape.trans h.tape,k.output.trans h.output,k.size.trans h.size,k.this,fun j hj=>(k.others j hj).trans (h.others j hj)⟩
theorem uE.refl {b:Nat} {o:Obj} {w:World} (h:w.heap[b]?=some o):uE b o w w:=⟨rfl,rfl,rfl,rfl,h,fun _ _=>rfl⟩
def oneCell':aj→Bool
 | .agg _|.tuple _=>false
 | _=>true
def setRow (c:List aj):Nat→List aj→List aj
 | _,[]=>c
 | o,v :: vs=>setRow (c.set o v) (o+1) vs
theorem amY {b o:Nat} {c:Array aj} {e:TypeId} {v:aj} (hb:w.heap[b]?=some (.cells c e (0,0))) (ho:o < c.size) (hv:oneCell' v=true) :
  (store ⟨b,o,none⟩ v).run P w=.ok () (w.setCell ⟨b,o,none⟩ v):=by
 have h1:w.cell? ⟨b,o,none⟩=some c[o]:=by simp [World.cell?,hb,ho]
 have h2:w.frozen? ⟨b,o,none⟩=false:=by simp [World.frozen?,hb]
 unfold store
 cases v <;> first|(simp [oneCell'] at hv;done)|(simp only [Sem.run,h1,h2];rfl)
theorem TG (b:Nat) (e:TypeId) (o0:Nat):∀ (vs:List aj) (i:Nat) (c:List aj) (w:World),w.heap[b]?=some (.cells c.toArray e (0,0))→o0+i+vs.length≤c.length→(∀ v∈vs,oneCell' v=true) →
  ∃ w',(storeCells ⟨b,o0,none⟩ vs i).run P w=.ok () w'∧uE b (.cells (setRow c (o0+i) vs).toArray e (0,0)) w w'
 | [],i,c,w,hb,_,_=>⟨w,by simp [storeCells,Sem.run],uE.refl hb⟩
 | v :: vs,i,c,w,hb,hl,hv=>by
  simp only [kG] at hl
  have hr:=amY (P:=P) (o:=o0+i) (v:=v) hb (by simp;omega) (hv v (by simp))
  have hu:=apj (o:=o0+i) hb v
  have hb':=hu.this
  simp only [List.setIfInBounds_toArray] at hb' hu
  obtain ⟨w2,h2,u2⟩:=TG b e o0 vs (i+1) (c.set (o0+i) v) _ hb' (by simp;omega) (fun u hu=>hv u (by simp [hu]))
  refine ⟨w2,?_,?_⟩
  ·simp only [storeCells,dM,add_lit,hr,lg,h2]
  ·exact hu.trans u2
theorem aV {t:TypeId} {sz bytes:Nat} {zero:List aj} {agg:Bool} (ht:Ty P t sz bytes zero agg) {x y:Operand} (i:Nat) {b o:Nat} {c:List aj} {e:TypeId} {v:aj} {vs:List aj} (c':List aj) (H:St N D w0 F G0 G L T a w) (hw:Region.wanted ⟨none,.store t x y,ty,pos,aK,g⟩ (yielded ops a.tmps)=true)
  (hx:ev T x=some (.pointer (some ⟨b,o,none⟩))) (hi:L[i]?=some (b,.cells c.toArray e (0,0))) (hy:ev T y=some v) (hvs:v.cells=vs.toArray) (hl:Nat.beq vs.length sz=true) (h1:vs.all oneCell'=true) (hle:Nat.ble (o+vs.length) c.length=true) (hset:setRow c o vs=c')
  (k:∀ w',St N D w0 F G0 G (L.set i (b,.cells c'.toArray e (0,0))) T a w'→WL r P ops Q rest a w'):WL r P ops Q (⟨none,.store t x y,ty,pos,aK,g⟩ :: rest) a w:=by
 have hb:=H.hp.own _ (kr hi)
 obtain ⟨w2,h2,u2⟩:=TG (P:=P) b e o vs 0 c w hb (by simpa using Nat.le_of_ble_eq_true hle) (fun u hu=>lq.1 h1 u hu)
 simp only [kI,hset] at u2
 refine UG (w':=w2) hw rfl ?_ (k w2 (H.move (H.hp.upd hi u2)))
 have hl':vs.length=sz:=Am hl
 simp [execOp,Instr.storeAt,Instr.sureAddr,storeVar,dM,H.ev hx,H.ev hy,ht.Bo,hvs,hl',h2]
class dB (P:Program) (s n:Nat) (off:outParam Nat):Prop where
 h:(match P.underlying s with|some (.struct fs)=>(fs[n]?).bind fun f=>(P.info? f.type).map fun i=>(f.offset,i.size == 0)|_=>none)=some (off,false)
theorem dB.parts {s n off:Nat} (h:dB P s n off):∃ fs fl i,P.underlying s=some (.struct fs)∧fs[n]?=some fl∧P.info? fl.type=some i∧fl.offset=off∧i.size≠0:=by
 obtain ⟨h⟩:=h
 split at h
 ·rename_i fs hs
  obtain ⟨fl,hf,h2⟩:=Option.bind_eq_some_iff.1 h
  obtain ⟨i,hi,h3⟩:=mV.1 h2
  simp only [fZ,beq_eq_false_iff_ne] at h3
  exact ⟨fs,fl,i,hs,hf,hi,h3.1,h3.2⟩
 ·cases h
theorem Gq {s:TypeId} {x:Operand} {n b o off:Nat} (hs:dB P s n off) (H:St N D w0 F G0 G L T a w) (hw:Region.wanted ⟨some d,.fieldAddr s x n,ty,pos,aK,g⟩ (yielded ops a.tmps)=true)
  (hx:ev T x=some (.pointer (some ⟨b,o,none⟩))) (hd:Nat.blt d N=true)
  (k:∀ a',St N D w0 F G0 G L ((d,.pointer (some ⟨b,o+off,none⟩)) :: T) a' w→WL r P ops Q rest a' w):WL r P ops Q (⟨some d,.fieldAddr s x n,ty,pos,aK,g⟩ :: rest) a w:=by
 obtain ⟨fs,fl,i,h1,h2,h3,h4,h5⟩:=hs.parts
 refine fq (v:=.pointer (some ⟨b,o+off,none⟩)) (w':=w) hw rfl ?_ (k _ (H.put hd _ H.hp))
 simp only [execOp,Instr.fieldAt,Instr.sureAddr,dM,H.ev hx,mE h1,h2,lg,qE,fieldPlace,sizeOf,CX h3,ah h5,add_lit,h4]
theorem Jt {s e:TypeId} {sz bytes:Nat} {zero:List aj} {agg:Bool} (hs:P.underlying s=some (.slice e)) (ht:Ty P e sz bytes zero agg) {x y:Operand} {b o n c:Nat} {kd:IntKind} {z:Int} (i:Nat) (H:St N D w0 F G0 G L T a w) (hw:Region.wanted ⟨some d,.indexAddr s x y,ty,pos,aK,g⟩ (yielded ops a.tmps)=true)
  (hx:ev T x=some (.slice (some ⟨b,o,none⟩) n c)) (hy:ev T y=some (.int kd z)) (hz:z=(i:Int)) (hn:i < n) (hd:Nat.blt d N=true)
  (k:∀ a',St N D w0 F G0 G L ((d,.pointer (some ⟨b,o+i*sz,none⟩)) :: T) a' w→WL r P ops Q rest a' w):WL r P ops Q (⟨some d,.indexAddr s x y,ty,pos,aK,g⟩ :: rest) a w:=by
 subst hz
 refine fq (v:=.pointer (some ⟨b,o+i*sz,none⟩)) (w':=w) hw rfl ?_ (k _ (H.put hd _ H.hp))
 have hr:(0:Int)≤i∧(i:Int) < (n:Int):=by omega
 simp only [execOp,Instr.indexAt,asIntOf,dM,H.ev hx,H.ev hy,mE hs,lg,qE,ay hr,ht.Bo,add_lit,Int.toNat_natCast]
theorem qh {x:Operand} {n:Nat} {vs:List aj} {v:aj} (H:St N D w0 F G0 G L T a w) (hw:Region.wanted ⟨some d,.extract x n,ty,pos,aK,g⟩ (yielded ops a.tmps)=true) (hx:ev T x=some (.tuple vs.toArray)) (hv:vs[n]?=some v) (hd:Nat.blt d N=true)
  (k:∀ a',St N D w0 F G0 G L ((d,v) :: T) a' w→WL r P ops Q rest a' w):WL r P ops Q (⟨some d,.extract x n,ty,pos,aK,g⟩ :: rest) a w :=
 fq (v:=v) (w':=w) hw rfl (by simp [execOp,Instr.extract,H.ev hx,hv]) (k _ (H.put hd _ H.hp))
theorem rT {x:Operand} {p:Addr} (H:St N D w0 F G0 G L T a w) (hw:Region.wanted ⟨some d,.nilCheck x,ty,pos,aK,g⟩ (yielded ops a.tmps)=true) (hx:ev T x=some (.pointer (some p))) (hd:Nat.blt d N=true)
  (k:∀ a',St N D w0 F G0 G L ((d,.pointer (some p)) :: T) a' w→WL r P ops Q rest a' w):WL r P ops Q (⟨some d,.nilCheck x,ty,pos,aK,g⟩ :: rest) a w :=
 fq (v:=.pointer (some p)) (w':=w) hw rfl (by simp [execOp,H.ev hx]) (k _ (H.put hd _ H.hp))
theorem mP {fn:Fn} {xs:List Operand} {vs:List aj} (H:St N D w0 F G0 G L T a w) (hw:Region.wanted ⟨some d,.makeFunc fn #[] xs.toArray,ty,pos,aK,g⟩ (yielded ops a.tmps)=true) (hx:evs T xs=some vs) (hd:Nat.blt d N=true)
  (k:∀ a',St N D w0 F G0 G L ((d,.func fn #[] vs.toArray) :: T) a' w→WL r P ops Q rest a' w):WL r P ops Q (⟨some d,.makeFunc fn #[] xs.toArray,ty,pos,aK,g⟩ :: rest) a w :=
 fq (v:=.func fn #[] vs.toArray) (w':=w) hw rfl (by simp [execOp,Instr.makeFunc,H.evs hx]) (k _ (H.put hd _ H.hp))
def zu (pl:List (Nat × Nat)):List aj→List (Nat × List aj)→Option (List aj)
 | c,[]=>some c
 | c,(i,vs) :: rest=>match pl[i]? with
  | none=>none
  | some (off,size)=>bif Nat.beq vs.length size && Nat.ble (off+vs.length) c.length then zu pl (setRow c off vs) rest else none
theorem Ub:∀ (vs:List aj) (o:Nat) (c:List aj),(setRow c o vs).length=c.length
 | [],_,_=>rfl
 | v :: vs,o,c=>by simp [setRow,Ub vs]
theorem Xx (off:Nat):∀ (vs:List aj) (j:Nat) (c:List aj),
  ((vs.zipIdx j).toArray).foldl (fun cs (x:aj × Nat)=>cs.setIfInBounds (off+x.2) x.1) c.toArray=(setRow c (off+j) vs).toArray
 | [],j,c=>by simp [setRow]
 | v :: vs,j,c=>by
  have ih:=Xx off vs (j+1) (c.set (off+j) v)
  simp only [List.zipIdx_cons,List.foldl_toArray'] at *
  simp only [List.foldl_cons,List.setIfInBounds_toArray]
  exact ih
theorem fill_eq (place:Nat→Option (Nat × Nat)) (pl:List (Nat × Nat)) (hp:∀ i q,pl[i]?=some q→place i=some q):∀ (parts:List (Nat × aj)) (M6:List (Nat × List aj)) (c c':List aj),
  parts.map (fun x=>(x.1,x.2.cells.toList))=M6→zu pl c M6=some c'→Instr.fill place c.toArray parts=some c'.toArray
 | [],M6,c,c',hm,h=>by subst hm;simp [zu] at h;subst h;rfl
 | (i,v) :: parts,M6,c,c',hm,h=>by
  subst hm
  simp only [eu,zu] at h
  split at h
  ·cases h
  ·rename_i off size hq
   cases hcond:(Nat.beq v.cells.toList.length size && Nat.ble (off+v.cells.toList.length) c.length) with
   | false=>rw [hcond] at h;cases h
   | true =>
    rw [hcond] at h
    simp only [lU] at hcond
    have e1:=Am hcond.1
    have e2:=Nat.le_of_ble_eq_true hcond.2
    have ih:=fill_eq place pl hp parts _ (setRow c off v.cells.toList) c' rfl h
    have hf:=Xx off v.cells.toList 0 c
    simp only [kI] at hf
    simp only [sG] at e1 e2
    unfold Instr.fill
    rw [hp i _ hq]
    have hz:(v.cells.zipIdx:Array (aj × Nat))=((v.cells.toList.zipIdx 0).toArray):=by
     apply Array.ext';simp
    simp only [e1,ne_eq,not_true_eq_false,DI,decide_false,Bool.false_or,List.size_toArray]
    rw [ah (by simp;omega),hz,hf]
    exact ih
structure ru (P:Program) (t:TypeId) (pl:List (Nat × Nat)) (zero:List aj):Prop where
 h:(match P.underlying t with|some (.struct fs)=>some (fs.toList.map fun f=>(f.offset,(P.info? f.type).map (·.size)))|_=>none)=some (pl.map fun q=>(q.1,some q.2))
 z:(P.info? t).map (fun i=>i.zero.map fun z=>z.cells.toList)=some (some zero)
end steps
end
section
open Go.RowKit
section steps
variable {N:Nat} {D:List Deferred} {w0:World} {F:Nat→Prop} {G0 G:GH} {L:List (Nat × Obj)} {T:List (Nat × aj)}
variable {r:Option Nat} {P:Program} {ops:Array Oper} {Q:Exit→Act→World→Prop} {rest:List Oper} {a:Act} {w:World}
variable {d:Nat} {ty:TypeId} {pos:String} {aK:Array Edge} {g:Option (Nat × Bool)}
theorem ru.parts {t:TypeId} {pl:List (Nat × Nat)} {zero:List aj} (h:ru P t pl zero):∃ fs i z,P.underlying t=some (.struct fs)∧P.info? t=some i∧i.zero=some z∧z.cells=zero.toArray ∧
  fs.toList.map (fun f=>(f.offset,(P.info? f.type).map (·.size)))=pl.map fun q=>(q.1,some q.2):=by
 obtain ⟨h,hz⟩:=h
 obtain ⟨i,hi,hx⟩:=mV.1 hz
 obtain ⟨z,hz1,hz2⟩:=mV.1 hx
 split at h
 ·rename_i fs hs
  exact ⟨fs,i,z,hs,hi,hz1,by rw [← hz2],by simpa using h⟩
 ·cases h
theorem aal (w:World):∀ (fs:List Field) (pl:List (Nat × Nat)),fs.map (fun f=>(f.offset,(P.info? f.type).map (·.size)))=pl.map (fun q=>(q.1,some q.2)) →
  (fs.mapM (fun f=>(do pure (f.offset,← sizeOf f.type):Sem (Nat × Nat)))).run P w=.ok pl w
 | [],[],_=>by simp [Sem.run]
 | [],q :: pl,h=>by simp at h
 | f :: fs,[],h=>by simp at h
 | f :: fs,q :: pl,h=>by
  simp only [eu,List.cons.injEq,fZ] at h
  obtain ⟨⟨h1,h2⟩,h3⟩:=h
  obtain ⟨i,hi,hs⟩:=mV.1 h2
  have ih:=aal w fs pl h3
  have hsz:(sizeOf f.type).run P w=.ok q.2 w:=by simp only [sizeOf,dM,CX hi,lg,qE,hs]
  simp only [List.mapM_cons,dM,hsz,lg,qE,ih,h1]
theorem run_build {t:TypeId} {pl:List (Nat × Nat)} {zero:List aj} (h:ru P t pl zero) {parts:Array (Nat × aj)} {cs:List aj}
  (hf:zu pl zero (parts.toList.map fun x=>(x.1,x.2.cells.toList))=some cs) (w:World):(Instr.build t parts).run P w=.ok (.agg cs.toArray) w:=by
 obtain ⟨fs,i,z,h1,h2,h3,h4,h5⟩:=h.parts
 have hm:=aal (P:=P) w fs.toList pl h5
 have hm':(fs.mapM (fun f=>(do pure (f.offset,← sizeOf f.type):Sem (Nat × Nat)))).run P w=.ok pl.toArray w:=by
  rw [Array.mapM_eq_mapM_toList]
  simp only [map_eq_pure_bind,dM,hm,lg,qE]
 have Rj:=fill_eq (fun i=>pl.toArray[i]?) pl (fun i q hq=>by simpa using hq) parts.toList _ zero cs rfl hf
 simp only [Instr.build,zeroValue,dM,CX h2,h3,lg,qE,h4,mE h1,hm',Rj]
def pts (T:List (Nat × aj)):List (Nat × Operand)→Option (List (Nat × aj))
 | []=>some []
 | (i,x) :: q=>match ev T x,pts T q with|some v,some vs=>some ((i,v) :: vs)|_,_=>none
theorem St.pts (H:St N D w0 F G0 G L T a w):∀ {xs:List (Nat × Operand)} {vs:List (Nat × aj)},Proofs.YthmanofbmnfemaaGreat.pts T xs=some vs→xs.map (fun x=>(x.1,a.eval x.2))=vs
 | [],vs,hx=>by simp [Proofs.YthmanofbmnfemaaGreat.pts] at hx;subst hx;rfl
 | (i,x) :: xs,vs,hx=>by
  unfold Proofs.YthmanofbmnfemaaGreat.pts at hx
  split at hx
  ·rename_i v vs' h1 h2
   simp only [lS] at hx
   subst hx
   rw [eu,H.ev h1,H.pts h2]
  ·cases hx
theorem jY {t:TypeId} {pl:List (Nat × Nat)} {zero:List aj} (ht:ru P t pl zero) {xs:List (Nat × Operand)} {vs:List (Nat × aj)} {vs':List (Nat × List aj)} (cs:List aj) (H:St N D w0 F G0 G L T a w) (hw:Region.wanted ⟨some d,.build t xs.toArray,ty,pos,aK,g⟩ (yielded ops a.tmps)=true)
  (hx:pts T xs=some vs) (hv:vs.map (fun x=>(x.1,x.2.cells.toList))=vs') (hf:zu pl zero vs'=some cs) (hd:Nat.blt d N=true)
  (k:∀ a',St N D w0 F G0 G L ((d,.agg cs.toArray) :: T) a' w→WL r P ops Q rest a' w):WL r P ops Q (⟨some d,.build t xs.toArray,ty,pos,aK,g⟩ :: rest) a w:=by
 refine fq (v:=.agg cs.toArray) (w':=w) hw rfl ?_ (k _ (H.put hd _ H.hp))
 have h1:=run_build ht (parts:=(vs.toArray)) (cs:=cs) (by simpa [hv] using hf) w
 simp only [execOp,List.map_toArray,H.pts hx,dM,h1,lg,qE]
theorem gK {t e:TypeId} {sz bytes:Nat} {zero:List aj} {agg:Bool} (hs:P.underlying t=some (.slice e)) (ht:Ty P e sz bytes zero agg) {n:Nat} {xs:List (Nat × Operand)} {vs:List (Nat × aj)} {vs':List (Nat × List aj)} (z:List aj) (cs:List aj) (H:St N D w0 F G0 G L T a w) (hw:Region.wanted ⟨some d,.buildSlice t n xs.toArray,ty,pos,aK,g⟩ (yielded ops a.tmps)=true)
  (hx:pts T xs=some vs) (hv:vs.map (fun x=>(x.1,x.2.cells.toList))=vs') (hn:Nat.ble (n*sz) 1000=true) (hn0:Nat.beq (n*sz) 0=false) (hz:(List.range (n*sz)).map (fun i=>zero[i % zero.length]!)=z) (hpl:∀ i q,((List.range n).map fun i=>(i*sz,sz))[i]?=some q→(some (i*sz,sz):Option (Nat × Nat))=some q)
  (hf:zu ((List.range n).map fun i=>(i*sz,sz)) z vs'=some cs) (hd:Nat.blt d N=true)
  (k:∀ b a' w',w0.heap.size≤b→St N D w0 F G0 G ((b,.cells cs.toArray e (0,0)) :: L) ((d,.slice (some ⟨b,0,none⟩) n n) :: T) a' w'→WL r P ops Q rest a' w'):WL r P ops Q (⟨some d,.buildSlice t n xs.toArray,ty,pos,aK,g⟩ :: rest) a w:=by
 refine fq (v:=.slice (some ⟨w.heap.size,0,none⟩) n n) (w':=w.alloc (.cells cs.toArray e (0,0))) hw rfl ?_ (k _ _ _ H.hp.size (H.put hd _ (H.hp.alloc _)))
 obtain ⟨z0,hz0,hzc⟩:=ht.aam w
 have h16:¬ n*sz > 2 ^ 24:=by have:=Nat.le_of_ble_eq_true hn;simp;omega
 have h0:¬ n*sz=0:=by intro e;rw [e] at hn0;cases hn0
 have Rj:=fill_eq (fun i=>some (i*sz,sz)) _ hpl vs vs' z cs hv hf
 have hz':(Array.range (n*sz)).map (fun x=>zero.toArray[x % zero.toArray.size]!)=z.toArray:=by
  rw [← hz];apply Array.ext';simp
 simp only [execOp,List.map_toArray,H.pts hx,Instr.buildSlice,dM,mE hs,lg,ht.Bo,ah h16,ah h0,hz0,hzc,qE,hz',Rj,newRow,newObj,Sem.run]
 rfl
theorem CK {z:Int} (h1:-9223372036854775808≤z) (h2:z < 9223372036854775808):IntKind.i64.wrap z=z:=by
 unfold IntKind.wrap
 have e:(2:Int) ^ 64=18446744073709551616:=by decide
 have e':(2:Int) ^ (64 - 1)=9223372036854775808:=by decide
 simp only [IntKind.bits,IntKind.signed,Ca,e,e',lV]
 split <;> omega
theorem Nj {x y:Operand} {t yt:TypeId} {p q:Int} (z:Int) (H:St N D w0 F G0 G L T a w) (hw:Region.wanted ⟨some d,.binOp .add t x y yt,ty,pos,aK,g⟩ (yielded ops a.tmps)=true) (hx:ev T x=some (.int .i64 p)) (hy:ev T y=some (.int .i64 q)) (hz:p+q=z) (h1:-9223372036854775808≤z) (h2:z < 9223372036854775808) (hd:Nat.blt d N=true)
  (k:∀ a',St N D w0 F G0 G L ((d,.int .i64 z) :: T) a' w→WL r P ops Q rest a' w):WL r P ops Q (⟨some d,.binOp .add t x y yt,ty,pos,aK,g⟩ :: rest) a w :=
 fq (v:=.int .i64 z) (w':=w) hw rfl (by simp [execOp,eqGuard,binOp,Op.intArith,H.ev hx,H.ev hy,dM,hz,CK h1 h2]) (k _ (H.put hd _ H.hp))
theorem lJ {x y:Operand} {t yt:TypeId} {p q:Int} (z:Int) (H:St N D w0 F G0 G L T a w) (hw:Region.wanted ⟨some d,.binOp .sub t x y yt,ty,pos,aK,g⟩ (yielded ops a.tmps)=true) (hx:ev T x=some (.int .i64 p)) (hy:ev T y=some (.int .i64 q)) (hz:p - q=z) (h1:-9223372036854775808≤z) (h2:z < 9223372036854775808) (hd:Nat.blt d N=true)
  (k:∀ a',St N D w0 F G0 G L ((d,.int .i64 z) :: T) a' w→WL r P ops Q rest a' w):WL r P ops Q (⟨some d,.binOp .sub t x y yt,ty,pos,aK,g⟩ :: rest) a w :=
 fq (v:=.int .i64 z) (w':=w) hw rfl (by simp [execOp,eqGuard,binOp,Op.intArith,H.ev hx,H.ev hy,dM,hz,CK h1 h2]) (k _ (H.put hd _ H.hp))
def Ii:BinOp→Int→Int→Option Bool
 | .eql,x,y=>some (decide (x=y))
 | .neq,x,y=>some (decide (¬ x=y))
 | .lss,x,y=>some (decide (x < y))
 | .leq,x,y=>some (decide (x≤y))
 | .gtr,x,y=>some (decide (y < x))
 | .geq,x,y=>some (decide (y≤x))
 | _,_,_=>none
theorem amV {op:BinOp} {kd:IntKind} {x y:Int} {b:Bool} (h:Ii op x y=some b) (t:TypeId) (X Y:Operand) (w:World):(do eqGuard op t X Y (.int kd x) (.int kd y);binOp op t (.int kd x) (.int kd y):Sem aj).run P w=.ok (.bool b) w:=by
 cases op <;> simp only [Ii,lS,reduceCtorEq] at h <;> subst h <;> simp [eqGuard,binOp,Op.intCmp,dM]
 ·rfl
 ·rfl
theorem CY {op:BinOp} {x y:Operand} {t yt:TypeId} {kd:IntKind} {p q:Int} {b:Bool} (H:St N D w0 F G0 G L T a w) (hw:Region.wanted ⟨some d,.binOp op t x y yt,ty,pos,aK,g⟩ (yielded ops a.tmps)=true) (hx:ev T x=some (.int kd p)) (hy:ev T y=some (.int kd q)) (hb:Ii op p q=some b) (hd:Nat.blt d N=true)
  (k:∀ a',St N D w0 F G0 G L ((d,.bool b) :: T) a' w→WL r P ops Q rest a' w):WL r P ops Q (⟨some d,.binOp op t x y yt,ty,pos,aK,g⟩ :: rest) a w:=by
 refine fq (v:=.bool b) (w':=w) hw rfl ?_ (k _ (H.put hd _ H.hp))
 have h1:=amV (P:=P) (kd:=kd) hb t x y w
 simp only [execOp,H.ev hx,H.ev hy]
 rw [dM,h1]
 rfl
theorem TP {x:Operand} {t:TypeId} {b:Bool} (H:St N D w0 F G0 G L T a w) (hw:Region.wanted ⟨some d,.unOp .not t x,ty,pos,aK,g⟩ (yielded ops a.tmps)=true) (hx:ev T x=some (.bool b)) (hd:Nat.blt d N=true)
  (k:∀ a',St N D w0 F G0 G L ((d,.bool (!b)) :: T) a' w→WL r P ops Q rest a' w):WL r P ops Q (⟨some d,.unOp .not t x,ty,pos,aK,g⟩ :: rest) a w :=
 fq (v:=.bool (!b)) (w':=w) hw rfl (by simp [execOp,Op.unary,H.ev hx,dM]) (k _ (H.put hd _ H.hp))
def uN (op:BinOp) (k:IntKind) (x y:Int):Int :=
 let a:=BitVec.ofInt k.bits x
 let b:=BitVec.ofInt k.bits y
 k.wrap (match op with|.and=>(a &&& b).toNat|.or=>(a ||| b).toNat|.xor=>(a ^^^ b).toNat|_=>(a &&& ~~~b).toNat)
theorem Js {op:BinOp} {x y:Operand} {t yt:TypeId} {kd:IntKind} {p q:Int} (hop:(match op with|.and|.or|.xor|.andNot=>true|_=>false)=true) (H:St N D w0 F G0 G L T a w) (hw:Region.wanted ⟨some d,.binOp op t x y yt,ty,pos,aK,g⟩ (yielded ops a.tmps)=true) (hx:ev T x=some (.int kd p)) (hy:ev T y=some (.int kd q)) (hd:Nat.blt d N=true)
  (k:∀ a',St N D w0 F G0 G L ((d,.int kd (uN op kd p q)) :: T) a' w→WL r P ops Q rest a' w):WL r P ops Q (⟨some d,.binOp op t x y yt,ty,pos,aK,g⟩ :: rest) a w:=by
 refine fq (v:=.int kd (uN op kd p q)) (w':=w) hw rfl ?_ (k _ (H.put hd _ H.hp))
 cases op <;> simp only [DI] at hop <;> simp [execOp,eqGuard,binOp,Op.intBits,H.ev hx,H.ev hy,uN]
theorem anx {x y:Operand} {t yt:TypeId} {kd ky:IntKind} {p q:Int} (n:Nat) (H:St N D w0 F G0 G L T a w) (hw:Region.wanted ⟨some d,.binOp .shl t x y yt,ty,pos,aK,g⟩ (yielded ops a.tmps)=true) (hx:ev T x=some (.int kd p)) (hy:ev T y=some (.int ky q)) (hq:q=(n:Int)) (hn:n≤kd.bits) (hd:Nat.blt d N=true)
  (k:∀ a',St N D w0 F G0 G L ((d,.int kd (kd.wrap (p*2 ^ n))) :: T) a' w→WL r P ops Q rest a' w):WL r P ops Q (⟨some d,.binOp .shl t x y yt,ty,pos,aK,g⟩ :: rest) a w:=by
 subst hq
 refine fq (v:=.int kd (kd.wrap (p*2 ^ n))) (w':=w) hw rfl ?_ (k _ (H.put hd _ H.hp))
 have h0:¬ ((n:Int) < 0):=by omega
 have h1:min n kd.bits=n:=by omega
 simp [execOp,eqGuard,binOp,Op.shift,H.ev hx,H.ev hy,h0,h1]
theorem Nn {x y:Operand} {t yt:TypeId} {kd ky:IntKind} {p q:Int} (n:Nat) (H:St N D w0 F G0 G L T a w) (hw:Region.wanted ⟨some d,.binOp .shr t x y yt,ty,pos,aK,g⟩ (yielded ops a.tmps)=true) (hx:ev T x=some (.int kd p)) (hy:ev T y=some (.int ky q)) (hq:q=(n:Int)) (hn:n≤kd.bits) (hd:Nat.blt d N=true)
  (k:∀ a',St N D w0 F G0 G L ((d,.int kd (p.fdiv (2 ^ n))) :: T) a' w→WL r P ops Q rest a' w):WL r P ops Q (⟨some d,.binOp .shr t x y yt,ty,pos,aK,g⟩ :: rest) a w:=by
 subst hq
 refine fq (v:=.int kd (p.fdiv (2 ^ n))) (w':=w) hw rfl ?_ (k _ (H.put hd _ H.hp))
 have h0:¬ ((n:Int) < 0):=by omega
 have h1:min n kd.bits=n:=by omega
 simp [execOp,eqGuard,binOp,Op.shift,H.ev hx,H.ev hy,h0,h1]
theorem zU {x:Operand} {t u:TypeId} {kd ks:IntKind} {p:Int} {su:TypeDesc} (z:Int) (hu:P.underlying u=some (.int kd)) (ht:P.underlying t=some su) (H:St N D w0 F G0 G L T a w) (hw:Region.wanted ⟨some d,.convert t u x,ty,pos,aK,g⟩ (yielded ops a.tmps)=true) (hx:ev T x=some (.int ks p)) (hz:kd.wrap p=z) (hd:Nat.blt d N=true)
  (k:∀ a',St N D w0 F G0 G L ((d,.int kd z) :: T) a' w→WL r P ops Q rest a' w):WL r P ops Q (⟨some d,.convert t u x,ty,pos,aK,g⟩ :: rest) a w:=by
 refine fq (v:=.int kd z) (w':=w) hw rfl ?_ (k _ (H.put hd _ H.hp))
 simp [execOp,convert,mE hu,mE ht,H.ev hx,dM,Conv.intToInt,hz]
theorem nW {x y:Operand} {t:TypeId} {s:ByteArray} {kd:IntKind} {z:Int} (i:Nat) (ht:P.underlying t=some .string) (H:St N D w0 F G0 G L T a w) (hw:Region.wanted ⟨some d,.index t x y,ty,pos,aK,g⟩ (yielded ops a.tmps)=true) (hx:ev T x=some (.string s)) (hy:ev T y=some (.int kd z)) (hz:z=(i:Int)) (hi:i < s.size) (hd:Nat.blt d N=true)
  (k:∀ a',St N D w0 F G0 G L ((d,.int .u8 (s[i].toNat:Int)) :: T) a' w→WL r P ops Q rest a' w):WL r P ops Q (⟨some d,.index t x y,ty,pos,aK,g⟩ :: rest) a w:=by
 subst hz
 refine fq (v:=.int .u8 (s[i].toNat:Int)) (w':=w) hw rfl ?_ (k _ (H.put hd _ H.hp))
 simp [execOp,Instr.index,asIntOf,mE ht,H.ev hx,H.ev hy,dM,hi]
theorem aaq {x:Operand} {t e:TypeId} {A:Option Addr} {n c:Nat} (hs:P.underlying t=some (.slice e)) (H:St N D w0 F G0 G L T a w) (hw:Region.wanted ⟨some d,.call { callee:=.builtin .len,args:=#[x],argTypes:=#[t] },ty,pos,aK,g⟩ (yielded ops a.tmps)=true) (hx:ev T x=some (.slice A n c)) (hd:Nat.blt d N=true)
  (k:∀ a',St N D w0 F G0 G L ((d,.int .i64 n) :: T) a' w→WL r P ops Q rest a' w):WL r P ops Q (⟨some d,.call { callee:=.builtin .len,args:=#[x],argTypes:=#[t] },ty,pos,aK,g⟩ :: rest) a w :=
 fq (v:=.int .i64 n) (w':=w) hw rfl (by simp [execOp,resolve,invoke,builtin,Builtin.len_,H.ev hx,dM,mE hs,goInt]) (k _ (H.put hd _ H.hp))
theorem CZ {x:Operand} {t:TypeId} {s:ByteArray} (hs:P.underlying t=some .string) (H:St N D w0 F G0 G L T a w) (hw:Region.wanted ⟨some d,.call { callee:=.builtin .len,args:=#[x],argTypes:=#[t] },ty,pos,aK,g⟩ (yielded ops a.tmps)=true) (hx:ev T x=some (.string s)) (hd:Nat.blt d N=true)
  (k:∀ a',St N D w0 F G0 G L ((d,.int .i64 s.size) :: T) a' w→WL r P ops Q rest a' w):WL r P ops Q (⟨some d,.call { callee:=.builtin .len,args:=#[x],argTypes:=#[t] },ty,pos,aK,g⟩ :: rest) a w :=
 fq (v:=.int .i64 s.size) (w':=w) hw rfl (by simp [execOp,resolve,invoke,builtin,Builtin.len_,H.ev hx,dM,mE hs,goInt]) (k _ (H.put hd _ H.hp))
theorem Ju {x y:Operand} {t t':TypeId} {kd:IntKind} {p q:Int} (H:St N D w0 F G0 G L T a w) (hw:Region.wanted ⟨some d,.call { callee:=.builtin .max,args:=#[x,y],argTypes:=#[t,t'] },ty,pos,aK,g⟩ (yielded ops a.tmps)=true) (hx:ev T x=some (.int kd p)) (hy:ev T y=some (.int kd q)) (hd:Nat.blt d N=true)
  (k:∀ a',St N D w0 F G0 G L ((d,.int kd (max p q)) :: T) a' w→WL r P ops Q rest a' w):WL r P ops Q (⟨some d,.call { callee:=.builtin .max,args:=#[x,y],argTypes:=#[t,t'] },ty,pos,aK,g⟩ :: rest) a w:=by
 refine fq (v:=.int kd (max p q)) (w':=w) hw rfl ?_ (k _ (H.put hd _ H.hp))
 have e:(if q > p then q else p)=max p q:=by omega
 simp [execOp,resolve,invoke,builtin,Builtin.max_,Builtin.max2,H.ev hx,H.ev hy,dM,e]
theorem Nk {x y:Operand} {t t':TypeId} {kd:IntKind} {p q:Int} (H:St N D w0 F G0 G L T a w) (hw:Region.wanted ⟨some d,.call { callee:=.builtin .min,args:=#[x,y],argTypes:=#[t,t'] },ty,pos,aK,g⟩ (yielded ops a.tmps)=true) (hx:ev T x=some (.int kd p)) (hy:ev T y=some (.int kd q)) (hd:Nat.blt d N=true)
  (k:∀ a',St N D w0 F G0 G L ((d,.int kd (min p q)) :: T) a' w→WL r P ops Q rest a' w):WL r P ops Q (⟨some d,.call { callee:=.builtin .min,args:=#[x,y],argTypes:=#[t,t'] },ty,pos,aK,g⟩ :: rest) a w:=by
 refine fq (v:=.int kd (min p q)) (w':=w) hw rfl ?_ (k _ (H.put hd _ H.hp))
 have e:(if q < p then q else p)=min p q:=by omega
 simp [execOp,resolve,invoke,builtin,Builtin.min_,Builtin.min2,H.ev hx,H.ev hy,dM,e]
def bD (w:World) (G:GH) (R:aj→GH→Prop):Ending→World→Prop:=fun e w'=>∃ v G',e=.returned v∧Below w.heap.size w w'∧Ext w.heap.size G G' w'∧R v G'
def Hold (G:GH) (w:World):Prop:=∀ k o,G k=some o→w.heap[k]?=some o
theorem s_call {f:FuncId} {xs:List Operand} {vs:List aj} {ts:Array TypeId} {R:aj→GH→Prop} (en:∀ args w,(callFunc f args).run P w=.ok (.enter f args) w) (H:St N D w0 F G0 G L T a w) (hw:Region.wanted ⟨some d,.call { callee:=.value (.func f),args:=xs.toArray,argTypes:=ts },ty,pos,aK,g⟩ (yielded ops a.tmps)=true)
  (hx:evs T xs=some vs) (hc:Calls P f vs.toArray w (bD w G R)) (hd:Nat.blt d N=true)
  (k:∀ v G' a' w',R v G'→(∀ k o,G k=some o→G' k=some o)→St N D w0 F G0 G' L ((d,v) :: T) a' w'→WL r P ops Q rest a' w'):WL r P ops Q (⟨some d,.call { callee:=.value (.func f),args:=xs.toArray,argTypes:=ts },ty,pos,aK,g⟩ :: rest) a w:=by
 refine UE (nx:=.ok (.enter f vs.toArray) w) (R:=bD w G R) hw rfl ?_ hc ?_
 ·have h1:=H.evs hx
  simp [execOp,resolve,Act.eval,Deferred.ofValue,invoke,dM,h1,en]
 ·rintro e w' ⟨v,G',rfl,hb,hX,hR⟩
  exact ⟨v,rfl,k v G' _ w' hR hX.1 (H.put hd v (H.hp.VK hb hX))⟩
theorem uO {x y:Code} (h:∀ K:Act→World→Prop,(∀ a w,WP r P y Q a w→K a w)→WP r P x (Exit.then K Q) a w):WP r P (.seq x y) Q a w:=wpIn_seq_k h
theorem zl {id:Nat} {l:List Oper} (h:WL r P l.toArray Q l a w):WP r P (.region id l.toArray false) Q a w:=wpIn_region_lit h
theorem acV {id:Nat} {l:List Oper} {y:Code} (h:∀ K:Act→World→Prop,(∀ a w,WP r P y Q a w→WL r P l.toArray (Exit.then K Q) [] a w)→WL r P l.toArray (Exit.then K Q) l a w):WP r P (.seq (.region id l.toArray false) y) Q a w:=uO fun K hK=>zl (h K fun a w h=>aG (hK a w h))
theorem ji (h:Q .normal a w):WP r P .skip Q a w:=wpIn_skip h
theorem bV (h:Q .ret a w):WP r P .ret Q a w:=wpIn_ret h
theorem wX {id:Nat} (h:Q (.exit id) a w):WP r P (.exit id) Q a w:=wpIn_exit h
theorem Km {id:Nat} {c:Code} (h:WP r P c (Exit.inBlock id Q) a w):WP r P (.block id c) Q a w:=wpIn_block h
theorem VQ {c:Operand} {x y:Code} {b:Bool} (H:St N D w0 F G0 G L T a w) (hc:ev T c=some (.bool b)) (h1:b=true→WP r P x Q a w) (h0:b=false→WP r P y Q a w):WP r P (.cond c x y) Q a w :=
 wpIn_cond_split (H.ev hc) h1 h0
theorem VR {c:Operand} {x y:Code} {b:Bool} (H:St N D w0 F G0 G L T a w) (hc:ev T c=some (.bool b)) (hb:b=true) (h1:WP r P x Q a w):WP r P (.cond c x y) Q a w :=
 wpIn_cond_true (by rw [H.ev hc,hb]) h1
theorem OT {c:Operand} {x y:Code} {b:Bool} (H:St N D w0 F G0 G L T a w) (hc:ev T c=some (.bool b)) (hb:b=false) (h1:WP r P y Q a w):WP r P (.cond c x y) Q a w :=
 wpIn_cond_false (by rw [H.ev hc,hb]) h1
theorem VW {ι:Type} {c:Code} (I:ι→Act→World→Prop) (m:ι→Nat) (i0:ι) (h0:I i0 a w)
  (round:∀ i a w,I i a w→WP r P c (Exit.then (fun a' w'=>∃ i',I i' a' w'∧m i' < m i) Q) a w):WP r P (.loop c) Q a w:=by
 intro b k cs hro hb hr
 have key:∀ j i a w,m i=j→I i a w →
   ∃ e a' w',Q e a' w'∧ArrivesIn (Machine.fenced P (FW r)) P (lone (b.atR a (.code c :: .inLoop c :: k)) cs w) b k cs e a' w':=by
  intro j
  induction j using Nat.strongRecOn with
  | _ j ih =>
   intro i a w hn hI
   obtain ⟨e,a₁,w₁,hq,harr⟩:=round i a w hI b (.inLoop c :: k) cs hro hb hr
   cases e with
   | normal =>
    obtain ⟨i',hI₁,hlt⟩:=hq
    obtain ⟨e₂,a₂,w₂,hq₂,harr₂⟩:=ih (m i') (hn ▸ hlt) i' a₁ w₁ rfl hI₁
    exact ⟨e₂,a₂,w₂,hq₂,.of_steps (StepsIn.trans harr (.one (fenced_calm hb hr rfl) stepR_inLoop)) harr₂⟩
   | exit id=>exact ⟨_,a₁,w₁,hq,.pass (x:=.inLoop c) rfl (fun _ _=>.inl (by simp)) harr⟩
   | goto l=>exact ⟨_,a₁,w₁,hq,.pass (x:=.inLoop c) rfl (fun _ _=>.inl (by simp)) harr⟩
   | ret=>exact ⟨_,a₁,w₁,hq,.pass (x:=.inLoop c) rfl (fun _ _=>.inl (by simp)) harr⟩
   | panic ch=>exact ⟨_,a₁,w₁,hq,.pass (x:=.inLoop c) rfl (fun _ _=>.inl (by simp)) harr⟩
   | outgrown=>exact ⟨_,a₁,w₁,hq,.pass (x:=.inLoop c) rfl (fun _ _=>.inl (by simp)) harr⟩
 obtain ⟨e,a',w',hq,harr⟩:=key _ i0 a w rfl h0
 exact ⟨e,a',w',hq,.of_steps (.one (fenced_calm hb hr rfl) stepR_loop) harr⟩
theorem eO {ι:Type} {c:Code} {Tc:List (Nat × aj)} {Lc:List (Nat × Obj)} (Tv:ι→List (Nat × aj)) (Lv:ι→List (Nat × Obj)) (Gv:ι→GH) (Pr:ι→Prop) (m:ι→Nat) (i0:ι)
  (H:St N D w0 F G0 (Gv i0) (Lc++Lv i0) (Tv i0++Tc) a w) (hP:Pr i0)
  (round:∀ i a w,Pr i→St N D w0 F G0 (Gv i) (Lc++Lv i) (Tv i++Tc) a w →
   WP r P c (Exit.then (fun a' w'=>∃ i',(St N D w0 F G0 (Gv i') (Lc++Lv i') (Tv i'++Tc) a' w'∧Pr i')∧m i' < m i) Q) a w):WP r P (.loop c) Q a w :=
 VW (fun i a w=>St N D w0 F G0 (Gv i) (Lc++Lv i) (Tv i++Tc) a w∧Pr i) m i0 ⟨H,hP⟩ fun i a w hI=>round i a w hI.2 hI.1
theorem sH {ι:Type} {x y:Code} {Tc:List (Nat × aj)} {Lc Lr:List (Nat × Obj)} {Gh:GH} (Tv:ι→List (Nat × aj)) (Lv:ι→List (Nat × Obj)) (Gv:ι→GH) (Pr:ι→Prop)
  (_:St N D w0 F G0 Gh (Lc++Lr) Tc a w) (h1:WP r P x (Exit.then (fun a w=>∃ i,St N D w0 F G0 (Gv i) (Lc++Lv i) (Tv i++Tc) a w∧Pr i) Q) a w)
  (h2:∀ i a w,Pr i→St N D w0 F G0 (Gv i) (Lc++Lv i) (Tv i++Tc) a w→WP r P y Q a w):WP r P (.seq x y) Q a w :=
 wpIn_seq (wpIn_mono h1 fun e a w h=>by
  cases e with
  | normal=>obtain ⟨i,H,hP⟩:=h;exact h2 i a w hP H
  | _=>exact h)
theorem dH {ι:Type} {Tc:List (Nat × aj)} {Lc:List (Nat × Obj)} {Tv:ι→List (Nat × aj)} {Lv:ι→List (Nat × Obj)} {Gv:ι→GH} {Pr:ι→Prop} {m:ι→Nat} {i:ι} (i':ι)
  (H:St N D w0 F G0 (Gv i') (Lc++Lv i') (Tv i'++Tc) a w) (hP:Pr i') (hm:m i' < m i) :
  ∃ i',(St N D w0 F G0 (Gv i') (Lc++Lv i') (Tv i'++Tc) a w∧Pr i')∧m i' < m i:=⟨i',⟨H,hP⟩,hm⟩
def DK:Nat→List aj→List (Nat × aj)
 | _,[]=>[]
 | i,v :: vs=>(i,v) :: DK (i+1) vs
theorem enters {f:FuncId} {fn:Func} {c:Code} (hf:P.funcs[f]?=some fn) (hb:fn.body=some c) (hname:(fn.name == "runtime.NumGoroutine")=false) (args:Array aj) (w:World):(callFunc f args).run P w=.ok (.enter f args) w:=by
 have h1:fn.name ≠ "runtime.NumGoroutine":=by simpa using hname
 simp [callFunc,hf,h1,hb,mark]
theorem enter {f:FuncId} {fn:Func} {c:Code} {vs:List aj} {R:Ending→World→Prop} (hf:P.funcs[f]?=some fn) (hb:fn.body=some c) (hN:fn.ntmps=N) (hle:Nat.ble vs.length N=true)
  (hT:DK 0 vs=T) (hG:Hold G w) (hF:∀ k,F k→k < w.heap.size) (hL:∀ p∈L,w.heap[p.1]?=some p.2) (hLG:∀ p∈L,G p.1=none) (hLF:∀ p∈L,¬ F p.1) (hnd:L.Pairwise fun p q=>p.1≠q.1)
  (h:∀ a,St N [] w F G G L T a w→WP none P c (bodyPostM (FW none) 0 P fn R) a w):Calls P f vs.toArray w R:=by
 refine acW (r:=none) (n:=0) (callsIn_of_wp_marks hf hb trivial (h _ ⟨?_,?_,rfl,⟨rfl,rfl,rfl,bN _,hF,fun _ _=>rfl,hG,fun _ _ h=>h,fun _ _ h=>.inl h,hL,hLG,hLF,hnd⟩⟩) rfl)
 ·have:=Nat.le_of_ble_eq_true hle
  simp [hN];omega
 ·intro t v ht
  have hlen:t < vs.length∧vs[t]?=some v:=by
   subst hT
   have key:∀ (vs:List aj) (s:Nat),lk (DK s vs) t=some v→s≤t∧vs[t - s]?=some v:=by
    intro vs
    induction vs with
    | nil=>intro s h;simp [DK,lk] at h
    | cons u vs ih =>
     intro s h
     simp only [DK] at h
     by_cases e:s=t
     ·subst e;rw [vD] at h;simpa using h
     ·rw [tF e] at h
      obtain ⟨h1,h2⟩:=ih (s+1) h
      refine ⟨by omega,?_⟩
      have:t - s=(t - (s+1))+1:=by omega
      rw [this];simpa using h2
   have:=key vs 0 ht
   simp only [gV,Nat.sub_zero,true_and] at this
   exact ⟨(iL.1 this).1,this⟩
  rw [Array.getElem?_append_left (by simpa using hlen.1)]
  simpa using hlen.2
def Gn (tmps:Array aj):ResultVar→Sem aj
 | .tmp t=>pure (tmps.getD t undef)
 | .cell a t=>do loadVar t (← asAddr (tmps.getD a undef))
def RV (P:Program) (w:World) (tmps:Array aj) (rv:ResultVar) (v:aj):Prop:=(Gn tmps rv).run P w=.ok v w
theorem aW (H:St N D w0 F G0 G L T a w) {t:Nat} {v:aj} (h:lk T t=some v):RV P w a.tmps (.tmp t) v:=by
 have:=H.ev (x:=.tmp t) h
 simp only [Act.eval] at this
 simp [RV,Gn,this]
theorem rR {t:TypeId} {sz bytes:Nat} {zero:List aj} (ht:Ty P t sz bytes zero true) (H:St N D w0 F G0 G L T a w) {s b o:Nat} {cs:List aj} (h:lk T s=some (.pointer (some ⟨b,o,none⟩))) (hl:cs.length=sz) (hc:∀ j v,cs[j]?=some v→w.cell? ⟨b,o+j,none⟩=some v) :
  RV P w a.tmps (.cell s t) (.agg cs.toArray):=by
 have:=H.ev (x:=.tmp s) h
 simp only [Act.eval] at this
 have h1:=run_loadCells (P:=P) b w cs o 0 #[] (fun j v hj=>by simpa using hc j v hj)
 simp only [Array.empty_append,hl] at h1
 simp [RV,Gn,this,asAddr,loadVar,dM,ht.Ng,ht.Bo,loadCells,h1]
theorem tT {t:TypeId} {sz bytes:Nat} {zero:List aj} (ht:Ty P t sz bytes zero false) (H:St N D w0 F G0 G L T a w) {s b o:Nat} {v:aj} (h:lk T s=some (.pointer (some ⟨b,o,none⟩))) (hc:w.cell? ⟨b,o,none⟩=some v) :
  RV P w a.tmps (.cell s t) v:=by
 have:=H.ev (x:=.tmp s) h
 simp only [Act.eval] at this
 simp only [RV,Gn,this,asAddr,loadVar,dM,ht.Ng,lg,qE,DI,if_false,TF hc]
inductive BR (P:Program) (w:World) (tmps:Array aj):List ResultVar→List aj→Prop
 | nil:BR P w tmps [] []
 | cons {rv rs v vs}:RV P w tmps rv v→BR P w tmps rs vs→BR P w tmps (rv :: rs) (v :: vs)
def Tf:List aj→aj
 | [v]=>v
 | vs=>.tuple vs.toArray
theorem amX {fn:Func} {rs:List ResultVar} {vs:List aj} {tmps:Array aj} (hr:fn.results=rs.toArray) (h:BR P w tmps rs vs):(results fn tmps).run P w=.ok (Tf vs) w:=by
 have hm:∀ {rs:List ResultVar} {vs:List aj},BR P w tmps rs vs→(rs.mapM (Gn tmps)).run P w=.ok vs w:=by
  intro rs vs h
  induction h with
  | nil=>simp
  | cons h1 _ ih =>
   unfold RV at h1
   simp only [List.mapM_cons,dM,h1,lg,ih,qE]
 have hm':=hm h
 have hres:results fn tmps=(do let vs ← fn.results.mapM (Gn tmps);pure (if h:vs.size=1 then vs[0] else .tuple vs)):=rfl
 rw [hres,hr,Array.mapM_eq_mapM_toList]
 simp only [map_eq_pure_bind,dM,hm',lg,qE]
 match vs with
 | []=>rfl
 | [v]=>rfl
 | v :: u :: vs=>simp [Tf]
theorem leave {fn:Func} {rs:List ResultVar} {vs:List aj} {R:Ending→World→Prop} (v:aj) (H:St N [] w0 F G0 G L T a w) (hr:fn.results=rs.toArray) (h:BR P w a.tmps rs vs) (hv:Tf vs=v) (hR:R (.returned v) w) :
  bodyPostM (FW none) 0 P fn R .ret a w∧bodyPostM (FW none) 0 P fn R .normal a w:=by
 subst hv
 have h1:LeavesInM (FW none) 0 P fn a.tmps R a.defers .returning w:=by
  rw [H.qI]
  exact ⟨_,amX hr h,hR⟩
 exact ⟨h1,h1⟩
theorem leave0 {fn:Func} {R:Ending→World→Prop} (H:St N [] w0 F G0 G L T a w) (hr:fn.results=#[]) (hR:R (.returned (.tuple #[])) w) :
  bodyPostM (FW none) 0 P fn R .ret a w∧bodyPostM (FW none) 0 P fn R .normal a w:=leave (rs:=[]) _ H hr .nil rfl hR
theorem leave1 {fn:Func} {rs:List ResultVar} {v:aj} {R:Ending→World→Prop} (H:St N [] w0 F G0 G L T a w) (hr:fn.results=rs.toArray) (h:BR P w a.tmps rs [v]) (hR:R (.returned v) w) :
  bodyPostM (FW none) 0 P fn R .ret a w∧bodyPostM (FW none) 0 P fn R .normal a w:=leave _ H hr h rfl hR
theorem eU {fn:Func} {rs:List ResultVar} {v u:aj} {vs:List aj} {R:Ending→World→Prop} (H:St N [] w0 F G0 G L T a w) (hr:fn.results=rs.toArray) (h:BR P w a.tmps rs (v :: u :: vs)) (hR:R (.returned (.tuple (v :: u :: vs).toArray)) w) :
  bodyPostM (FW none) 0 P fn R .ret a w∧bodyPostM (FW none) 0 P fn R .normal a w:=leave _ H hr h rfl hR
theorem Hp.ret {R:aj→GH→Prop} {v:aj} (h:Hp w0 (fun k=>k < w0.heap.size) G0 G L w) (hR:R v G):bD w0 G0 R (.returned v) w :=
 ⟨v,G,rfl,⟨h.os,h.tape,h.output,h.size,h.fr⟩,⟨h.gm,fun k o hk=>(h.gx k o hk).imp id (fun hn=>Nat.le_of_not_lt hn),h.ro⟩,hR⟩
end steps
end
section
open Go.RowKit
abbrev OL:=List (Nat × Obj)
structure fC (G:GH) (L:OL) (w:World):Prop where
 ro:Hold G w
 own:∀ p∈L,w.heap[p.1]?=some p.2
 sep:∀ p∈L,G p.1=none
 nd:L.Pairwise fun p q=>p.1≠q.1
structure Change (w w':World) (G G':GH) (L L':OL):Prop where
 os:w'.os=w.os
 tape:w'.tape=w.tape
 output:w'.output=w.output
 size:w.heap.size≤w'.heap.size
 fr:∀ k,k < w.heap.size→(∀ p∈L,p.1≠k)→w'.heap[k]?=w.heap[k]?
 gm:∀ k o,G k=some o→G' k=some o
 gx:∀ k o,G' k=some o→G k=some o∨w.heap.size≤k∨∃ p∈L,p.1=k
 owns:fC G' L' w'
 lx:∀ p∈L',w.heap.size≤p.1∨∃ q∈L,q.1=p.1
def Fr (w:World) (L0:OL):Nat→Prop:=fun k=>k < w.heap.size∧∀ p∈L0,p.1≠k
section
variable {N:Nat} {D:List Deferred} {w0 w w':World} {F:Nat→Prop} {G0 G G':GH} {L L' Li L0:OL} {T:List (Nat × aj)} {a:Act}
theorem Hp.owns (h:Hp w0 F G0 G (Li++L) w):fC G L w :=
 ⟨h.ro,fun p hp=>h.own p (List.mem_append_right _ hp),fun p hp=>h.qU p (List.mem_append_right _ hp),(List.pairwise_append.1 h.nd).2.1⟩
theorem Hp.change (h:Hp w0 F G0 G (Li++L) w) (hc:Change w w' G G' L L'):Hp w0 F G0 G' (Li++L') w':=by
 have hnd:=List.pairwise_append.1 h.nd
 have Qv:∀ k,F k→k < w.heap.size:=fun k hk=>Nat.lt_of_lt_of_le (h.sO k hk) h.size
 have FE:∀ p∈Li,p.1 < w.heap.size∧∀ q∈L,q.1≠p.1:=fun p hp=>⟨lt_of_heap (h.own p (List.mem_append_left _ hp)),fun q hq e=>hnd.2.2 p hp q hq e.symm⟩
 refine ⟨hc.os.trans h.os,hc.tape.trans h.tape,hc.output.trans h.output,Nat.le_trans h.size hc.size,h.sO,fun k hk=>?_,hc.owns.ro,fun k o hk=>hc.gm k o (h.gm k o hk),fun k o hk=>?_,fun p hp=>?_,fun p hp=>?_,fun p hp=>?_,?_⟩
 ·exact (hc.fr k (Qv k hk) fun p hp e=>h.qR p (List.mem_append_right _ hp) (e ▸ hk)).trans (h.fr k hk)
 ·rcases hc.gx k o hk with hk|hk|⟨p,hp,rfl⟩
  ·exact h.gx k o hk
  ·exact .inr fun hf=>absurd (Qv k hf) (by omega)
  ·exact .inr (h.qR p (List.mem_append_right _ hp))
 ·rcases lT.1 hp with hp|hp
  ·exact (hc.fr _ (FE p hp).1 (FE p hp).2).trans (h.own p (List.mem_append_left _ hp))
  ·exact hc.owns.own p hp
 ·rcases lT.1 hp with hp|hp
  ·cases hg:G' p.1 with
   | none=>rfl
   | some o =>
    rcases hc.gx _ o hg with hk|hk|⟨q,hq,e⟩
    ·rw [h.qU p (List.mem_append_left _ hp)] at hk;cases hk
    ·exact absurd (FE p hp).1 (by omega)
    ·exact absurd e ((FE p hp).2 q hq)
  ·exact hc.owns.sep p hp
 ·rcases lT.1 hp with hp|hp
  ·exact h.qR p (List.mem_append_left _ hp)
  ·rcases hc.lx p hp with hk|⟨q,hq,e⟩
   ·exact fun hf=>absurd (Qv _ hf) (by omega)
   ·exact e ▸ h.qR q (List.mem_append_right _ hq)
 ·refine List.pairwise_append.2 ⟨hnd.1,hc.owns.nd,fun p hp q hq e=>?_⟩
  rcases hc.lx q hq with hk|⟨q',hq',e'⟩
  ·have:=(FE p hp).1;omega
  ·exact (FE p hp).2 q' hq' (e'.trans e.symm)
theorem Hp.aaT (h:Hp w0 (Fr w0 L0) G0 G L w):Change w0 w G0 G L0 L:=by
 have hn:∀ k,¬ Fr w0 L0 k→w0.heap.size≤k∨∃ p∈L0,p.1=k:=by
  intro k hk
  by_cases hlt:k < w0.heap.size
  ·right
   apply Classical.byContradiction
   intro hno
   exact hk ⟨hlt,fun p hp e=>hno ⟨p,hp,e⟩⟩
  ·exact .inl (by omega)
 exact ⟨h.os,h.tape,h.output,h.size,fun k h1 h2=>h.fr k ⟨h1,h2⟩,h.gm,fun k o hk=>(h.gx k o hk).imp id (hn k),⟨h.ro,h.own,h.qU,h.nd⟩,fun p hp=>hn _ (h.qR p hp)⟩
theorem fC.hp (h:fC G L w):Hp w (Fr w L) G G L w :=
 ⟨rfl,rfl,rfl,bN _,fun _ hk=>hk.1,fun _ _=>rfl,h.ro,fun _ _ h=>h,fun _ _ h=>.inl h,h.own,h.sep,fun p hp hf=>hf.2 p hp rfl,h.nd⟩
theorem Change.trans {w2:World} {G2:GH} {L2:OL} (h1:Change w w' G G' L L') (h2:Change w' w2 G' G2 L' L2) (hG:Hold G w) (hL:∀ p∈L,p.1 < w.heap.size):Change w w2 G G2 L L2:=by
 refine ⟨h2.os.trans h1.os,h2.tape.trans h1.tape,h2.output.trans h1.output,Nat.le_trans h1.size h2.size,fun k hk hn=>?_,fun k o hk=>h2.gm k o (h1.gm k o hk),fun k o hk=>?_,h2.owns,fun p hp=>?_⟩
 ·refine (h2.fr k (Nat.lt_of_lt_of_le hk h1.size) fun p hp e=>?_).trans (h1.fr k hk hn)
  rcases h1.lx p hp with hk'|⟨q,hq,e'⟩
  ·omega
  ·exact hn q hq (e'.trans e)
 ·rcases h2.gx k o hk with hk|hk|⟨p,hp,rfl⟩
  ·exact h1.gx k o hk
  ·exact .inr (.inl (Nat.le_trans h1.size hk))
  ·rcases h1.lx p hp with hk'|⟨q,hq,e'⟩
   ·exact .inr (.inl hk')
   ·exact .inr (.inr ⟨q,hq,e'⟩)
 ·rcases h2.lx p hp with hk|⟨q,hq,e⟩
  ·exact .inl (Nat.le_trans h1.size hk)
  ·rcases h1.lx q hq with hk'|⟨q',hq',e'⟩
   ·exact .inl (e ▸ hk')
   ·exact .inr ⟨q',hq',e'.trans e⟩
theorem Hp.perm (h:Hp w0 F G0 G L w) (hp:L.Perm L'):Hp w0 F G0 G L' w :=
 ⟨h.os,h.tape,h.output,h.size,h.sO,h.fr,h.ro,h.gm,h.gx,fun p hq=>h.own p (hp.mem_iff.2 hq),fun p hq=>h.qU p (hp.mem_iff.2 hq),fun p hq=>h.qR p (hp.mem_iff.2 hq),(hp.pairwise_iff (fun {x y} (h:x.1≠y.1) e=>h e.symm)).1 h.nd⟩
theorem St.perm (h:St N D w0 F G0 G L T a w) (hp:L.Perm L'):St N D w0 F G0 G L' T a w:=⟨h.lC,h.get,h.qI,h.hp.perm hp⟩
def eP (w:World) (G:GH) (L:OL) (R:aj→GH→OL→Prop):Ending→World→Prop:=fun e w'=>∃ v G' L',e=.returned v∧Change w w' G G' L L'∧R v G' L'
theorem Hp.cZ {R:aj→GH→OL→Prop} {v:aj} (h:Hp w0 (Fr w0 L0) G0 G L w) (hR:R v G L):eP w0 G0 L0 R (.returned v) w:=⟨v,G,L,rfl,h.aaT,hR⟩
end
section steps
variable {N:Nat} {D:List Deferred} {w0:World} {F:Nat→Prop} {G0 G:GH} {L Li L0:OL} {T:List (Nat × aj)}
variable {r:Option Nat} {P:Program} {ops:Array Oper} {Q:Exit→Act→World→Prop} {rest:List Oper} {a:Act} {w:World}
variable {d:Nat} {ty:TypeId} {pos:String} {aK:Array Edge} {g:Option (Nat × Bool)}
theorem jq {f:FuncId} {caps args:List aj} {R:Ending→World→Prop} (en:∀ args w,(callFunc f args).run P w=.ok (.enter f args) w) (h:Calls P f (args++caps).toArray w R):qX P (.func (.func f) #[] caps.toArray) args w R:=by
 refine ⟨?_⟩
 have e:(do let d ← Deferred.ofValue (.func (.func f) #[] caps.toArray) args.toArray;invoke d.target d.args:Sem Next).run P w=.ok (.enter f (args++caps).toArray) w:=by
  simp [Deferred.ofValue,dM,invoke,en]
 rw [e]
 exact h
theorem pq {x:Operand} {fv:aj} {xs:List Operand} {vs:List aj} {ts:Array TypeId} {R:aj→GH→OL→Prop} (H:St N D w0 F G0 G (Li++L) T a w) (hw:Region.wanted ⟨some d,.call { callee:=.value x,args:=xs.toArray,argTypes:=ts },ty,pos,aK,g⟩ (yielded ops a.tmps)=true)
  (hf:ev T x=some fv) (hx:evs T xs=some vs) (hc:qX P fv vs w (eP w G L R)) (hd:Nat.blt d N=true)
  (k:∀ v G' L' a' w',R v G' L'→(∀ k o,G k=some o→G' k=some o)→St N D w0 F G0 G' (Li++L') ((d,v) :: T) a' w'→WL r P ops Q rest a' w'):WL r P ops Q (⟨some d,.call { callee:=.value x,args:=xs.toArray,argTypes:=ts },ty,pos,aK,g⟩ :: rest) a w:=by
 refine UE (nx:=_) (R:=eP w G L R) hw rfl rfl ?_ ?_
 ·have h1:=H.evs hx
  have e:(execOp a.eval ⟨some d,.call { callee:=.value x,args:=xs.toArray,argTypes:=ts },ty,pos,aK,g⟩)=(do let d ← Deferred.ofValue fv vs.toArray;invoke d.target d.args:Sem Next):=by
   simp only [execOp,resolve,H.ev hf,List.map_toArray,h1]
  rw [e]
  exact hc.go
 ·rintro e w' ⟨v,G',L',rfl,hb,hR⟩
  exact ⟨v,rfl,k v G' L' _ w' hR hb.gm (H.put hd v (H.hp.change hb))⟩
theorem fB {f:FuncId} {xs:List Operand} {vs:List aj} {ts:Array TypeId} {R:aj→GH→OL→Prop} (en:∀ args w,(callFunc f args).run P w=.ok (.enter f args) w) (H:St N D w0 F G0 G (Li++L) T a w) (hw:Region.wanted ⟨some d,.call { callee:=.value (.func f),args:=xs.toArray,argTypes:=ts },ty,pos,aK,g⟩ (yielded ops a.tmps)=true)
  (hx:evs T xs=some vs) (hc:Calls P f vs.toArray w (eP w G L R)) (hd:Nat.blt d N=true)
  (k:∀ v G' L' a' w',R v G' L'→(∀ k o,G k=some o→G' k=some o)→St N D w0 F G0 G' (Li++L') ((d,v) :: T) a' w'→WL r P ops Q rest a' w'):WL r P ops Q (⟨some d,.call { callee:=.value (.func f),args:=xs.toArray,argTypes:=ts },ty,pos,aK,g⟩ :: rest) a w:=by
 refine pq (fv:=.func (.func f) #[] #[]) H hw rfl hx ?_ hd k
 have h:=jq (caps:=[]) (args:=vs) en (by simpa using hc)
 exact h
abbrev AP:=List aj→GH→Prop
def uq (xs:List AP) (k:Nat) (args:List aj) (g:GH):Prop:=∃ p,xs[k]?=some p∧p args g
def BK (P:Program) (fv:aj) (Gi:GH) (xs:List AP) (J:Nat→GH→OL→Prop) (Jx:GH→OL→Prop):Prop :=
 ∀ k args G L w,uq xs k args G→(∀ b o,Gi b=some o→G b=some o)→J k G L→fC G L w →
  qX P fv args w (eP w G L fun v G' L'=>∃ b,v=.bool b∧(b=true→J (k+1) G' L')∧(b=false→Jx G' L'))
def BO (J:Nat→GH→OL→Prop):Prop:=∀ k (G G':GH) L,(∀ b o,G b=some o→G' b=some o)→J k G L→J k G' L
def DF (J:GH→OL→Prop):Prop:=∀ (G G':GH) L,(∀ b o,G b=some o→G' b=some o)→J G L→J G' L
def Iter (P:Program) (Gi:GH) (gv:aj) (xs:List AP):Prop :=
 ∀ (J:Nat→GH→OL→Prop) (Jx:GH→OL→Prop) (fv:aj) (G:GH) (L:OL) (w:World),fv.cells=#[fv]→(∀ b o,Gi b=some o→G b=some o)→BO J→DF Jx→J 0 G L→fC G L w→BK P fv G xs J Jx →
  qX P gv [fv] w (eP w G L fun _ G' L'=>J xs.length G' L'∨Jx G' L')
theorem Iter.mono {Gi BN:GH} {gv:aj} {xs:List AP} (h:Iter P Gi gv xs) (hm:∀ b o,Gi b=some o→BN b=some o):Iter P BN gv xs :=
 fun J Jx fv G L w h0 h1=>h J Jx fv G L w h0 fun b o hb=>h1 b o (hm b o hb)
def qm:List Nat→List aj→List (Nat × aj)→List (Nat × aj)
 | p :: ps,v :: vs,T=>qm ps vs ((p,v) :: T)
 | _,_,T=>T
theorem aaP:∀ (ps:List Nat) (vs:List aj) (T:List (Nat × aj)) (tm:Array aj),tm.size=N→(∀ t v,lk T t=some v→tm[t]?=some v)→ps.all (Nat.blt · N)=true →
  ((ps.zip vs).foldl (fun t (x:Nat × aj)=>t.setIfInBounds x.1 x.2) tm).size=N∧∀ t v,lk (qm ps vs T) t=some v→((ps.zip vs).foldl (fun t (x:Nat × aj)=>t.setIfInBounds x.1 x.2) tm)[t]?=some v
 | [],_,T,tm,h1,h2,_=>⟨h1,by simpa [qm] using h2⟩
 | p :: ps,[],T,tm,h1,h2,_=>⟨h1,by simpa [qm] using h2⟩
 | p :: ps,v :: vs,T,tm,h1,h2,h3=>by
  simp only [List.all_cons,lU] at h3
  have hp:p < tm.size:=by rw [h1];exact Eq.mp Nat.blt_eq h3.1
  simp only [List.zip_cons_cons,List.foldl_cons,qm]
  refine aaP ps vs _ _ (by simpa using h1) (fun t u ht=>?_) h3.2
  rw [Array.getElem?_setIfInBounds]
  by_cases e:p=t
  ·subst e;rw [vD] at ht;simp [hp];simpa using ht
  ·rw [tF e] at ht;simp [e];exact h2 t u ht
structure Rec where
 fn:FuncId
 tmps:Array aj
 params:Array Tmp
 assign:Code
 body:Code
 defers:Nat
def Rec.at (q:Rec) (s:LoopState) (p:Option Code):Obj:=.loop { state:=s,pending:=p,fn:=q.fn,tmps:=q.tmps,params:=q.params,assign:=q.assign,body:=q.body,defers:=q.defers }
def UY (w1:World) (G:GH) (L:OL) (Jn:GH→OL→Prop) (Jx:GH→OL→Prop):Ending→World→Prop:=eP w1 G L fun v G' L'=>∃ b,v=.bool b∧(b=true→Jn G' L')∧(b=false→Jx G' L')
theorem Dj {b:Nat} {o:Obj} (o':Obj) (h:w.heap[b]?=some o):uE b o' w (w.putObj b o') :=
 ⟨rfl,rfl,rfl,World.putObj_size,World.putObj_heap_same (lt_of_heap h),fun _ hk=>World.putObj_heap_other hk⟩
theorem VP {l:Nat} {q:Rec} {c:Code} {R:Ending→World→Prop} (H:St N D w0 F G0 G ((l,q.at .ready none) :: L) T a w)
  (k:∀ w',St N D w0 F G0 G ((l,q.at .busy none) :: L) T a w'→WP (some l) P c (roundPost P l R) a w') :
  ∃ w₂,(Instr.beginRound l).run P w=.ok () w₂∧c.wpIn (FW (some l)) 0 P (roundPost P l R) a w₂:=by
 have hl:=H.hp.own _ (fH)
 refine ⟨_,run_beginRound hl rfl,k _ (H.move ?_)⟩
 exact H.hp.upd (i:=0) rfl (Dj _ hl)
theorem Gm {l:Nat} {q:Rec} {w1:World} {G1:GH} {L1:OL} {Jn Jx:GH→OL→Prop} (jump:Option Code) (H:St N D w1 (Fr w1 L1) G1 G ((l,q.at .busy none) :: L) T a w)
  (h:match jump with|none=>Jn G ((l,q.at .ready none) :: L)|some c=>Jx G ((l,q.at .done (some c)) :: L)) :
  ∃ v w',(Instr.endRound l jump).run P w=.ok v w'∧UY w1 G1 L1 Jn Jx (.returned v) w':=by
 have hl:=H.hp.own _ (fH)
 refine ⟨_,_,run_endRound jump hl,?_⟩
 cases jump with
 | none=>exact Hp.cZ (H.hp.upd (i:=0) rfl (Dj _ hl)) ⟨true,rfl,fun _=>h,fun e=>by cases e⟩
 | some c=>exact Hp.cZ (H.hp.upd (i:=0) rfl (Dj _ hl)) ⟨false,rfl,fun e=>(by cases e),fun _=>h⟩
def Jr (l:Nat) (q:Rec) (bk:OL) (J:GH→OL→Prop):GH→OL→Prop:=fun G L=>∃ Lu,L=(l,q.at .ready none) :: (bk++Lu)∧J G Lu
def J2 (l:Nat) (q:Rec) (bk:OL) (Jx:Code→GH→OL→Prop):GH→OL→Prop:=fun G L=>∃ c Lu,L=(l,q.at .done (some c)) :: (bk++Lu)∧Jx c G Lu
def Ou (P:Program) (N:Nat) (ps:List Nat) (assign body:Code) (T:List (Nat × aj)) (G:GH) (J:Nat→GH→OL→Prop) (Jx:Code→GH→OL→Prop) (xs:List AP):Prop :=
 ∀ (l:Nat) (q:Rec) (bk:OL) (k:Nat) (args:List aj) (G1:GH) (L1:OL) (w1:World) (a1:Act),uq xs k args G1→(∀ b o,G b=some o→G1 b=some o)→J k G1 L1 →
  St N [] w1 (Fr w1 ((l,q.at .ready none) :: (bk++L1))) G1 G1 ((l,q.at .ready none) :: (bk++L1)) (qm ps args T) a1 w1 →
  WP (some l) P assign (Exit.then (fun a2 w2=>∃ w3,(Instr.beginRound l).run P w2=.ok () w3∧body.wpIn (FW (some l)) 0 P (roundPost P l (UY w1 G1 ((l,q.at .ready none) :: (bk++L1)) (Jr l q bk (J (k+1))) (J2 l q bk Jx))) a2 w3) (fun _ _ _=>False)) a1 w1
theorem VX {fn:FuncId} {tm:Array aj} {ps:List Nat} {assign body:Code} {df l:Nat} {bk:OL} {J:Nat→GH→OL→Prop} {Jx:Code→GH→OL→Prop} {xs:List AP} (h1:tm.size=N) (h2:∀ t v,lk T t=some v→tm[t]?=some v)
  (hps:ps.all (Nat.blt · N)=true) (hlen:∀ k args g,uq xs k args g→args.length=ps.length) (hr:Ou P N ps assign body T G J Jx xs) :
  BK P (.func (.yield l) #[] #[]) G xs (fun k=>Jr l ⟨fn,tm,ps.toArray,assign,body,df⟩ bk (J k)) (J2 l ⟨fn,tm,ps.toArray,assign,body,df⟩ bk Jx):=by
 intro k args G1 L1 w1 hk hm hJ ho
 obtain ⟨Lu,rfl,hJ⟩:=hJ
 have hl:=ho.own _ (fH)
 have hargs:args.toArray.size=ps.toArray.size:=by simpa using hlen k args _ hk
 have hy:=run_yield (P:=P) (args:=args.toArray) hl hargs
 have hz:(ps.toArray.zip args.toArray).foldl (fun tmps (x:Nat × aj)=>tmps.setIfInBounds x.1 x.2) tm=(ps.zip args).foldl (fun t (x:Nat × aj)=>t.setIfInBounds x.1 x.2) tm:=by
  simp [List.zip_toArray]
 obtain ⟨z1,z2⟩:=aaP ps args T tm h1 h2 hps
 refine ⟨?_⟩
 have e:(do let d ← Deferred.ofValue (.func (.yield l) #[] #[]) args.toArray;invoke d.target d.args:Sem Next).run P w1=.ok (.round l fn ((ps.zip args).foldl (fun t (x:Nat × aj)=>t.setIfInBounds x.1 x.2) tm) assign body) w1:=by
  simp only [Deferred.ofValue,pure_bind,invoke,Array.empty_append]
  rw [← hz]
  exact hy
 rw [e]
 refine roundIn_of_wpIn (F:=FW none) trivial ?_
 exact hr l _ bk k args G1 Lu w1 { tmps:=_,defers:=[] } hk hm hJ ⟨z1,z2,rfl,ho.hp⟩
theorem acS {yx:Operand} {ps:List Nat} {assign body:Code} {gf:FuncId} {caps:List aj} {xs:List AP} {Gi:GH}
  (H:St N D w0 F G0 G L T a w) (hg:ev T yx=some (.func (.func gf) #[] caps.toArray)) (en:∀ args w,(callFunc gf args).run P w=.ok (.enter gf args) w) (hit:Iter P Gi (.func (.func gf) #[] caps.toArray) xs) (hGi:∀ b o,Gi b=some o→G b=some o)
  (hps:ps.all (Nat.blt · N)=true) (hlen:∀ k args g,uq xs k args g→args.length=ps.length)
  (J:Nat→GH→OL→Prop) (Jx:Code→GH→OL→Prop) (jT:BO J) (hJx:∀ c,DF (Jx c)) (h0:J 0 G L) (RY:Ou P N ps assign body T G J Jx xs)
  (hdone:∀ Dk G1 L1 a1 w1,(∀ b o,G b=some o→G1 b=some o)→J xs.length G1 L1→St N ({ target:=.collected Dk,args:=#[] } :: D) w0 F G0 G1 ((Dk,.deferred (some [])) :: L1) T a1 w1→Q .normal a1 w1)
  (hstop:∀ Dk c G1 L1 a1 w1,(∀ b o,G b=some o→G1 b=some o)→Jx c G1 L1→St N ({ target:=.collected Dk,args:=#[] } :: D) w0 F G0 G1 ((Dk,.deferred (some [])) :: L1) T a1 w1→WP none P c Q a1 w1) :
  WP none P (.rangeFunc yx ps.toArray assign body) Q a w:=by
 refine wpIn_rangeFunc ?_
 intro fn _
 have hev:=H.ev hg
 let q:Rec:=⟨fn,a.tmps,ps.toArray,assign,body,w.heap.size⟩
 obtain ⟨W1,hW1⟩:∃ W1,W1=(w.alloc (.deferred (some []))).alloc (q.at .ready none):=⟨_,rfl⟩
 have H1:Hp w0 F G0 G ((w.heap.size+1,q.at .ready none) :: (w.heap.size,.deferred (some [])) :: L) W1:=by
  have:=(H.hp.alloc (.deferred (some []))).alloc (q.at .ready none)
  rw [World.size_alloc] at this
  rw [hW1];exact this
 refine ⟨w.heap.size+1,[{ target:=.collected w.heap.size,args:=#[] }],W1,{ target:=.fn (.func gf) caps.toArray,args:=#[.func (.yield (w.heap.size+1)) #[] #[]] },W1,gf,
  #[.func (.yield (w.heap.size+1)) #[] #[]]++caps.toArray,W1,by rw [hW1];exact run_enterLoop_outer fn a.tmps ps.toArray assign body,?_,fun _ _=>trivial,?_,JV none,?_⟩
 ·simp only [resolve,rangeCall,hev]
  simp [Deferred.ofValue,Act.eval]
 ·simp [invoke,en]
 ·have hcv:=hit (fun k=>Jr (w.heap.size+1) q [(w.heap.size,.deferred (some []))] (J k)) (J2 (w.heap.size+1) q [(w.heap.size,.deferred (some []))] Jx) (.func (.yield (w.heap.size+1)) #[] #[]) G
   ((w.heap.size+1,q.at .ready none) :: (w.heap.size,.deferred (some [])) :: L) W1 rfl hGi (fun k G G' L hm ⟨Lu,e,h⟩=>⟨Lu,e,jT k G G' Lu hm h⟩) (fun G G' L hm ⟨c,Lu,e,h⟩=>⟨c,Lu,e,hJx c G G' Lu hm h⟩) ⟨L,rfl,h0⟩ (Hp.owns (Li:=[]) H1) (VX H.lC H.get hps hlen RY)
  replace hcv:=hcv.go
  have e:(do let d ← Deferred.ofValue (.func (.func gf) #[] caps.toArray) [Value.func (.yield (w.heap.size+1)) #[] #[]].toArray;invoke d.target d.args:Sem Next).run P W1=.ok (.enter gf (#[.func (.yield (w.heap.size+1)) #[] #[]]++caps.toArray)) W1:=by
   simp [Deferred.ofValue,invoke,en]
  rw [e] at hcv
  refine (OV hcv).mono ?_
  rintro e w2 ⟨v,G2,L2,rfl,hch,hJ⟩
  have H2:=Hp.change (Li:=[]) H1 hch
  rcases hJ with ⟨Lu,rfl,hJ⟩|⟨c,Lu,rfl,hJ⟩
  ·have hl:=H2.own _ (fH)
   have H3:=(H2.upd (i:=0) rfl (Dj (q.at .exhausted none) hl)).drop (zi _ _)
   exact ⟨none,_,run_endLoop hl (by simp),hdone _ G2 Lu _ _ hch.gm hJ ⟨H.lC,H.get,by simp [H.qI],H3⟩⟩
  ·have hl:=H2.own _ (fH)
   have H3:=(H2.upd (i:=0) rfl (Dj (q.at .exhausted (some c)) hl)).drop (zi _ _)
   exact ⟨some c,_,run_endLoop hl (by simp),hstop _ c G2 Lu _ _ hch.gm hJ ⟨H.lC,H.get,by simp [H.qI],H3⟩⟩
theorem wF {fn:Func} {R:Ending→World→Prop} {b:Nat} (H:St N ({ target:=.collected b,args:=#[] } :: D) w0 F G0 G L T a w) (i:Nat) (hi:L[i]?=some (b,.deferred (some [])))
  (k:∀ a' w',St N D w0 F G0 G (L.eraseIdx i) T a' w'→bodyPostM (FW none) 0 P fn R .ret a' w'):bodyPostM (FW none) 0 P fn R .ret a w∧bodyPostM (FW none) 0 P fn R .normal a w:=by
 have hb:=H.hp.own _ (kr hi)
 have H2:=(H.hp.upd hi (Dj (.deferred none) hb)).drop (L':=L.eraseIdx i) (by
  have h1:(L.set i (b,.deferred none)).eraseIdx i=L.eraseIdx i:=by
   apply List.ext_getElem?
   intro j
   simp only [List.getElem?_eraseIdx,List.getElem?_set]
   split <;> split <;> first|rfl|omega
  rw [← h1];exact List.eraseIdx_sublist _ _)
 have hk:=k { a with defers:=D } _ ⟨H.lC,H.get,rfl,H2⟩
 have h1:LeavesInM (FW none) 0 P fn a.tmps R a.defers .returning w:=by
  rw [H.qI]
  exact ⟨by simp,.inl ⟨b,_,rfl,run_takeDeferred hb,hk⟩⟩
 exact ⟨h1,h1⟩
theorem St.giveUp {b:Nat} {o:Obj} (h:St N D w0 F G0 G L T a w) (i:Nat) (hi:L[i]?=some (b,o)):St N D w0 F G0 (G.add b o) (L.eraseIdx i) T a w:=⟨h.lC,h.get,h.qI,h.hp.giveUp i hi⟩
theorem St.XB {b:Nat} {o:Obj} (h:St N D w0 F G0 G L T a w) (i:Nat) (hi:L[i]?=some (b,o)):G b=none:=h.hp.qU _ (kr hi)
theorem gB {f:FuncId} {fn:Func} {c:Code} {vs:List aj} {R:Ending→World→Prop} (hf:P.funcs[f]?=some fn) (hb:fn.body=some c) (hN:fn.ntmps=N) (hle:Nat.ble vs.length N=true)
  (hT:DK 0 vs=T) (ho:fC G L w) (h:∀ a,St N [] w (Fr w L) G G L T a w→WP none P c (bodyPostM (FW none) 0 P fn R) a w):Calls P f vs.toArray w R :=
 enter hf hb hN hle hT ho.ro (fun _ hk=>hk.1) ho.own ho.sep (fun p hp hf=>hf.2 p hp rfl) ho.nd h
end steps
end
section
open Go.RowKit
inductive Dat where
 | lf (v:aj)
 | sl (sz:Nat) (rows:List (List Dat))
mutual
def av (G:GH):Dat→aj→Prop
 | .lf u,v=>v=u∧Value.oneCell' u=true
 | .sl sz rows,v=>∃ A c,v=.slice A rows.length c∧rows.length≤c∧c≤maxLen∧(rows≠[]→∃ b o,A=some ⟨b,o,none⟩∧kS G sz b o rows)
def kS (G:GH) (sz b:Nat):Nat→List (List Dat)→Prop
 | _,[]=>True
 | o,r :: rs=>(∃ cs,cs.length=sz∧(∀ j v,cs[j]?=some v→aF G b (o+j)=some v)∧aN G r cs)∧kS G sz b (o+sz) rs
def aN (G:GH):List Dat→List aj→Prop
 | [],cs=>cs=[]
 | d :: ds,cs=>∃ v vs,cs=v :: vs∧av G d v∧aN G ds vs
end
theorem aJ {G G':GH} (hm:∀ k o,G k=some o→G' k=some o) {b o:Nat} {v:aj} (h:aF G b o=some v):aF G' b o=some v:=by
 unfold aF at h ⊢
 cases hg:G b with
 | none=>rw [hg] at h;cases h
 | some ob=>rw [hg] at h;rw [hm b ob hg];exact h
mutual
theorem av.mono {G G':GH} (hm:∀ k o,G k=some o→G' k=some o):∀ {d:Dat} {v:aj},av G d v→av G' d v
 | .lf u,v,h=>by simpa [av] using h
 | .sl sz rows,v,h=>by
  simp only [av] at h ⊢
  obtain ⟨A,c,h1,h2,h3,h4⟩:=h
  exact ⟨A,c,h1,h2,h3,fun hn=>let ⟨b,o,e,hr⟩:=h4 hn;⟨b,o,e,kS.mono hm hr⟩⟩
theorem kS.mono {G G':GH} (hm:∀ k o,G k=some o→G' k=some o) {sz b:Nat}:∀ {rows:List (List Dat)} {o:Nat},kS G sz b o rows→kS G' sz b o rows
 | [],o,_=>by simp [kS]
 | r :: rs,o,h=>by
  simp only [kS] at h ⊢
  obtain ⟨⟨cs,h1,h2,h3⟩,h4⟩:=h
  exact ⟨⟨cs,h1,fun j v hj=>aJ hm (h2 j v hj),aN.mono hm h3⟩,kS.mono hm h4⟩
theorem aN.mono {G G':GH} (hm:∀ k o,G k=some o→G' k=some o):∀ {ds:List Dat} {cs:List aj},aN G ds cs→aN G' ds cs
 | [],cs,h=>by simpa [aN] using h
 | d :: ds,cs,h=>by
  simp only [aN] at h ⊢
  obtain ⟨v,vs,h1,h2,h3⟩:=h
  exact ⟨v,vs,h1,av.mono hm h2,aN.mono hm h3⟩
end
theorem kS.get {G:GH} {sz b:Nat}:∀ {rows:List (List Dat)} {o k:Nat} {r:List Dat},kS G sz b o rows→rows[k]?=some r→∃ cs,cs.length=sz∧(∀ j v,cs[j]?=some v→aF G b (o+k*sz+j)=some v)∧aN G r cs
 | [],_,_,_,_,h=>by simp at h
 | r :: rs,o,0,q,h,hk=>by
  simp only [yg,lS] at hk
  subst hk
  simp only [kS] at h
  simpa using h.1
 | r :: rs,o,k+1,q,h,hk=>by
  simp only [List.getElem?_cons_succ] at hk
  simp only [kS] at h
  obtain ⟨cs,h1,h2,h3⟩:=kS.get h.2 hk
  exact ⟨cs,h1,fun j v hj=>by rw [← h2 j v hj];congr 1;rw [Nat.succ_mul];omega,h3⟩
theorem av.slice {G:GH} {sz:Nat} {rows:List (List Dat)} {v:aj} (h:av G (.sl sz rows) v):∃ A c,v=.slice A rows.length c∧rows.length≤c∧c≤maxLen ∧
  ∀ k r,rows[k]?=some r→∃ b o cs,A=some ⟨b,o,none⟩∧cs.length=sz∧(∀ j u,cs[j]?=some u→aF G b (o+k*sz+j)=some u)∧aN G r cs:=by
 simp only [av] at h
 obtain ⟨A,c,h1,h2,h3,h4⟩:=h
 refine ⟨A,c,h1,h2,h3,fun k r hk=>?_⟩
 obtain ⟨b,o,e,hr⟩:=h4 (by rintro rfl;simp at hk)
 obtain ⟨cs,g1,g2,g3⟩:=hr.get hk
 exact ⟨b,o,cs,e,g1,g2,g3⟩
theorem kS.mk {G:GH} {sz b:Nat}:∀ {rows:List (List Dat)} {o:Nat},(∀ k r,rows[k]?=some r→∃ cs,cs.length=sz∧(∀ j u,cs[j]?=some u→aF G b (o+k*sz+j)=some u)∧aN G r cs)→kS G sz b o rows
 | [],o,_=>by simp [kS]
 | r :: rs,o,h=>by
  simp only [kS]
  refine ⟨by simpa using h 0 r rfl,kS.mk fun k q hk=>?_⟩
  obtain ⟨cs,h1,h2,h3⟩:=h (k+1) q (by simpa using hk)
  exact ⟨cs,h1,fun j v hj=>by rw [← h2 j v hj];congr 1;rw [Nat.succ_mul];omega,h3⟩
abbrev vi (n:Int):aj:=.int .i64 n
structure fK where
 key:Int
 value:Int
structure iB where
 rev:Int
 move:Int
structure gU where
 rev:Int
 key:Int
 before:Int
 had:Bool
structure wT where
 ins:Int
 move:Int
 bU:List iB
 layers:List gU
structure dh where
 props:List fK
 marks:wT
mutual
inductive au where
 | mk (kind code id:Int) (text:ByteArray) (head:dh) (flow:List au) (rows:List aM)
inductive aM where
 | mk (head:dh) (cells:List aL)
inductive aL where
 | mk (id:Int) (head:dh) (flow:List au)
end
namespace au
def kind:au→Int|.mk k _ _ _ _ _ _=>k
def code:au→Int|.mk _ c _ _ _ _ _=>c
def id:au→Int|.mk _ _ i _ _ _ _=>i
def text:au→ByteArray|.mk _ _ _ t _ _ _=>t
def head:au→dh|.mk _ _ _ _ h _ _=>h
def flow:au→List au|.mk _ _ _ _ _ f _=>f
def rows:au→List aM|.mk _ _ _ _ _ _ r=>r
end au
namespace aM
def head:aM→dh|.mk h _=>h
def cells:aM→List aL|.mk _ c=>c
end aM
namespace aL
def id:aL→Int|.mk i _ _=>i
def head:aL→dh|.mk _ h _=>h
def flow:aL→List au|.mk _ _ f=>f
end aL
abbrev li (n:Int):Dat:=.lf (.int .i64 n)
def fK.dat (p:fK):List Dat:=[li p.key,li p.value]
def iB.dat (p:iB):List Dat:=[li p.rev,li p.move]
def gU.dat (p:gU):List Dat:=[li p.rev,li p.key,li p.before,.lf (.bool p.had)]
def wT.dat (m:wT):List Dat:=[li m.ins,li m.move,.sl 2 (m.bU.map iB.dat),.sl 4 (m.layers.map gU.dat)]
def dh.dat (h:dh):List Dat:=.sl 2 (h.props.map fK.dat) :: h.marks.dat
mutual
def au.dat:au→List Dat
 | .mk k c i t h f r=>li k :: li c :: li i :: .lf (.string t) :: (h.dat++[.sl 11 (Fv f),.sl 6 (Im r)])
def aM.dat:aM→List Dat
 | .mk h cs=>h.dat++[.sl 7 (Il cs)]
def aL.dat:aL→List Dat
 | .mk i h f=>li i :: (h.dat++[.sl 11 (Fv f)])
def Fv:List au→List (List Dat)
 | []=>[]
 | x :: r=>x.dat :: Fv r
def Im:List aM→List (List Dat)
 | []=>[]
 | x :: r=>x.dat :: Im r
def Il:List aL→List (List Dat)
 | []=>[]
 | x :: r=>x.dat :: Il r
end
theorem Pj:∀ l:List au,Fv l=l.map au.dat
 | []=>by simp [Fv]
 | x :: r=>by simp [Fv,Pj r]
theorem Wp:∀ l:List aM,Im l=l.map aM.dat
 | []=>by simp [Im]
 | x :: r=>by simp [Im,Wp r]
theorem Wo:∀ l:List aL,Il l=l.map aL.dat
 | []=>by simp [Il]
 | x :: r=>by simp [Il,Wo r]
theorem au.oF (x:au):x.dat=li x.kind :: li x.code :: li x.id :: .lf (.string x.text) :: (x.head.dat++[.sl 11 (x.flow.map au.dat),.sl 6 (x.rows.map aM.dat)]):=by
 cases x;simp [au.dat,au.kind,au.code,au.id,au.text,au.head,au.flow,au.rows,Pj,Wp]
theorem aM.oF (x:aM):x.dat=x.head.dat++[.sl 7 (x.cells.map aL.dat)]:=by
 cases x;simp [aM.dat,aM.head,aM.cells,Wo]
theorem aL.oF (x:aL):x.dat=li x.id :: (x.head.dat++[.sl 11 (x.flow.map au.dat)]):=by
 cases x;simp [aL.dat,aL.id,aL.head,aL.flow,Pj]
structure gG (G:GH) (x:dh) (p d l:aj):Prop where
 props:av G (.sl 2 (x.props.map fK.dat)) p
 bU:av G (.sl 2 (x.marks.bU.map iB.dat)) d
 layers:av G (.sl 4 (x.marks.layers.map gU.dat)) l
theorem gG.mono {G G':GH} (hm:∀ k o,G k=some o→G' k=some o) {x:dh} {p d l:aj} (h:gG G x p d l):gG G' x p d l:=⟨h.props.mono hm,h.bU.mono hm,h.layers.mono hm⟩
theorem av.form {G:GH} {sz:Nat} {rows:List (List Dat)} {v:aj} (h:av G (.sl sz rows) v):∃ A n c,v=.slice A n c:=by
 obtain ⟨A,c,h,_⟩:=h.slice
 exact ⟨A,_,c,h⟩
theorem aN.item {G:GH} {x:au} {cs:List aj} (h:aN G x.dat cs):∃ pA pn pc dA dn dc lA ln lc fA fn fc rA rn rc,cs=[vi x.kind,vi x.code,vi x.id,.string x.text,.slice pA pn pc,vi x.head.marks.ins,vi x.head.marks.move,.slice dA dn dc,.slice lA ln lc,.slice fA fn fc,.slice rA rn rc] ∧
  gG G x.head (.slice pA pn pc) (.slice dA dn dc) (.slice lA ln lc)∧av G (.sl 11 (x.flow.map au.dat)) (.slice fA fn fc)∧av G (.sl 6 (x.rows.map aM.dat)) (.slice rA rn rc):=by
 rw [au.oF] at h
 simp only [dh.dat,wT.dat,jg,iD,aN] at h
 obtain ⟨v1,_,rfl,h1,v2,_,rfl,h2,v3,_,rfl,h3,v4,_,rfl,h4,p,_,rfl,hp,v5,_,rfl,h5,v6,_,rfl,h6,d,_,rfl,hd,l,_,rfl,hl,f,_,rfl,hf,r,_,rfl,hr,rfl⟩:=h
 obtain ⟨pA,pn,pc,rfl⟩:=hp.form
 obtain ⟨dA,dn,dc,rfl⟩:=hd.form
 obtain ⟨lA,ln,lc,rfl⟩:=hl.form
 obtain ⟨fA,fn,fc,rfl⟩:=hf.form
 obtain ⟨rA,rn,rc,rfl⟩:=hr.form
 simp only [av] at h1 h2 h3 h4 h5 h6
 obtain ⟨rfl,-⟩:=h1;obtain ⟨rfl,-⟩:=h2;obtain ⟨rfl,-⟩:=h3;obtain ⟨rfl,-⟩:=h4;obtain ⟨rfl,-⟩:=h5;obtain ⟨rfl,-⟩:=h6
 exact ⟨pA,pn,pc,dA,dn,dc,lA,ln,lc,fA,fn,fc,rA,rn,rc,rfl,⟨hp,hd,hl⟩,hf,hr⟩
theorem aN.row {G:GH} {x:aM} {cs:List aj} (h:aN G x.dat cs):∃ pA pn pc dA dn dc lA ln lc cA cn cc,cs=[.slice pA pn pc,vi x.head.marks.ins,vi x.head.marks.move,.slice dA dn dc,.slice lA ln lc,.slice cA cn cc]∧gG G x.head (.slice pA pn pc) (.slice dA dn dc) (.slice lA ln lc)∧av G (.sl 7 (x.cells.map aL.dat)) (.slice cA cn cc):=by
 rw [aM.oF] at h
 simp only [dh.dat,wT.dat,jg,iD,aN] at h
 obtain ⟨p,_,rfl,hp,v5,_,rfl,h5,v6,_,rfl,h6,d,_,rfl,hd,l,_,rfl,hl,f,_,rfl,hf,rfl⟩:=h
 obtain ⟨pA,pn,pc,rfl⟩:=hp.form
 obtain ⟨dA,dn,dc,rfl⟩:=hd.form
 obtain ⟨lA,ln,lc,rfl⟩:=hl.form
 obtain ⟨fA,fn,fc,rfl⟩:=hf.form
 simp only [av] at h5 h6
 obtain ⟨rfl,-⟩:=h5;obtain ⟨rfl,-⟩:=h6
 exact ⟨pA,pn,pc,dA,dn,dc,lA,ln,lc,fA,fn,fc,rfl,⟨hp,hd,hl⟩,hf⟩
theorem aN.cell {G:GH} {x:aL} {cs:List aj} (h:aN G x.dat cs):∃ pA pn pc dA dn dc lA ln lc fA fn fc,cs=[vi x.id,.slice pA pn pc,vi x.head.marks.ins,vi x.head.marks.move,.slice dA dn dc,.slice lA ln lc,.slice fA fn fc]∧gG G x.head (.slice pA pn pc) (.slice dA dn dc) (.slice lA ln lc)∧av G (.sl 11 (x.flow.map au.dat)) (.slice fA fn fc):=by
 rw [aL.oF] at h
 simp only [dh.dat,wT.dat,jg,iD,aN] at h
 obtain ⟨v1,_,rfl,h1,p,_,rfl,hp,v5,_,rfl,h5,v6,_,rfl,h6,d,_,rfl,hd,l,_,rfl,hl,f,_,rfl,hf,rfl⟩:=h
 obtain ⟨pA,pn,pc,rfl⟩:=hp.form
 obtain ⟨dA,dn,dc,rfl⟩:=hd.form
 obtain ⟨lA,ln,lc,rfl⟩:=hl.form
 obtain ⟨fA,fn,fc,rfl⟩:=hf.form
 simp only [av] at h1 h5 h6
 obtain ⟨rfl,-⟩:=h1;obtain ⟨rfl,-⟩:=h5;obtain ⟨rfl,-⟩:=h6
 exact ⟨pA,pn,pc,dA,dn,dc,lA,ln,lc,fA,fn,fc,rfl,⟨hp,hd,hl⟩,hf⟩
theorem av.one {G:GH}:∀ {d:Dat} {v:aj},av G d v→Value.oneCell' v=true
 | .lf u,v,h=>by simp only [av] at h;rw [h.1];exact h.2
 | .sl sz rows,v,h=>by obtain ⟨A,n,c,rfl⟩:=h.form;rfl
theorem aN.one {G:GH}:∀ {ds:List Dat} {cs:List aj},aN G ds cs→cs.all Value.oneCell'=true
 | [],cs,h=>by simp only [aN] at h;subst h;rfl
 | d :: ds,cs,h=>by
  simp only [aN] at h
  obtain ⟨v,vs,rfl,h1,h2⟩:=h
  simp only [List.all_cons,h1.one,h2.one,Bool.and_self]
theorem aN.length {G:GH}:∀ {ds:List Dat} {cs:List aj},aN G ds cs→cs.length=ds.length
 | [],cs,h=>by simp only [aN] at h;subst h;rfl
 | d :: ds,cs,h=>by
  simp only [aN] at h
  obtain ⟨v,vs,rfl,h1,h2⟩:=h
  simp [h2.length]
theorem aN.mkItem {G:GH} {x:au} {p d l f r:aj} (hh:gG G x.head p d l) (hf:av G (.sl 11 (x.flow.map au.dat)) f) (hr:av G (.sl 6 (x.rows.map aM.dat)) r) :
  aN G x.dat [vi x.kind,vi x.code,vi x.id,.string x.text,p,vi x.head.marks.ins,vi x.head.marks.move,d,l,f,r]:=by
 rw [au.oF]
 simp only [dh.dat,wT.dat,jg,iD,aN]
 exact ⟨_,_,rfl,by simp [av,Value.oneCell'],_,_,rfl,by simp [av,Value.oneCell'],_,_,rfl,by simp [av,Value.oneCell'],_,_,rfl,by simp [av,Value.oneCell'],_,_,rfl,hh.props,_,_,rfl,by simp [av,Value.oneCell'],_,_,rfl,by simp [av,Value.oneCell'],_,_,rfl,hh.bU,_,_,rfl,hh.layers,_,_,rfl,hf,_,_,rfl,hr,rfl⟩
theorem aN.Jl {G:GH} {x:aM} {p d l c:aj} (hh:gG G x.head p d l) (hc:av G (.sl 7 (x.cells.map aL.dat)) c) :
  aN G x.dat [p,vi x.head.marks.ins,vi x.head.marks.move,d,l,c]:=by
 rw [aM.oF]
 simp only [dh.dat,wT.dat,jg,iD,aN]
 exact ⟨_,_,rfl,hh.props,_,_,rfl,by simp [av,Value.oneCell'],_,_,rfl,by simp [av,Value.oneCell'],_,_,rfl,hh.bU,_,_,rfl,hh.layers,_,_,rfl,hc,rfl⟩
theorem aN.Ev {G:GH} {x:aL} {p d l f:aj} (hh:gG G x.head p d l) (hf:av G (.sl 11 (x.flow.map au.dat)) f) :
  aN G x.dat [vi x.id,p,vi x.head.marks.ins,vi x.head.marks.move,d,l,f]:=by
 rw [aL.oF]
 simp only [dh.dat,wT.dat,jg,iD,aN]
 exact ⟨_,_,rfl,by simp [av,Value.oneCell'],_,_,rfl,hh.props,_,_,rfl,by simp [av,Value.oneCell'],_,_,rfl,by simp [av,Value.oneCell'],_,_,rfl,hh.bU,_,_,rfl,hh.layers,_,_,rfl,hf,rfl⟩
mutual
def lM:Dat→Nat
 | .lf v=>(match v with|.string s=>s.size|_=>0)+1
 | .sl _ rows=>1+dX rows
def dX:List (List Dat)→Nat
 | []=>0
 | r :: rs=>1+bJ r+dX rs
def bJ:List Dat→Nat
 | []=>0
 | d :: ds=>lM d+bJ ds
end
theorem Jz (a b:List (List Dat)):dX (a++b)=dX a+dX b:=by
 induction a with
 | nil=>simp [dX]
 | cons x a ih=>simp only [jg,dX,ih];omega
theorem Uj (a b:List Dat):bJ (a++b)=bJ a+bJ b:=by
 induction a with
 | nil=>simp [bJ]
 | cons x a ih=>simp only [jg,bJ,ih];omega
theorem kY:∀ rows:List (List Dat),rows.length≤dX rows
 | []=>bN _
 | r :: rs=>by have:=kY rs;simp only [kG,dX];omega
theorem Nv:∀ {rows:List (List Dat)} {k:Nat} {r:List Dat},rows[k]?=some r→bJ r < dX rows
 | [],_,_,h=>by simp at h
 | q :: rs,0,r,h=>by simp only [yg,lS] at h;subst h;simp only [dX];omega
 | q :: rs,k+1,r,h=>by have:=Nv (rows:=rs) (k:=k) (r:=r) (by simpa using h);simp only [dX];omega
abbrev aZ (l:List au):Nat:=dX (l.map au.dat)
abbrev fE (l:List aM):Nat:=dX (l.map aM.dat)
abbrev gZ (l:List aL):Nat:=dX (l.map aL.dat)
abbrev kZ (h:dh):Nat:=bJ h.dat
theorem BI (h:dh):kZ h=dX (h.props.map fK.dat)+dX (h.marks.bU.map iB.dat)+dX (h.marks.layers.map gU.dat)+5:=by
 simp only [kZ,dh.dat,wT.dat,bJ,lM];omega
theorem qC (x:au):bJ x.dat=x.text.size+kZ x.head+aZ x.flow+fE x.rows+6:=by
 rw [au.oF];simp only [bJ,lM,Uj,kZ,aZ,fE,gZ];omega
theorem vP (x:aM):bJ x.dat=kZ x.head+gZ x.cells+1:=by
 rw [aM.oF];simp only [bJ,lM,Uj,kZ,aZ,fE,gZ];omega
theorem vO (x:aL):bJ x.dat=kZ x.head+aZ x.flow+2:=by
 rw [aL.oF];simp only [bJ,lM,Uj,kZ,aZ,fE,gZ];omega
theorem JL {l:List au} {k:Nat} (h:k < l.length):l[k].text.size+kZ l[k].head+aZ l[k].flow+fE l[k].rows+6 < aZ l:=by
 rw [← qC];exact Nv (k:=k) (by simp [h])
theorem JM {l:List aM} {k:Nat} (h:k < l.length):kZ l[k].head+gZ l[k].cells+1 < fE l:=by
 rw [← vP];exact Nv (k:=k) (by simp [h])
theorem JK {l:List aL} {k:Nat} (h:k < l.length):kZ l[k].head+aZ l[k].flow+2 < gZ l:=by
 rw [← vO];exact Nv (k:=k) (by simp [h])
theorem wR (l:List au):l.length≤aZ l:=by have:=kY (l.map au.dat);simpa using this
theorem BJ (l:List aM):l.length≤fE l:=by have:=kY (l.map aM.dat);simpa using this
theorem BH (l:List aL):l.length≤gZ l:=by have:=kY (l.map aL.dat);simpa using this
theorem Nw {r:List Dat}:∀ {rows:List (List Dat)},r∈rows→bJ r < dX rows
 | [],h=>by cases h
 | q :: rs,h=>by
  rcases iQ.1 h with rfl|h
  ·simp only [dX];omega
  ·have:=Nw h;simp only [dX];omega
theorem NV {x:au} {l:List au} (h:x∈l):bJ x.dat < aZ l:=Nw (List.mem_map_of_mem h)
theorem UN {x:aM} {l:List aM} (h:x∈l):bJ x.dat < fE l:=Nw (List.mem_map_of_mem h)
theorem UL {x:aL} {l:List aL} (h:x∈l):bJ x.dat < gZ l:=Nw (List.mem_map_of_mem h)
end
section
open Go.RowKit
def vV (l:List Oper) (i:Nat):List Nat:=match l[i]? with|some o=>(o.after.toList.filter (Region.binds .any)).map (·.on)|none=>[]
def eH (l:List Oper) (i:Nat):Option Nat:=(l[i]?).bind (·.dst)
def Aw (l:List Oper) (bY:List (List Nat)):Bool :=
 (List.range l.length).all fun i=>(vV l i).all (fun j=>Nat.blt j i) && (bY.getD i []).all fun j=>(vV l i).contains j || (vV l i).any fun k=>Nat.blt k i && (bY.getD k []).contains j
def eZ (S:Nat→Bool) (i:Nat):Nat→Bool:=fun j=>if j=i then true else S j
section
variable {r:Option Nat} {P:Program} {Q:Exit→Act→World→Prop} {l:List Oper} {bY:List (List Nat)} {a:Act} {w:World}
theorem V5 (hk:Aw l bY=true) {S:Nat→Bool} (hd:∀ i,S i=true→∀ j∈vV l i,S j=true):∀ i,i < l.length→(∀ j∈vV l i,S j=true)→∀ j∈bY.getD i [],S j=true:=by
 intro i
 induction i using Nat.strongRecOn with
 | _ i ih =>
  intro hi hdi j hj
  have h1:=lq.1 hk i (rz.2 hi)
  simp only [lU,lq] at h1
  have h2:=h1.2 j hj
  simp only [Bool.or_eq_true,yh,List.any_eq_true,lU] at h2
  rcases h2 with h2|⟨k,hk1,hk2,hk3⟩
  ·exact hdi j h2
  ·have hlt:k < i:=Eq.mp Nat.blt_eq hk2
   exact ih k hlt (by omega) (hd k (hdi k hk1)) j hk3
theorem apF {ops:Array Oper} {i:Nat} {o:Oper} {K:Act→World→Prop} (ho:ops[i]?=some o) (h:WL r P ops (fun e a' w'=>e=.normal∧K a' w') [o] a w):wpOpIn (FW r) 0 P ops Q i K a w:=by
 unfold wpOpIn
 simp only [ho]
 have h':wpListIn (FW r) 0 P ops (fun e a' w'=>e=.normal∧K a' w') [o] a w:=h
 unfold wpListIn at h'
 by_cases hw:Region.wanted o (yielded ops a.tmps)=true
 ·rw [ay hw] at h' ⊢
  refine ⟨fun _ _=>trivial,?_⟩
  have h2:=h'.2
  generalize (o.semAt (FW r).round a.eval).run P w=res at h2 ⊢
  cases res with
  | ok x w1 =>
   cases x with
   | value v=>exact h2.2
   | skip=>exact h2.2
   | defer d=>exact h2.2
   | enter f args=>exact ⟨h2.1,h2.2.mono fun e w2 he=>by
     cases e with
     | returned v=>exact he.2
     | panicked ch=>exact absurd he.1 (by simp)
     | outgrown=>obtain ⟨_,_,h3,_⟩:=he;exact absurd h3 (by simp)⟩
   | row TM args=>exact ⟨h2.1,h2.2.mono fun v w2 he=>he.2⟩
   | round l f t OH b=>exact ⟨h2.1,h2.2.mono fun e w2 he=>by
     cases e with
     | returned v=>exact he.2
     | panicked ch=>exact absurd he.1 (by simp)
     | outgrown=>obtain ⟨_,_,h3,_⟩:=he;exact absurd h3 (by simp)⟩
   | _=>exact h2.elim
  | halt x w1 =>
   cases x with
   | panic v=>exact absurd h2.1 (by simp)
   | _=>exact h2.elim
 ·rw [ah hw] at h' ⊢
  exact ⟨fun _ _=>trivial,h'.2.2⟩
theorem count_set {L:List Bool}:∀ {i:Nat},L[i]?=some false→(L.set i true).count false+1=L.count false:=by
 induction L with
 | nil=>intro i h;simp at h
 | cons b L ih =>
  intro i h
  cases i with
  | zero=>simp at h;subst h;simp
  | succ i =>
   simp only [List.getElem?_cons_succ] at h
   have:=ih h
   simp only [List.set_cons_succ,List.count_cons]
   omega
theorem VT {id:Nat} (hm:P.follows .mixedOrders=true) (bY:List (List Nat)) (hk:Aw l bY=true) (X:(Nat→Bool)→Act→World→Prop) (h0:X (fun _=>false) a w.drew)
  (hstep:∀ i o S a w,l[i]?=some o→X S a w→S i=false→(∀ j∈bY.getD i [],S j=true)→(∀ j,j < l.length→i∈bY.getD j []→S j=false)→WL r P l.toArray (fun e a' w'=>e=.normal∧X (eZ S i) a' w') [o] a w)
  (hend:∀ S a w,(∀ i,i < l.length→S i=true)→X S a w→Q .normal a w):WP r P (.region id l.toArray true) Q a w:=by
 have key:∀ (fuel:Nat) (listed:Array Bool) (S:Nat→Bool) (a:Act) (w:World),listed.size=l.length→(∀ i,i < l.length→listed[i]?=some (S i))→listed.toList.count false≤fuel→(∀ i,i < l.length→S i=true→∀ j∈vV l i,S j=true)→(∀ i,l.length≤i→S i=false)→X S a w →
   wpAnyIn (FW r) 0 P .any l.toArray Q fuel listed a w:=by
  intro fuel
  induction fuel with
  | zero =>
   intro listed S a w hsz hS hc hdn hbig hX
   have hall:∀ i,i < l.length→S i=true:=by
    intro i hi
    cases bT:S i with
    | true=>rfl
    | false =>
     have h1:=hS i hi
     rw [bT] at h1
     have:false∈listed.toList:=kr (by simpa using h1)
     have:=List.count_pos_iff.2 this
     omega
   refine ⟨?_,hend S a w hall hX⟩
   apply List.eq_nil_iff_forall_not_mem.2
   intro i hi
   obtain ⟨h1,o,ho,-⟩:=mem_ready.1 hi
   have hil:i < l.length:=by simpa using (Array.getElem?_eq_some_iff.1 ho).1
   have h2:=hS i hil
   rw [hall i hil] at h2
   rw [Array.getD_eq_getD_getElem?,h2] at h1
   cases h1
  | succ fuel ih =>
   intro listed S a w hsz hS hc hdn hbig hX
   have hget:∀ i d,i < l.length→listed.getD i d=S i:=fun i d hi=>by rw [Array.getD_eq_getD_getElem?,hS i hi];rfl
   refine ⟨fun hnil=>?_,fun i hi=>?_⟩
   ·by_cases hall:∀ i,i < l.length→S i=true
    ·exact hend S a w hall hX
    ·exfalso
     have hex:∃ i,i < l.length∧S i=false:=by
      apply Classical.byContradiction
      intro hno
      apply hall
      intro i hi
      cases bT:S i with
      | true=>rfl
      | false=>exact absurd ⟨i,hi,bT⟩ hno
     obtain ⟨i,hi,bT,hmin⟩:∃ i,i < l.length∧S i=false∧∀ j,j < i→S j=true:=by
      obtain ⟨i0,hi0,hs0⟩:=hex
      clear hall
      induction i0 using Nat.strongRecOn with
      | _ i0 ihh =>
       by_cases hlt:∃ j,j < i0∧S j=false
       ·obtain ⟨j,hj,hsj⟩:=hlt
        exact ihh j hj (by omega) hsj
       ·refine ⟨i0,hi0,hs0,fun j hj=>?_⟩
        cases hSj:S j with
        | true=>rfl
        | false=>exact absurd ⟨j,hj,hSj⟩ hlt
     have hr:i∈Region.ready .any l.toArray listed:=by
      rw [mem_ready]
      refine ⟨by rw [hget i true hi,bT],l[i],by simp [hi],fun e he hb=>?_⟩
      have hk1:=lq.1 hk i (rz.2 hi)
      simp only [lU,lq] at hk1
      have hin:e.on∈vV l i:=by
       simp only [vV,dY hi,List.mem_map,List.mem_filter]
       exact ⟨e,⟨by simpa using he,hb⟩,rfl⟩
      have hlt:e.on < i:=Eq.mp Nat.blt_eq (hk1.1 _ hin)
      rw [hget _ _ (by omega)]
      exact hmin _ hlt
     rw [hnil] at hr
     cases hr
   ·obtain ⟨h1,o,ho,aiK⟩:=mem_ready.1 hi
    have hil:i < l.length:=by simpa using (Array.getElem?_eq_some_iff.1 ho).1
    have ho':l[i]?=some o:=by simpa using ho
    have bT:S i=false:=by rw [← hget i true hil];exact h1
    have hdi:∀ j∈vV l i,S j=true:=by
     intro j hj
     simp only [vV,ho',List.mem_map,List.mem_filter] at hj
     obtain ⟨e,⟨he,hb⟩,rfl⟩:=hj
     have h2:=aiK e (by simpa using he) hb
     by_cases hjl:e.on < l.length
     ·rwa [hget _ _ hjl] at h2
     ·have hk1:=lq.1 hk i (rz.2 hil)
      simp only [lU,lq] at hk1
      have hin:e.on∈vV l i:=by
       simp only [vV,ho',List.mem_map,List.mem_filter]
       exact ⟨e,⟨he,hb⟩,rfl⟩
      have hlt:e.on < i:=Eq.mp Nat.blt_eq (hk1.1 _ hin)
      omega
    have XV:∀ i,S i=true→∀ j∈vV l i,S j=true:=by
     intro k hk' j hj
     by_cases hkl:k < l.length
     ·exact hdn k hkl hk' j hj
     ·rw [hbig k (by omega)] at hk';cases hk'
    refine apF ho ?_
    have hs:=hstep i o S a w ho' hX bT (V5 hk XV i hil hdi) (fun j hjl hj=>by
     cases hSj:S j with
     | false=>rfl
     | true=>have:=V5 hk XV j hjl (hdn j hjl hSj) i hj;rw [this] at bT;cases bT)
    have hmono:∀ e a' w',(e=Exit.normal∧X (eZ S i) a' w')→(e=Exit.normal∧wpAnyIn (FW r) 0 P .any l.toArray Q fuel (listed.setIfInBounds i true) a' w'):=by
     rintro e a' w' ⟨he,hX'⟩
     refine ⟨he,ih _ (eZ S i) a' w' (by simpa using hsz) (fun j hj=>?_) ?_ (fun j hj hSj q hq=>?_) (fun j hj=>?_) hX'⟩
     ·rw [Array.getElem?_setIfInBounds]
      unfold eZ
      by_cases e:i=j
      ·subst e;simp [hsz,hil]
      ·rw [ah e,ah (Ne.symm e)];exact hS j hj
     ·have h3:listed.toList[i]?=some false:=by have:=hS i hil;rw [bT] at this;simpa using this
      have:=count_set h3
      simp only [Array.toList_setIfInBounds]
      omega
     ·unfold eZ at hSj ⊢
      split
      ·rfl
      ·split at hSj
       ·rename_i e;subst e;exact hdi q hq
       ·exact hdn j hj hSj q hq
     ·unfold eZ
      rw [ah (by omega)]
      exact hbig j hj
    have hs':wpListIn (FW r) 0 P l.toArray (fun e a' w'=>e=.normal∧X (eZ S i) a' w') [o] a w:=hs
    show wpListIn (FW r) 0 P l.toArray _ [o] a w
    unfold wpListIn at hs' ⊢
    split
    ·rename_i hw
     rw [ay hw] at hs'
     refine ⟨fun _ _=>trivial,?_⟩
     have h2:=hs'.2
     generalize (o.semAt (FW r).round a.eval).run P w=res at h2 ⊢
     cases res with
     | ok x w1 =>
      cases x with
      | value v=>exact hmono _ _ _ h2
      | skip=>exact hmono _ _ _ h2
      | defer d=>exact hmono _ _ _ h2
      | enter f args=>exact ⟨h2.1,h2.2.mono fun e w2 he=>by
        cases e with
        | returned v=>exact hmono _ _ _ he
        | panicked ch=>exact absurd he.1 (by simp)
        | outgrown=>obtain ⟨_,_,h3,_⟩:=he;exact absurd h3 (by simp)⟩
      | row TM args=>exact ⟨h2.1,h2.2.mono fun v w2 he=>hmono _ _ _ he⟩
      | round l f t OH b=>exact ⟨h2.1,h2.2.mono fun e w2 he=>by
        cases e with
        | returned v=>exact hmono _ _ _ he
        | panicked ch=>exact absurd he.1 (by simp)
        | outgrown=>obtain ⟨_,_,h3,_⟩:=he;exact absurd h3 (by simp)⟩
      | _=>exact h2.elim
     | halt x w1 =>
      cases x with
      | panic v=>exact absurd h2.1 (by simp)
      | _=>exact h2.elim
    ·rename_i hw
     rw [ah hw] at hs'
     exact ⟨fun _ _=>trivial,hmono _ _ _ hs'.2⟩
 refine wpIn_region_any hm (key _ _ (fun _=>false) a w.drew (by simp) (fun i hi=>by simp [hi]) ?_ (fun _ _ h=>by cases h) (fun _ _=>rfl) h0)
 simp
end
def full (N:Nat) (a:Act):List (Nat × aj):=(List.range N).map fun t=>(t,a.tmps.getD t undef)
theorem MO (T U:List (Nat × aj)) (t:Nat):lk (T++U) t=match lk T t with|some v=>some v|none=>lk U t:=by
 induction T with
 | nil=>rfl
 | cons p T ih =>
  obtain ⟨s,v⟩:=p
  by_cases e:s=t
  ·subst e;rw [jg,vD,vD]
  ·rw [jg,tF e,tF e,ih]
theorem Zm (f:Nat→aj):∀ (L:List Nat) (t:Nat),t∈L→lk (L.map fun t=>(t,f t)) t=some (f t)
 | [],_,h=>by cases h
 | s :: L,t,h=>by
  simp only [eu]
  by_cases e:s=t
  ·subst e;rw [vD]
  ·rw [tF e]
   exact Zm f L t ((iQ.1 h).resolve_left (Ne.symm e))
theorem MP {N t:Nat} (a:Act) (h:t < N):lk (full N a) t=some (a.tmps.getD t undef):=Zm (fun t=>a.tmps.getD t undef) _ t (rz.2 h)
section
variable {N:Nat} {D:List Deferred} {w0:World} {F:Nat→Prop} {G0 G G1 G2:GH} {L L1 L2:OL} {T Xs:List (Nat × aj)}
variable {r:Option Nat} {P:Program} {Q:Exit→Act→World→Prop} {l:List Oper} {a a':Act} {w w':World}
theorem St.full (H:St N D w0 F G0 G L T a w):St N D w0 F G0 G L (T++full N a) a w:=by
 refine ⟨H.lC,fun t v ht=>?_,H.qI,H.hp⟩
 rw [MO] at ht
 cases hT:lk T t with
 | some u=>rw [hT] at ht;simp only [lS] at ht;subst ht;exact H.get t u hT
 | none =>
  rw [hT] at ht
  by_cases hlt:t < N
  ·rw [MP a hlt] at ht
   simp only [lS] at ht
   have h2:t < a.tmps.size:=by rw [H.lC];exact hlt
   rw [← ht,Array.getD_eq_getD_getElem?,Array.getElem?_eq_getElem h2]
   rfl
  ·exfalso
   have:∀ (L:List Nat),t∉L→lk (L.map fun t=>(t,a.tmps.getD t undef)) t=none:=by
    intro L
    induction L with
    | nil=>intro _;rfl
    | cons s L ih=>intro h;simp only [eu];rw [tF (fun e=>h (by simp [e])),ih (fun h'=>h (by simp [h']))]
   rw [show lk (Proofs.YthmanofbmnfemaaGreat.full N a) t=none from this _ (by simp;omega)] at ht
   cases ht
theorem St.jo (H:St N D w0 F G0 G L T a w) {t:Nat} {v:aj} (h:a.tmps[t]?=some v):St N D w0 F G0 G L ((t,v) :: T) a w :=
 ⟨H.lC,fun s u hs=>by
  by_cases e:t=s
  ·subst e;rw [vD] at hs;simp only [lS] at hs;subst hs;exact h
  ·rw [tF e] at hs;exact H.get s u hs,H.qI,H.hp⟩
def DX (N:Nat) (D:List Deferred) (w0:World) (F:Nat→Prop) (G0 G:GH) (L:OL) (T:List (Nat × aj)) (l:List Oper) (pr:Nat→aj→GH→Prop) (S:Nat→Bool) (a:Act) (w:World):Prop :=
 ∃ G1,(∀ k o,G k=some o→G1 k=some o)∧St N D w0 F G0 G1 L T a w∧∀ i d,S i=true→eH l i=some d→∃ v,a.tmps[d]?=some v∧pr i v G1
def mW (l:List Oper) (T:List (Nat × aj)) (i:Nat):Bool :=
 match eH l i with|none=>true|some d=>(lk T d).isNone && (List.range l.length).all fun j=>bif Nat.beq i j then true else !(eH l j == some d)
def aep (l:List Oper) (T:List (Nat × aj)):Bool :=
 (List.range l.length).all (mW l T)
theorem jr {pr:Nat→aj→GH→Prop} {S:Nat→Bool} {i d:Nat} {v:aj} (hok:mW l T i=true) (jl:∀ i v (G G':GH),(∀ k o,G k=some o→G' k=some o)→pr i v G→pr i v G') (hi:eH l i=some d) (hdl:Nat.blt i l.length=true)
  (HT:St N D w0 F G0 G1 L T a w) (Hb:St N D w0 F G0 G1 L (Xs++full N a) a w) (hG:∀ k o,G k=some o→G1 k=some o) (hv:∀ i d,S i=true→eH l i=some d→∃ v,a.tmps[d]?=some v∧pr i v G1)
  (hG2:∀ k o,G1 k=some o→G2 k=some o) (hp:pr i v G2) (H:St N D w0 F G0 G2 L ((d,v) :: (Xs++full N a)) a' w'):DX N D w0 F G0 G L T l pr (eZ S i) a' w':=by
 have hil:i < l.length:=Eq.mp Nat.blt_eq hdl
 have hok1:=hok
 rw [mW,hi] at hok1
 simp only [lU,Option.isNone_iff_eq_none,lq,rz] at hok1
 have hsame:∀ t,t≠d→a'.tmps[t]?=a.tmps[t]?:=by
  intro t ht
  by_cases hlt:t < N
  ·have h1:∃ u,lk (Xs++full N a) t=some u:=by
    rw [MO]
    cases lk Xs t with
    | some u=>exact ⟨u,rfl⟩
    | none=>exact ⟨_,MP a hlt⟩
   obtain ⟨u,hu⟩:=h1
   rw [Hb.get t u hu,H.get t u (by rw [tF (Ne.symm ht)];exact hu)]
  ·rw [Array.getElem?_eq_none (by rw [H.lC];omega),Array.getElem?_eq_none (by rw [Hb.lC];omega)]
 refine ⟨G2,fun k o hk=>hG2 k o (hG k o hk),⟨H.lC,fun t u ht=>?_,H.qI,H.hp⟩,fun j e hj he=>?_⟩
 ·rw [hsame t (fun e=>by rw [e,hok1.1] at ht;cases ht)]
  exact HT.get t u ht
 ·by_cases hji:j=i
  ·subst hji
   rw [hi] at he
   simp only [lS] at he
   subst he
   exact ⟨v,H.get d v (vD _ _ _),hp⟩
  ·have hSj:S j=true:=by unfold eZ at hj;rwa [ah hji] at hj
   obtain ⟨u,hu1,hu2⟩:=hv j e hSj he
   have hjl:j < l.length:=by
    unfold eH at he
    by_cases hl:j < l.length
    ·exact hl
    ·rw [List.getElem?_eq_none (by omega)] at he;cases he
   have hne:e≠d:=by
    intro e'
    subst e'
    have h2:=hok1.2 j hjl
    have hb:Nat.beq i j=false:=by
     cases h:Nat.beq i j with
     | false=>rfl
     | true=>exact absurd (Am h).symm hji
    rw [hb,he] at h2
    simp at h2
   exact ⟨u,by rw [hsame e hne];exact hu1,jl j u _ _ hG2 hu2⟩
def yS (l:List Oper) (bY:List (List Nat)) (B:List Nat):Bool :=
 (List.range B.length).all (fun p=>match B[p]? with|none=>false|some b=>Nat.blt b l.length && (List.range l.length).all fun i=>B.contains i && !(B.take p).contains i || (bY.getD b []).contains i) &&
 (List.range l.length).all fun i=>B.contains i || (bY.getD i []).all fun j=>!B.contains j
def qd (l:List Oper):List Nat→List Oper
 | []=>[]
 | b :: B=>match l[b]? with|some o=>o :: qd l B|none=>qd l B
theorem rZ {ops:Array Oper} {Q':Exit→Act→World→Prop} (hq:∀ e a w,Q e a w→Q' e a w):∀ {L:List Oper} {a:Act} {w:World},WL r P ops Q L a w→WL r P ops Q' L a w
 | [],a,w,h=>hq _ _ _ h
 | o :: L,a,w,h=>by
  have h':wpListIn (FW r) 0 P ops Q (o :: L) a w:=h
  show wpListIn (FW r) 0 P ops Q' (o :: L) a w
  unfold wpListIn at h' ⊢
  split
  ·rename_i hw
   rw [ay hw] at h'
   refine ⟨h'.1,?_⟩
   have h2:=h'.2
   generalize (o.semAt (FW r).round a.eval).run P w=res at h2 ⊢
   cases res with
   | ok x w1 =>
    cases x with
    | value v=>exact rZ hq h2
    | skip=>exact rZ hq h2
    | defer d=>exact rZ hq h2
    | enter f args=>exact ⟨h2.1,h2.2.mono fun e w2 he=>by
      cases e with
      | returned v=>exact rZ hq he
      | panicked ch=>exact hq _ _ _ he
      | outgrown=>obtain ⟨x,y,h3⟩:=he;exact ⟨x,y,hq _ _ _ h3⟩⟩
    | row TM args=>exact ⟨h2.1,h2.2.mono fun v w2 he=>rZ hq he⟩
    | round l f t OH b=>exact ⟨h2.1,h2.2.mono fun e w2 he=>by
      cases e with
      | returned v=>exact rZ hq he
      | panicked ch=>exact hq _ _ _ he
      | outgrown=>obtain ⟨x,y,h3⟩:=he;exact ⟨x,y,hq _ _ _ h3⟩⟩
    | _=>exact h2.elim
   | halt x w1 =>
    cases x with
    | panic v=>exact hq _ _ _ h2
    | _=>exact h2.elim
  ·rename_i hw
   rw [ah hw] at h'
   exact ⟨h'.1,rZ hq h'.2⟩
theorem abE {ops:Array Oper} {o:Oper} {L:List Oper} {K:Act→World→Prop} (hK:∀ a w,WL r P ops (fun e a w=>e=.normal∧Q .normal a w) L a w→K a w) (h:WL r P ops (fun e a w=>e=.normal∧Q .normal a w) (o :: L) a w):WL r P ops (fun e a' w'=>e=.normal∧K a' w') [o] a w:=by
 have h':wpListIn (FW r) 0 P ops (fun e a w=>e=.normal∧Q .normal a w) (o :: L) a w:=h
 show wpListIn (FW r) 0 P ops _ [o] a w
 unfold wpListIn at h' ⊢
 split
 ·rename_i hw
  rw [ay hw] at h'
  refine ⟨h'.1,?_⟩
  have h2:=h'.2
  generalize (o.semAt (FW r).round a.eval).run P w=res at h2 ⊢
  cases res with
  | ok x w1 =>
   cases x with
   | value v=>exact ⟨rfl,hK _ _ h2⟩
   | skip=>exact ⟨rfl,hK _ _ h2⟩
   | defer d=>exact ⟨rfl,hK _ _ h2⟩
   | enter f args=>exact ⟨h2.1,h2.2.mono fun e w2 he=>by
     cases e with
     | returned v=>exact ⟨rfl,hK _ _ he⟩
     | panicked ch=>exact absurd he.1 (by simp)
     | outgrown=>obtain ⟨_,_,h3,_⟩:=he;exact absurd h3 (by simp)⟩
   | row TM args=>exact ⟨h2.1,h2.2.mono fun v w2 he=>⟨rfl,hK _ _ he⟩⟩
   | round l f t OH b=>exact ⟨h2.1,h2.2.mono fun e w2 he=>by
     cases e with
     | returned v=>exact ⟨rfl,hK _ _ he⟩
     | panicked ch=>exact absurd he.1 (by simp)
     | outgrown=>obtain ⟨_,_,h3,_⟩:=he;exact absurd h3 (by simp)⟩
   | _=>exact h2.elim
  | halt x w1 =>
   cases x with
   | panic v=>exact absurd h2.1 (by simp)
   | _=>exact h2.elim
 ·rename_i hw
  rw [ah hw] at h'
  exact ⟨h'.1,rfl,hK _ _ h'.2⟩
theorem acR {id:Nat} (hm:P.follows .mixedOrders=true) (bY:List (List Nat)) (B:List Nat) (hk:Aw l bY=true) (hB:yS l bY B=true) (pr:Nat→aj→GH→Prop) (jl:∀ i v (G G':GH),(∀ k o,G k=some o→G' k=some o)→pr i v G→pr i v G')
  (H:St N D w0 F G0 G L T a w)
  (hstep:∀ i o S a w G1,l[i]?=some o→B.contains i=false→S i=false→(∀ j∈bY.getD i [],S j=true)→(∀ k o,G k=some o→G1 k=some o)→St N D w0 F G0 G1 L T a w→(∀ i d,S i=true→eH l i=some d→∃ v,a.tmps[d]?=some v∧pr i v G1) →
   WL r P l.toArray (fun e a' w'=>e=.normal∧DX N D w0 F G0 G L T l pr (eZ S i) a' w') [o] a w)
  (hend:∀ a w G1,(∀ k o,G k=some o→G1 k=some o)→St N D w0 F G0 G1 L T a w→(∀ i d,B.contains i=false→eH l i=some d→∃ v,a.tmps[d]?=some v∧pr i v G1)→WL r P l.toArray (fun e a w=>e=.normal∧Q .normal a w) (qd l B) a w):WP r P (.region id l.toArray true) Q a w:=by
 have hB1:∀ p b,B[p]?=some b→b < l.length∧∀ i,i < l.length→(B.contains i=false∨(B.take p).contains i=true)→i∈bY.getD b []:=by
  intro p b hp
  simp only [yS,lU] at hB
  have h1:=lq.1 hB.1 p (rz.2 (iL.1 hp).1)
  rw [hp] at h1
  simp only [lU,lq,rz] at h1
  refine ⟨Eq.mp Nat.blt_eq h1.1,fun i hi hor=>?_⟩
  have h2:=h1.2 i hi
  rcases hor with h3|h3
  ·have h4:i∉B:=by simpa using h3
   simpa [h4] using h2
  ·have h4:i∈B.take p:=by simpa using h3
   simpa [h4] using h2
 have hB2:∀ i,i < l.length→B.contains i=false→∀ j∈bY.getD i [],B.contains j=false:=by
  intro i hi hb j hj
  simp only [yS,lU] at hB
  have h1:=lq.1 hB.2 i (rz.2 hi)
  rw [hb] at h1
  simp only [Bool.false_or,lq] at h1
  simpa using h1 j hj
 refine VT hm bY hk (fun S a w=>((∀ i,B.contains i=true→S i=false)∧DX N D w0 F G0 G L T l pr S a w) ∨
   ∃ p,(∀ i,i < l.length→B.contains i=false→S i=true)∧(∀ i,(B.take p).contains i=true→S i=true)∧(∀ q b,B[q]?=some b→p≤q→S b=false)∧WL r P l.toArray (fun e a w=>e=.normal∧Q .normal a w) (qd l (B.drop p)) a w)
  (.inl ⟨fun _ _=>rfl,G,fun _ _ h=>h,H.move H.hp.drew,fun _ _ h=>by cases h⟩) ?_ ?_
 ·intro i o S a w ho hX bT nM hdesc
  have hil:i < l.length:=(iL.1 ho).1
  by_cases hbi:B.contains i=true
  ·-- an operation of the tail: all that stands ahead of it is done
   obtain ⟨p0,hp0⟩:=List.getElem?_of_mem (by simpa using hbi:i∈B)
   have hall:∀ j,j < l.length→B.contains j=false→S j=true:=fun j hj hb=>nM j ((hB1 p0 i hp0).2 j hj (.inl hb))
   have RU:∃ p,(∀ i,(B.take p).contains i=true→S i=true)∧(∀ q b,B[q]?=some b→p≤q→S b=false)∧WL r P l.toArray (fun e a w=>e=.normal∧Q .normal a w) (qd l (B.drop p)) a w:=by
    rcases hX with ⟨h1,G1,hG,HS,hv⟩|⟨p,_,h2,h3,h4⟩
    ·refine ⟨0,by simp,fun q b hq _=>h1 b (by simpa using kr hq),?_⟩
     refine hend a w G1 hG HS fun j e hb he=>?_
     have hjl:j < l.length:=by
      unfold eH at he
      by_cases hl:j < l.length
      ·exact hl
      ·rw [List.getElem?_eq_none (by omega)] at he;cases he
     exact hv j e (hall j hjl hb) he
    ·exact ⟨p,h2,h3,h4⟩
   obtain ⟨p,h2,h3,h4⟩:=RU
   -- i is the next one
   have hpp:p≤p0:=by
    rcases Nat.lt_or_ge p0 p with hlt|hge
    ·have:(B.take p).contains i=true:=by
      simp only [yh]
      exact kr (i:=p0) (by rw [uG,ay hlt];exact hp0)
     rw [h2 i this] at bT;cases bT
    ·exact hge
   have Ef:p < B.length:=by have:=(iL.1 hp0).1;omega
   have hbp:B[p]?=some B[p]:=dY Ef
   have heq:B[p]=i:=by
    rcases Nat.lt_or_ge p p0 with hlt|hge
    ·exfalso
     have hin:B[p]∈bY.getD i []:=(hB1 p0 i hp0).2 _ (hB1 p _ hbp).1 (.inr (by
      simp only [yh]
      exact kr (i:=p) (by rw [uG,ay hlt];exact hbp)))
     have:=nM _ hin
     rw [h3 p _ hbp (bN _)] at this;cases this
    ·have:p=p0:=by omega
     subst this
     rw [hbp] at hp0;simpa using hp0
   have hdrop:B.drop p=i :: B.drop (p+1):=by rw [lW Ef,heq]
   have hops:qd l (B.drop p)=o :: qd l (B.drop (p+1)):=by rw [hdrop];simp [qd,ho]
   rw [hops] at h4
   refine abE (fun a' w' h5=>.inr ⟨p+1,fun j hj hb=>?_,fun j hj=>?_,fun q b hq hpq=>?_,h5⟩) h4
   ·unfold eZ;split
    ·rfl
    ·exact hall j hj hb
   ·unfold eZ;split
    ·rfl
    ·rename_i hne
     refine h2 j ?_
     simp only [yh] at hj ⊢
     rw [gN Ef,lT] at hj
     rcases hj with hj|hj
     ·exact hj
     ·simp only [rC] at hj;exact absurd (hj.trans heq) hne
   ·unfold eZ
    rw [ah ?_]
    ·exact h3 q b hq (by omega)
    ·rintro rfl
     -- i would stand twice in B: it would come ahead of itself
     have h6:=(hB1 q b hq).2 b (hB1 q b hq).1 (.inr (by
      simp only [yh]
      exact kr (i:=p) (by rw [uG,ay (by omega)];rw [hbp,heq])))
     rw [nM _ h6] at bT;cases bT
  ·have D7:B.contains i=false:=by cases h:B.contains i with|false=>rfl|true=>exact absurd h hbi
   rcases hX with ⟨h1,G1,hG,HS,hv⟩|⟨p,h0,_,_,_⟩
   ·refine rZ (fun e a' w' ⟨he,hD⟩=>⟨he,.inl ⟨fun j hj=>?_,hD⟩⟩) (hstep i o S a w G1 ho D7 bT nM hG HS hv)
    unfold eZ
    rw [ah (by rintro rfl;rw [D7] at hj;cases hj)]
    exact h1 j hj
   ·rw [h0 i hil D7] at bT;cases bT
 ·intro S a w hall hX
  rcases hX with ⟨h1,G1,hG,HS,hv⟩|⟨p,_,_,h3,h4⟩
  ·have hnil:B=[]:=by
    cases B with
    | nil=>rfl
    | cons b B=>have h5:=h1 b (by simp);rw [hall b (hB1 0 b rfl).1] at h5;cases h5
   subst hnil
   have h6:=hend a w G1 hG HS fun j e _ he=>by
    have hjl:j < l.length:=by
     unfold eH at he
     by_cases hl:j < l.length
     ·exact hl
     ·rw [List.getElem?_eq_none (by omega)] at he;cases he
    exact hv j e (hall j hjl) he
   exact h6.2
  ·have hnil:B.drop p=[]:=by
    cases hd:B.drop p with
    | nil=>rfl
    | cons b B' =>
     have hb:B[p]?=some b:=by
      have:=aB (fun x:List Nat=>x[0]?) hd
      simpa using this
     have h5:=h3 p b hb (bN _)
     rw [hall b (hB1 p b hb).1] at h5;cases h5
   rw [hnil] at h4
   exact h4.2
def allI (φ:Nat→Oper→Prop):Nat→List Oper→Prop
 | _,[]=>True
 | i,o :: r=>φ i o∧allI φ (i+1) r
theorem dw {φ:Nat→Oper→Prop} {i:Nat}:allI φ i []:=trivial
theorem bL {φ:Nat→Oper→Prop} {i:Nat} {o:Oper} {r:List Oper} (h:φ i o) (t:allI φ (i+1) r):allI φ i (o :: r):=⟨h,t⟩
theorem Fa {φ:Nat→Oper→Prop}:∀ {l:List Oper} {s:Nat},allI φ s l→∀ i o,l[i]?=some o→φ (s+i) o
 | [],s,_,i,o,h=>by simp at h
 | x :: l,s,h,0,o,ho=>by simp at ho;subst ho;exact h.1
 | x :: l,s,h,i+1,o,ho=>by
  have:=Fa h.2 i o (by simpa using ho)
  rwa [show s+1+i=s+(i+1) by omega] at this
theorem yj {id:Nat} (hm:P.follows .mixedOrders=true) (bY:List (List Nat)) (B:List Nat) (hk:Aw l bY=true) (hB:yS l bY B=true) (pr:Nat→aj→GH→Prop) (jl:∀ i v (G G':GH),(∀ k o,G k=some o→G' k=some o)→pr i v G→pr i v G')
  (H:St N D w0 F G0 G L T a w)
  (hstep:allI (fun i o=>∀ S a w G1,B.contains i=false→S i=false→(∀ j∈bY.getD i [],S j=true)→(∀ k o,G k=some o→G1 k=some o)→St N D w0 F G0 G1 L T a w→(∀ i d,S i=true→eH l i=some d→∃ v,a.tmps[d]?=some v∧pr i v G1) →
   WL r P l.toArray (fun e a' w'=>e=.normal∧DX N D w0 F G0 G L T l pr (eZ S i) a' w') [o] a w) 0 l)
  (hend:∀ a w G1,(∀ k o,G k=some o→G1 k=some o)→St N D w0 F G0 G1 L T a w→(∀ i d,B.contains i=false→eH l i=some d→∃ v,a.tmps[d]?=some v∧pr i v G1)→WL r P l.toArray (fun e a w=>e=.normal∧Q .normal a w) (qd l B) a w):WP r P (.region id l.toArray true) Q a w :=
 acR hm bY B hk hB pr jl H (fun i o S a w G1 ho hb hs hc hg HS hv=>by
  have:=Fa hstep i o ho
  rw [fQ] at this
  exact this S a w G1 hb hs hc hg HS hv) hend
theorem aoq {pr:Nat→aj→GH→Prop} {i d j t:Nat} {op:Op} {ty:TypeId} {pos:String} {aK:Array Edge} {want b:Bool} {bY:List (List Nat)} {B:List Nat} (hok:mW l T i=true) (jl:∀ i v (G G':GH),(∀ k o,G k=some o→G' k=some o)→pr i v G→pr i v G')
  (hi:eH l i=some d) (hdl:Nat.blt i l.length=true) (hjd:eH l j=some t) (hjc:(bY.getD i []).contains j=true) (hd:Nat.blt d N=true) (hb:∀ v G,pr j v G→v=.bool b) (hbw:b=!want) (hu:∀ G,pr i undef G) :
  ∀ S a w G1,B.contains i=false→S i=false→(∀ j∈bY.getD i [],S j=true)→(∀ k o,G k=some o→G1 k=some o)→St N D w0 F G0 G1 L T a w→(∀ i d,S i=true→eH l i=some d→∃ v,a.tmps[d]?=some v∧pr i v G1) →
   WL r P l.toArray (fun e a' w'=>e=.normal∧DX N D w0 F G0 G L T l pr (eZ S i) a' w') [⟨some d,op,ty,pos,aK,some (j,want)⟩] a w:=by
 intro S a w G1 _ _ hc hG HT hv
 obtain ⟨u,hu1,hu2⟩:=hv j t (hc j (yh.1 hjc)) hjd
 obtain rfl:=hb _ _ hu2
 have H:=(HT.jo hu1).full
 refine aas H (by unfold eH at hjd;simpa using hjd) (show lk ((t,Value.bool b) :: (T++full N a)) t=_ by simp [lk]) hbw hd ?_
 intro a' H'
 refine aG ⟨rfl,?_⟩
 exact jr (Xs:=(t,.bool b) :: T) hok jl hi hdl HT H hG hv (fun _ _ h=>h) (hu G1) H'
def OE (pr:Nat→aj→GH→Prop):List (Nat × Nat × aj)→Prop
 | []=>True
 | (j,_,u) :: r=>(∀ v G,pr j v G→v=u)∧OE pr r
def zZ (us:List (Nat × Nat × aj)) (T:List (Nat × aj)):List (Nat × aj):=us.foldl (fun T x=>(x.2.1,x.2.2) :: T) T
theorem Vz {pr:Nat→aj→GH→Prop} {S:Nat→Bool} {ds:List Nat}:∀ {us:List (Nat × Nat × aj)} {T:List (Nat × aj)},us.all (fun x=>ds.contains x.1 && (eH l x.1 == some x.2.1))=true→OE pr us→(∀ j∈ds,S j=true)→(∀ i d,S i=true→eH l i=some d→∃ v,a.tmps[d]?=some v∧pr i v G1)→St N D w0 F G0 G1 L T a w→St N D w0 F G0 G1 L (zZ us T) a w
 | [],_,_,_,_,_,H=>H
 | (j,t,u) :: r,T,h,hu,hc,hv,H=>by
  simp only [List.all_cons,lU,beq_iff_eq] at h
  obtain ⟨v,hv1,hv2⟩:=hv j t (hc j (yh.1 h.1.1)) h.1.2
  obtain rfl:=hu.1 v _ hv2
  exact Vz (us:=r) h.2 hu.2 hc hv (H.jo hv1)
theorem cO {pr:Nat→aj→GH→Prop} {i d:Nat} {o:Oper} {bY:List (List Nat)} {B:List Nat} (us:List (Nat × Nat × aj)) (R9:us.all (fun x=>(bY.getD i []).contains x.1 && (eH l x.1 == some x.2.1))=true) (hu:OE pr us) (hok:mW l T i=true) (jl:∀ i v (G G':GH),(∀ k o,G k=some o→G' k=some o)→pr i v G→pr i v G')
  (hi:eH l i=some d) (hdl:Nat.blt i l.length=true)
  (k:∀ S a w G1,(∀ k o,G k=some o→G1 k=some o)→St N D w0 F G0 G1 L T a w→St N D w0 F G0 G1 L (zZ us T++full N a) a w →
   (∀ {a' w' G2 v},St N D w0 F G0 G2 L ((d,v) :: (zZ us T++full N a)) a' w'→(∀ k o,G1 k=some o→G2 k=some o)→pr i v G2→WL r P l.toArray (fun e a' w'=>e=.normal∧DX N D w0 F G0 G L T l pr (eZ S i) a' w') [] a' w')→WL r P l.toArray (fun e a' w'=>e=.normal∧DX N D w0 F G0 G L T l pr (eZ S i) a' w') [o] a w) :
  ∀ S a w G1,B.contains i=false→S i=false→(∀ j∈bY.getD i [],S j=true)→(∀ k o,G k=some o→G1 k=some o)→St N D w0 F G0 G1 L T a w→(∀ i d,S i=true→eH l i=some d→∃ v,a.tmps[d]?=some v∧pr i v G1) →
   WL r P l.toArray (fun e a' w'=>e=.normal∧DX N D w0 F G0 G L T l pr (eZ S i) a' w') [o] a w:=by
 intro S a w G1 _ _ hc hG HT hv
 have H:=Vz R9 hu hc hv HT
 exact k S a w G1 hG HT H.full fun H' hG2 hp=>aG ⟨rfl,jr (Xs:=zZ us T) hok jl hi hdl HT H.full hG hv hG2 hp H'⟩
end
end
section
open Go.RowKit
section
variable {N:Nat} {D:List Deferred} {w0:World} {F:Nat→Prop} {G0 G:GH} {L:List (Nat × Obj)} {T:List (Nat × aj)}
variable {r:Option Nat} {P:Program} {ops:Array Oper} {Q:Exit→Act→World→Prop} {rest:List Oper} {w:World}
variable {d:Nat} {ty:TypeId} {pos:String} {aK:Array Edge}
theorem kH {a:Act} {l:List Oper} (H:St N D w0 F G0 G L T a w) (k:∀ a,St N D w0 F G0 G L T a w→WL r P ops Q l a w):WL r P ops Q l a w:=k a H
theorem Rm {x:Operand} {v:aj} (h:(ev T x,Nat.blt d N)=(some v,true)) (k:∀ a',St N D w0 F G0 G L ((d,v) :: T) a' w→WL r P ops Q rest a' w) :
  ∀ a,St N D w0 F G0 G L T a w→WL r P ops Q (⟨some d,.move x,ty,pos,aK,none⟩ :: rest) a w:=fun _ H=>by
 simp only [fZ] at h
 exact C8 H wn h.1 h.2 k
theorem Ra {x:Operand} {v:aj} (h:(ev T x,Nat.blt d N)=(some v,true)) (k:∀ a',St N D w0 F G0 G L ((d,v) :: T) a' w→WL r P ops Q rest a' w) :
  ∀ a,St N D w0 F G0 G L T a w→WL r P ops Q (⟨some d,.assign x,ty,pos,aK,none⟩ :: rest) a w:=fun _ H=>by
 simp only [fZ] at h
 exact ang H wn h.1 h.2 k
theorem Rc {op:BinOp} {x y:Operand} {t yt:TypeId} {kd:IntKind} {p q:Int} {b:Bool} (h:(ev T x,ev T y,Ii op p q,Nat.blt d N)=(some (.int kd p),some (.int kd q),some b,true)) (k:∀ a',St N D w0 F G0 G L ((d,.bool b) :: T) a' w→WL r P ops Q rest a' w) :
  ∀ a,St N D w0 F G0 G L T a w→WL r P ops Q (⟨some d,.binOp op t x y yt,ty,pos,aK,none⟩ :: rest) a w:=fun _ H=>by
 simp only [fZ] at h
 exact CY H wn h.1 h.2.1 h.2.2.1 h.2.2.2 k
theorem Rf {s:TypeId} {x:Operand} {n b o off:Nat} (hs:dB P s n off) (h:(ev T x,Nat.blt d N)=(some (.pointer (some ⟨b,o,none⟩)),true)) (k:∀ a',St N D w0 F G0 G L ((d,.pointer (some ⟨b,o+off,none⟩)) :: T) a' w→WL r P ops Q rest a' w) :
  ∀ a,St N D w0 F G0 G L T a w→WL r P ops Q (⟨some d,.fieldAddr s x n,ty,pos,aK,none⟩ :: rest) a w:=fun _ H=>by
 simp only [fZ] at h
 exact Gq hs H wn h.1 h.2 k
theorem Rn {x:Operand} {t:TypeId} {b:Bool} (h:(ev T x,Nat.blt d N)=(some (.bool b),true)) (k:∀ a',St N D w0 F G0 G L ((d,.bool (!b)) :: T) a' w→WL r P ops Q rest a' w) :
  ∀ a,St N D w0 F G0 G L T a w→WL r P ops Q (⟨some d,.unOp .not t x,ty,pos,aK,none⟩ :: rest) a w:=fun _ H=>by
 simp only [fZ] at h
 exact TP H wn h.1 h.2 k
theorem Rk {x:Operand} {p:Addr} (h:(ev T x,Nat.blt d N)=(some (.pointer (some p)),true)) (k:∀ a',St N D w0 F G0 G L ((d,.pointer (some p)) :: T) a' w→WL r P ops Q rest a' w) :
  ∀ a,St N D w0 F G0 G L T a w→WL r P ops Q (⟨some d,.nilCheck x,ty,pos,aK,none⟩ :: rest) a w:=fun _ H=>by
 simp only [fZ] at h
 exact rT H wn h.1 h.2 k
theorem Rl {x:Operand} {t e:TypeId} {A:Option Addr} {n c:Nat} (hs:P.underlying t=some (.slice e)) (h:(ev T x,Nat.blt d N)=(some (.slice A n c),true)) (k:∀ a',St N D w0 F G0 G L ((d,.int .i64 n) :: T) a' w→WL r P ops Q rest a' w) :
  ∀ a,St N D w0 F G0 G L T a w→WL r P ops Q (⟨some d,.call { callee:=.builtin .len,args:=#[x],argTypes:=#[t] },ty,pos,aK,none⟩ :: rest) a w:=fun _ H=>by
 simp only [fZ] at h
 exact aaq hs H wn h.1 h.2 k
theorem Ro {t:TypeId} {sz bytes:Nat} {zero:List aj} (ht:Ty P t sz bytes zero false) (i:Nat) {x:Operand} {b o:Nat} {v:aj} {c:Array aj} {e:TypeId} {fz:Nat × Nat} (h:(ev T x,L[i]?,Nat.blt d N,c[o]?)=(some (.pointer (some ⟨b,o,none⟩)),some (b,.cells c e fz),true,some v))
  (k:∀ a',St N D w0 F G0 G L ((d,v) :: T) a' w→WL r P ops Q rest a' w) :
  ∀ a,St N D w0 F G0 G L T a w→WL r P ops Q (⟨some d,.load t x,ty,pos,aK,none⟩ :: rest) a w:=fun _ H=>by
 simp only [fZ] at h
 exact kX ht H wn h.1 (H.hp.nQ i h.2.1 h.2.2.2) h.2.2.1 k
theorem J7 {d':Nat} {ty':TypeId} {pos':String} {Kg:Array Edge} {s:TypeId} {x:Operand} {n b o off:Nat} (hs:dB P s n off) {t:TypeId} {sz bytes:Nat} {zero:List aj} (ht:Ty P t sz bytes zero false) (i:Nat) {v:aj} {c:Array aj} {e:TypeId} {fz:Nat × Nat}
  (h:(ev T x,Nat.blt d N)=(some (.pointer (some ⟨b,o,none⟩)),true)) (h':(L[i]?,Nat.blt d' N,c[o+off]?)=(some (b,.cells c e fz),true,some v))
  (k:∀ a',St N D w0 F G0 G L ((d',v) :: (d,.pointer (some ⟨b,o+off,none⟩)) :: T) a' w→WL r P ops Q rest a' w) :
  ∀ a,St N D w0 F G0 G L T a w→WL r P ops Q (⟨some d,.fieldAddr s x n,ty,pos,aK,none⟩ :: ⟨some d',.load t (.tmp d),ty',pos',Kg,none⟩ :: rest) a w :=
 Rf hs h (Ro ht i (by simp only [fZ] at h' ⊢;exact ⟨vD ..,h'.1,h'.2.1,h'.2.2⟩) k)
theorem lv {a:Act} {fn:Func} {t:Nat} {v:aj} {R:Ending→World→Prop} (H:St N [] w0 F G0 G L T a w) (hr:fn.results=#[.tmp t]) (h:lk T t=some v) (hR:R (.returned v) w):bodyPostM (FW none) 0 P fn R .ret a w :=
 (leave1 H (rs:=[.tmp t]) hr (.cons (aW H h) .nil) hR).1
theorem St.rt {a:Act} {R:aj→GH→Prop} {v:aj} (H:St N D w0 (fun k=>k < w0.heap.size) G0 G L T a w) (hR:R v G):bD w0 G0 R (.returned v) w:=H.hp.ret hR
theorem St.ro {a:Act} (H:St N D w0 F G0 G L T a w):∀ k o,G k=some o→w.heap[k]?=some o:=H.hp.ro
theorem iJ {H:GH}:∀ k o,H k=some o→H k=some o:=fun _ _ h=>h
end
theorem eN {N:Nat} {w:World} {G:GH} {P:Program} (T:List (Nat × aj)) {f:FuncId} {fn:Func} {c:Code} {vs:List aj} {R:Ending→World→Prop} (hf:P.funcs[f]?=some fn) (hb:fn.body=some c) (hN:fn.ntmps=N) (hle:Nat.ble vs.length N=true)
  (hT:DK 0 vs=T) (hG:Hold G w) (h:∀ a,St N [] w (fun k=>k < w.heap.size) G G [] T a w→WP none P c (bodyPostM (FW none) 0 P fn R) a w):Calls P f vs.toArray w R :=
 enter hf hb hN hle hT hG (fun _ h=>h) (fun _ h=>by cases h) (fun _ h=>by cases h) (fun _ h=>by cases h) List.Pairwise.nil h
def pvW:List aj→Nat→aj→Prop
 | [],_,_=>True
 | x :: _,0,v=>v=x
 | _ :: l,i+1,v=>pvW l i v
def TA (vs:List aj) (i:Nat) (v:aj) (_:GH):Prop:=pvW vs i v
section
variable {N:Nat} {D:List Deferred} {w0:World} {F:Nat→Prop} {G0 G:GH} {L:OL} {T:List (Nat × aj)}
variable {P:Program} {l:List Oper} {r:Option Nat}
abbrev Hz (N:Nat) (D:List Deferred) (w0:World) (F:Nat→Prop) (G0 G:GH) (L:OL) (T:List (Nat × aj)) (r:Option Nat) (P:Program) (l:List Oper) (pr:Nat→aj→GH→Prop) (i d:Nat) (o:Oper) (us:List (Nat × Nat × aj)):Prop :=
 ∀ S a w G1,(∀ k o,G k=some o→G1 k=some o)→St N D w0 F G0 G1 L T a w→St N D w0 F G0 G1 L (zZ us T++full N a) a w →
   (∀ {a' w' G2 v},St N D w0 F G0 G2 L ((d,v) :: (zZ us T++full N a)) a' w'→(∀ k o,G1 k=some o→G2 k=some o)→pr i v G2→WL r P l.toArray (fun e a' w'=>e=.normal∧DX N D w0 F G0 G L T l pr (eZ S i) a' w') [] a' w')→WL r P l.toArray (fun e a' w'=>e=.normal∧DX N D w0 F G0 G L T l pr (eZ S i) a' w') [o] a w
abbrev uz (N:Nat) (D:List Deferred) (w0:World) (F:Nat→Prop) (G0 G:GH) (L:OL) (T:List (Nat × aj)) (r:Option Nat) (P:Program) (l:List Oper) (bY:List (List Nat)) (B:List Nat) (pr:Nat→aj→GH→Prop) (i:Nat) (o:Oper):Prop :=
 ∀ S a w G1,B.contains i=false→S i=false→(∀ j∈bY.getD i [],S j=true)→(∀ k o,G k=some o→G1 k=some o)→St N D w0 F G0 G1 L T a w→(∀ i d,S i=true→eH l i=some d→∃ v,a.tmps[d]?=some v∧pr i v G1) →
   WL r P l.toArray (fun e a' w'=>e=.normal∧DX N D w0 F G0 G L T l pr (eZ S i) a' w') [o] a w
variable {pr:Nat→aj→GH→Prop} {i d:Nat} {o:Oper} {bY:List (List Nat)} {B:List Nat}
theorem Al (h:(eH l i,Nat.blt i l.length)=(some d,true)) (k:Hz N D w0 F G0 G L T r P l pr i d o [])
  (hok:mW l T i=true:=by kernel_rfl) (jl:∀ i v (G G':GH),(∀ k o,G k=some o→G' k=some o)→pr i v G→pr i v G':=by exact fun _ _ _ _ _ h=>h):uz N D w0 F G0 G L T r P l bY B pr i o:=by
 simp only [fZ] at h
 exact cO [] rfl trivial hok jl h.1 h.2 k
theorem dJ (j t:Nat) {x:aj} (h:(eH l i,Nat.blt i l.length,[(j,t,x)].all (fun x=>(bY.getD i []).contains x.1 && (eH l x.1 == some x.2.1)))=(some d,true,true)) (hu:pr j=fun v _=>v=x) (k:Hz N D w0 F G0 G L T r P l pr i d o [(j,t,x)])
  (hok:mW l T i=true:=by kernel_rfl) (jl:∀ i v (G G':GH),(∀ k o,G k=some o→G' k=some o)→pr i v G→pr i v G':=by exact fun _ _ _ _ _ h=>h):uz N D w0 F G0 G L T r P l bY B pr i o:=by
 simp only [fZ] at h
 exact cO _ h.2.2 ⟨fun v G h=>by rw [hu] at h;exact h,bB⟩ hok jl h.1 h.2.1 k
theorem dL (j t j' t':Nat) {x x':aj} (h:(eH l i,Nat.blt i l.length,[(j,t,x),(j',t',x')].all (fun x=>(bY.getD i []).contains x.1 && (eH l x.1 == some x.2.1)))=(some d,true,true)) (hu:(pr j,pr j')=(fun v _=>v=x,fun v _=>v=x')) (k:Hz N D w0 F G0 G L T r P l pr i d o [(j,t,x),(j',t',x')])
  (hok:mW l T i=true:=by kernel_rfl) (jl:∀ i v (G G':GH),(∀ k o,G k=some o→G' k=some o)→pr i v G→pr i v G':=by exact fun _ _ _ _ _ h=>h):uz N D w0 F G0 G L T r P l bY B pr i o:=by
 simp only [fZ] at h hu
 exact cO _ h.2.2 ⟨fun v G h=>by rw [hu.1] at h;exact h,fun v G h=>by rw [hu.2] at h;exact h,bB⟩ hok jl h.1 h.2.1 k
theorem wU (j t j' t' j2 t2:Nat) {x x' x2:aj} (h:(eH l i,Nat.blt i l.length,[(j,t,x),(j',t',x'),(j2,t2,x2)].all (fun x=>(bY.getD i []).contains x.1 && (eH l x.1 == some x.2.1)))=(some d,true,true)) (hu:(pr j,pr j',pr j2)=(fun v _=>v=x,fun v _=>v=x',fun v _=>v=x2)) (k:Hz N D w0 F G0 G L T r P l pr i d o [(j,t,x),(j',t',x'),(j2,t2,x2)])
  (hok:mW l T i=true:=by kernel_rfl) (jl:∀ i v (G G':GH),(∀ k o,G k=some o→G' k=some o)→pr i v G→pr i v G':=by exact fun _ _ _ _ _ h=>h):uz N D w0 F G0 G L T r P l bY B pr i o:=by
 simp only [fZ] at h hu
 exact cO _ h.2.2 ⟨fun v G h=>by rw [hu.1] at h;exact h,fun v G h=>by rw [hu.2.1] at h;exact h,fun v G h=>by rw [hu.2.2] at h;exact h,bB⟩ hok jl h.1 h.2.1 k
theorem aQ (j:Nat) {t:Nat} {op:Op} {ty:TypeId} {pos:String} {aK:Array Edge} {want b b':Bool} (he:b'=b) (h:(eH l i,Nat.blt i l.length,eH l j,(bY.getD i []).contains j,Nat.blt d N,b,b)=(some d,true,some t,true,true,!want,b)) (hv:pr j=fun v _=>v=.bool b')
  (hok:mW l T i=true:=by kernel_rfl) (jl:∀ i v (G G':GH),(∀ k o,G k=some o→G' k=some o)→pr i v G→pr i v G':=by exact fun _ _ _ _ _ h=>h) (hu:∀ G,pr i undef G:=by exact fun _=>rfl):uz N D w0 F G0 G L T r P l bY B pr i ⟨some d,op,ty,pos,aK,some (j,want)⟩:=by
 simp only [fZ] at h
 exact aoq (b:=b) hok jl h.1 h.2.1 h.2.2.1 h.2.2.2.1 h.2.2.2.2.1 (fun v G g=>by rw [hv] at g;rw [← he];exact g) h.2.2.2.2.2.1 hu
theorem bP {X:(Nat→Bool)→Act→World→GH→Prop} {b:Bool} (h:b=true):∀ S a w G1,b=false→X S a w G1:=fun _ _ _ _ hB=>by rw [h] at hB;cases hB
theorem aC {φ:Nat→Oper→Prop} {i:Nat} {o1 o2 o3 o4:Oper} {r:List Oper} (h1:φ i o1) (h2:φ (i+1) o2) (h3:φ (i+1+1) o3) (h4:φ (i+1+1+1) o4) (t:allI φ (i+1+1+1+1) r):allI φ i (o1 :: o2 :: o3 :: o4 :: r):=⟨h1,h2,h3,h4,t⟩
end
section
variable {N:Nat} {D:List Deferred} {w0:World} {F:Nat→Prop} {G0 G:GH} {L:List (Nat × Obj)} {T:List (Nat × aj)}
variable {r:Option Nat} {P:Program} {ops:Array Oper} {Q:Exit→Act→World→Prop} {rest:List Oper} {w:World}
variable {d:Nat} {ty:TypeId} {pos:String} {aK:Array Edge} {j t:Nat} {want b:Bool}
theorem YM {x:Operand} {v:aj} (hb:b=want) (h:((ops[j]?).bind (·.dst),lk T t,ev T x,Nat.blt d N)=(some t,some (.bool b),some v,true)) (k:∀ a',St N D w0 F G0 G L ((d,v) :: T) a' w→WL r P ops Q rest a' w) :
  ∀ a,St N D w0 F G0 G L T a w→WL r P ops Q (⟨some d,.move x,ty,pos,aK,some (j,want)⟩ :: rest) a w:=fun _ H=>by
 simp only [fZ] at h
 exact C8 H (wg H h.1 h.2.1 hb) h.2.2.1 h.2.2.2 k
theorem YN {x:Operand} {y:TypeId} {v:Bool} (hb:b=want) (h:((ops[j]?).bind (·.dst),lk T t,ev T x,Nat.blt d N)=(some t,some (.bool b),some (.bool v),true)) (k:∀ a',St N D w0 F G0 G L ((d,.bool (!v)) :: T) a' w→WL r P ops Q rest a' w) :
  ∀ a,St N D w0 F G0 G L T a w→WL r P ops Q (⟨some d,.unOp .not y x,ty,pos,aK,some (j,want)⟩ :: rest) a w:=fun _ H=>by
 simp only [fZ] at h
 exact TP H (wg H h.1 h.2.1 hb) h.2.2.1 h.2.2.2 k
theorem YC {op:BinOp} {x y:Operand} {u yt:TypeId} {kd:IntKind} {p q:Int} {c:Bool} (hb:b=want) (h:((ops[j]?).bind (·.dst),lk T t,ev T x,ev T y,Ii op p q,Nat.blt d N)=(some t,some (.bool b),some (.int kd p),some (.int kd q),some c,true)) (k:∀ a',St N D w0 F G0 G L ((d,.bool c) :: T) a' w→WL r P ops Q rest a' w) :
  ∀ a,St N D w0 F G0 G L T a w→WL r P ops Q (⟨some d,.binOp op u x y yt,ty,pos,aK,some (j,want)⟩ :: rest) a w:=fun _ H=>by
 simp only [fZ] at h
 exact CY H (wg H h.1 h.2.1 hb) h.2.2.1 h.2.2.2.1 h.2.2.2.2.1 h.2.2.2.2.2 k
theorem YF {s:TypeId} {x:Operand} {n e o off:Nat} (hs:dB P s n off) (hb:b=want) (h:((ops[j]?).bind (·.dst),lk T t,ev T x,Nat.blt d N)=(some t,some (.bool b),some (.pointer (some ⟨e,o,none⟩)),true)) (k:∀ a',St N D w0 F G0 G L ((d,.pointer (some ⟨e,o+off,none⟩)) :: T) a' w→WL r P ops Q rest a' w) :
  ∀ a,St N D w0 F G0 G L T a w→WL r P ops Q (⟨some d,.fieldAddr s x n,ty,pos,aK,some (j,want)⟩ :: rest) a w:=fun _ H=>by
 simp only [fZ] at h
 exact Gq hs H (wg H h.1 h.2.1 hb) h.2.2.1 h.2.2.2 k
theorem YO {u:TypeId} {sz bytes:Nat} {zero:List aj} (ht:Ty P u sz bytes zero false) (i:Nat) {x:Operand} {e o:Nat} {v:aj} {c:Array aj} {y:TypeId} {fz:Nat × Nat} (hb:b=want) (h:((ops[j]?).bind (·.dst),lk T t,ev T x,L[i]?,Nat.blt d N,c[o]?)=(some t,some (.bool b),some (.pointer (some ⟨e,o,none⟩)),some (e,.cells c y fz),true,some v))
  (k:∀ a',St N D w0 F G0 G L ((d,v) :: T) a' w→WL r P ops Q rest a' w) :
  ∀ a,St N D w0 F G0 G L T a w→WL r P ops Q (⟨some d,.load u x,ty,pos,aK,some (j,want)⟩ :: rest) a w:=fun _ H=>by
 simp only [fZ] at h
 exact kX ht H (wg H h.1 h.2.1 hb) h.2.2.1 (H.hp.nQ i h.2.2.2.1 h.2.2.2.2.2) h.2.2.2.2.1 k
theorem YR {u:TypeId} {sz bytes:Nat} {zero:List aj} (ht:Ty P u sz bytes zero false) {x:Operand} {e o:Nat} {v:aj} (hb:b=want) (h:((ops[j]?).bind (·.dst),lk T t,ev T x,Nat.blt d N)=(some t,some (.bool b),some (.pointer (some ⟨e,o,none⟩)),true)) (hv:aF G e o=some v)
  (k:∀ a',St N D w0 F G0 G L ((d,v) :: T) a' w→WL r P ops Q rest a' w) :
  ∀ a,St N D w0 F G0 G L T a w→WL r P ops Q (⟨some d,.load u x,ty,pos,aK,some (j,want)⟩ :: rest) a w:=fun _ H=>by
 simp only [fZ] at h
 exact kX ht H (wg H h.1 h.2.1 hb) h.2.2.1 (H.hp.aF hv) h.2.2.2 k
theorem Rg {u:TypeId} {sz bytes:Nat} {zero:List aj} (ht:Ty P u sz bytes zero false) {x:Operand} {e o:Nat} {v:aj} (h:(ev T x,Nat.blt d N)=(some (.pointer (some ⟨e,o,none⟩)),true)) (hv:aF G e o=some v)
  (k:∀ a',St N D w0 F G0 G L ((d,v) :: T) a' w→WL r P ops Q rest a' w) :
  ∀ a,St N D w0 F G0 G L T a w→WL r P ops Q (⟨some d,.load u x,ty,pos,aK,none⟩ :: rest) a w:=fun _ H=>by
 simp only [fZ] at h
 exact kX ht H wn h.1 (H.hp.aF hv) h.2 k
theorem YL {x:Operand} {u e:TypeId} {A:Option Addr} {n c:Nat} (hs:P.underlying u=some (.slice e)) (hb:b=want) (h:((ops[j]?).bind (·.dst),lk T t,ev T x,Nat.blt d N)=(some t,some (.bool b),some (.slice A n c),true)) (k:∀ a',St N D w0 F G0 G L ((d,.int .i64 n) :: T) a' w→WL r P ops Q rest a' w) :
  ∀ a,St N D w0 F G0 G L T a w→WL r P ops Q (⟨some d,.call { callee:=.builtin .len,args:=#[x],argTypes:=#[u] },ty,pos,aK,some (j,want)⟩ :: rest) a w:=fun _ H=>by
 simp only [fZ] at h
 exact aaq hs H (wg H h.1 h.2.1 hb) h.2.2.1 h.2.2.2 k
theorem Ks {op:Op} (hb:b=!want) (h:((ops[j]?).bind (·.dst),lk T t,Nat.blt d N)=(some t,some (.bool b),true)) (k:∀ a',St N D w0 F G0 G L ((d,undef) :: T) a' w→WL r P ops Q rest a' w) :
  ∀ a,St N D w0 F G0 G L T a w→WL r P ops Q (⟨some d,op,ty,pos,aK,some (j,want)⟩ :: rest) a w:=fun _ H=>by
 simp only [fZ] at h
 exact aas H h.1 h.2.1 hb h.2.2 k
theorem BP {d2:Nat} {o1 o2:Op} {Uq:TypeId} {pos2:String} {OD:Array Edge} (hb:b=!want) (h:((ops[j]?).bind (·.dst),lk T t,lk ((d,undef) :: T) t,Nat.blt d N,Nat.blt d2 N)=(some t,some (.bool b),some (.bool b),true,true)) (k:∀ a',St N D w0 F G0 G L ((d2,undef) :: (d,undef) :: T) a' w→WL r P ops Q rest a' w) :
  ∀ a,St N D w0 F G0 G L T a w→WL r P ops Q (⟨some d,o1,ty,pos,aK,some (j,want)⟩ :: ⟨some d2,o2,Uq,pos2,OD,some (j,want)⟩ :: rest) a w:=by
 simp only [fZ] at h
 exact Ks hb (by rw [h.1,h.2.1,h.2.2.2.1]) (Ks hb (by rw [h.1,h.2.2.1,h.2.2.2.2]) k)
theorem yZ {d2 d3:Nat} {o1 o2 o3:Op} {Uq ty3:TypeId} {pos2 ams:String} {OD acr:Array Edge} (hb:b=!want) (h:((ops[j]?).bind (·.dst),lk T t,lk ((d,undef) :: T) t,lk ((d2,undef) :: (d,undef) :: T) t,Nat.blt d N,Nat.blt d2 N,Nat.blt d3 N)=(some t,some (.bool b),some (.bool b),some (.bool b),true,true,true)) (k:∀ a',St N D w0 F G0 G L ((d3,undef) :: (d2,undef) :: (d,undef) :: T) a' w→WL r P ops Q rest a' w) :
  ∀ a,St N D w0 F G0 G L T a w→WL r P ops Q (⟨some d,o1,ty,pos,aK,some (j,want)⟩ :: ⟨some d2,o2,Uq,pos2,OD,some (j,want)⟩ :: ⟨some d3,o3,ty3,ams,acr,some (j,want)⟩ :: rest) a w:=by
 simp only [fZ] at h
 exact Ks hb (by rw [h.1,h.2.1,h.2.2.2.2.1]) (BP hb (by rw [h.1,h.2.2.1,h.2.2.2.1,h.2.2.2.2.2.1,h.2.2.2.2.2.2]) k)
theorem Ku {op:Op} (h:((ops[j]?).bind (·.dst),lk T t,Nat.blt d N)=(some t,some undef,true)) (k:∀ a',St N D w0 F G0 G L ((d,undef) :: T) a' w→WL r P ops Q rest a' w) :
  ∀ a,St N D w0 F G0 G L T a w→WL r P ops Q (⟨some d,op,ty,pos,aK,some (j,want)⟩ :: rest) a w:=fun _ H=>by
 simp only [fZ] at h
 exact anz H h.1 h.2.1 h.2.2 k
theorem Pt {c x y:Operand} {v:aj} (hb:b=true) (h:(ev T c,ev T x,Nat.blt d N)=(some (.bool b),some v,true)) (k:∀ a',St N D w0 F G0 G L ((d,v) :: T) a' w→WL r P ops Q rest a' w) :
  ∀ a,St N D w0 F G0 G L T a w→WL r P ops Q (⟨some d,.pick c x y,ty,pos,aK,none⟩ :: rest) a w:=fun _ H=>by
 simp only [fZ] at h
 exact Jv H wn h.1 hb h.2.1 h.2.2 k
theorem Pf {c x y:Operand} {v:aj} (hb:b=false) (h:(ev T c,ev T y,Nat.blt d N)=(some (.bool b),some v,true)) (k:∀ a',St N D w0 F G0 G L ((d,v) :: T) a' w→WL r P ops Q rest a' w) :
  ∀ a,St N D w0 F G0 G L T a w→WL r P ops Q (⟨some d,.pick c x y,ty,pos,aK,none⟩ :: rest) a w:=fun _ H=>by
 simp only [fZ] at h
 exact Nl H wn h.1 hb h.2.1 h.2.2 k
theorem PT {c x y:Operand} {v:aj} {b':Bool} (hb:b=want) (hb':b'=true) (h:((ops[j]?).bind (·.dst),lk T t,ev T c,ev T x,Nat.blt d N)=(some t,some (.bool b),some (.bool b'),some v,true)) (k:∀ a',St N D w0 F G0 G L ((d,v) :: T) a' w→WL r P ops Q rest a' w) :
  ∀ a,St N D w0 F G0 G L T a w→WL r P ops Q (⟨some d,.pick c x y,ty,pos,aK,some (j,want)⟩ :: rest) a w:=fun _ H=>by
 simp only [fZ] at h
 exact Jv H (wg H h.1 h.2.1 hb) h.2.2.1 hb' h.2.2.2.1 h.2.2.2.2 k
theorem PF {c x y:Operand} {v:aj} {b':Bool} (hb:b=want) (hb':b'=false) (h:((ops[j]?).bind (·.dst),lk T t,ev T c,ev T y,Nat.blt d N)=(some t,some (.bool b),some (.bool b'),some v,true)) (k:∀ a',St N D w0 F G0 G L ((d,v) :: T) a' w→WL r P ops Q rest a' w) :
  ∀ a,St N D w0 F G0 G L T a w→WL r P ops Q (⟨some d,.pick c x y,ty,pos,aK,some (j,want)⟩ :: rest) a w:=fun _ H=>by
 simp only [fZ] at h
 exact Nl H (wg H h.1 h.2.1 hb) h.2.2.1 hb' h.2.2.2.1 h.2.2.2.2 k
theorem Ri {s e:TypeId} {sz bytes:Nat} {zero:List aj} {agg:Bool} (hs:P.underlying s=some (.slice e)) (ht:Ty P e sz bytes zero agg) {x y:Operand} {q o n c:Nat} {kd:IntKind} {z:Int} {i:Nat}
  (h:(ev T x,ev T y,Nat.blt d N)=(some (.slice (some ⟨q,o,none⟩) n c),some (.int kd z),true)) (hz:z=(i:Int)) (k:∀ a',St N D w0 F G0 G L ((d,.pointer (some ⟨q,o+i*sz,none⟩)) :: T) a' w→WL r P ops Q rest a' w) (hn:i < n:=by first|assumption|omega) :
  ∀ a,St N D w0 F G0 G L T a w→WL r P ops Q (⟨some d,.indexAddr s x y,ty,pos,aK,none⟩ :: rest) a w:=fun _ H=>by
 simp only [fZ] at h
 exact Jt hs ht i H wn h.1 h.2.1 hz hn h.2.2 k
theorem YI {s e:TypeId} {sz bytes:Nat} {zero:List aj} {agg:Bool} (hs:P.underlying s=some (.slice e)) (ht:Ty P e sz bytes zero agg) {x y:Operand} {q o n c:Nat} {kd:IntKind} {z:Int} {i:Nat} (hb:b=want)
  (h:((ops[j]?).bind (·.dst),lk T t,ev T x,ev T y,Nat.blt d N)=(some t,some (.bool b),some (.slice (some ⟨q,o,none⟩) n c),some (.int kd z),true)) (hz:z=(i:Int)) (k:∀ a',St N D w0 F G0 G L ((d,.pointer (some ⟨q,o+i*sz,none⟩)) :: T) a' w→WL r P ops Q rest a' w) (hn:i < n:=by first|assumption|omega) :
  ∀ a,St N D w0 F G0 G L T a w→WL r P ops Q (⟨some d,.indexAddr s x y,ty,pos,aK,some (j,want)⟩ :: rest) a w:=fun _ H=>by
 simp only [fZ] at h
 exact Jt hs ht i H (wg H h.1 h.2.1 hb) h.2.2.1 h.2.2.2.1 hz hn h.2.2.2.2 k
theorem Rd {x y:Operand} {u yt:TypeId} {p q z:Int} (h:(ev T x,ev T y,p+q,Nat.blt d N)=(some (.int .i64 p),some (.int .i64 q),z,true)) (k:∀ a',St N D w0 F G0 G L ((d,.int .i64 z) :: T) a' w→WL r P ops Q rest a' w) (h1:-9223372036854775808≤z:=by omega) (h2:z < 9223372036854775808:=by omega) :
  ∀ a,St N D w0 F G0 G L T a w→WL r P ops Q (⟨some d,.binOp .add u x y yt,ty,pos,aK,none⟩ :: rest) a w:=fun _ H=>by
 simp only [fZ] at h
 exact Nj z H wn h.1 h.2.1 h.2.2.1 h1 h2 h.2.2.2 k
theorem Rs {x y:Operand} {u yt:TypeId} {p q z:Int} (h:(ev T x,ev T y,p - q,Nat.blt d N)=(some (.int .i64 p),some (.int .i64 q),z,true)) (k:∀ a',St N D w0 F G0 G L ((d,.int .i64 z) :: T) a' w→WL r P ops Q rest a' w) (h1:-9223372036854775808≤z:=by omega) (h2:z < 9223372036854775808:=by omega) :
  ∀ a,St N D w0 F G0 G L T a w→WL r P ops Q (⟨some d,.binOp .sub u x y yt,ty,pos,aK,none⟩ :: rest) a w:=fun _ H=>by
 simp only [fZ] at h
 exact lJ z H wn h.1 h.2.1 h.2.2.1 h1 h2 h.2.2.2 k
theorem Rv {x:Operand} {u:TypeId} {s:ByteArray} (hs:P.underlying u=some .string) (h:(ev T x,Nat.blt d N)=(some (.string s),true)) (k:∀ a',St N D w0 F G0 G L ((d,.int .i64 s.size) :: T) a' w→WL r P ops Q rest a' w) :
  ∀ a,St N D w0 F G0 G L T a w→WL r P ops Q (⟨some d,.call { callee:=.builtin .len,args:=#[x],argTypes:=#[u] },ty,pos,aK,none⟩ :: rest) a w:=fun _ H=>by
 simp only [fZ] at h
 exact CZ hs H wn h.1 h.2 k
theorem Kz {X:Act→World→Prop} (hK:∀ a w,X a w→WL r P ops Q [] a w) (k:∀ a,St N D w0 F G0 G L T a w→X a w):∀ a,St N D w0 F G0 G L T a w→WL r P ops Q [] a w:=fun a H=>hK a w (k a H)
theorem Kn {X:Act→World→Prop} (hK:∀ a w,X a w→Q .normal a w) (k:∀ a,St N D w0 F G0 G L T a w→X a w):∀ a,St N D w0 F G0 G L T a w→WL r P ops Q [] a w:=fun a H=>aG (hK a w (k a H))
theorem AzK {X:Act→World→Prop} {x:Operand} {v:aj} (hK:∀ a w,X a w→WL r P ops Q [] a w) (h:(ev T x,Nat.blt d N)=(some v,true)) (k:∀ a',St N D w0 F G0 G L ((d,v) :: T) a' w→X a' w):∀ a,St N D w0 F G0 G L T a w→WL r P ops Q [⟨some d,.assign x,ty,pos,aK,none⟩] a w:=Ra h (Kz hK k)
theorem kE {X:Act→World→Prop} {x:Operand} {v:aj} (hK:∀ a w,X a w→Q .normal a w) (h:(ev T x,Nat.blt d N)=(some v,true)) (k:∀ a',St N D w0 F G0 G L ((d,v) :: T) a' w→X a' w):∀ a,St N D w0 F G0 G L T a w→WL r P ops Q [⟨some d,.assign x,ty,pos,aK,none⟩] a w:=Ra h (Kn hK k)
theorem Kc {X:Act→World→Prop} (hK:∀ a w,X a w→Q .normal a w) (k:∀ a,St N D w0 F G0 G L T a w→X a w):∀ a,St N D w0 F G0 G L T a w→WP r P .skip Q a w:=fun a H=>ji (hK a w (k a H))
theorem SR {id:Nat} {l:List Oper} {y:Code} (h:∀ K:Act→World→Prop,(∀ a w,WP r P y Q a w→WL r P l.toArray (Exit.then K Q) [] a w)→∀ a,St N D w0 F G0 G L T a w→WL r P l.toArray (Exit.then K Q) l a w):∀ a,St N D w0 F G0 G L T a w→WP r P (.seq (.region id l.toArray false) y) Q a w:=fun a H=>acV fun K hK=>h K hK a H
theorem SQ {x y:Code} (h:∀ K:Act→World→Prop,(∀ a w,WP r P y Q a w→K a w)→∀ a,St N D w0 F G0 G L T a w→WP r P x (Exit.then K Q) a w):∀ a,St N D w0 F G0 G L T a w→WP r P (.seq x y) Q a w:=fun a H=>uO fun K hK=>h K hK a H
theorem SC {id:Nat} {l:List Oper} (h:∀ a,St N D w0 F G0 G L T a w→WL r P l.toArray Q l a w):∀ a,St N D w0 F G0 G L T a w→WP r P (.region id l.toArray false) Q a w:=fun a H=>zl (h a H)
theorem SB {id:Nat} {c:Code} (h:∀ a,St N D w0 F G0 G L T a w→WP r P c (Exit.inBlock id Q) a w):∀ a,St N D w0 F G0 G L T a w→WP r P (.block id c) Q a w:=fun a H=>Km (h a H)
theorem kP {a:Act} {c:Code} (H:St N D w0 F G0 G L T a w) (k:∀ a,St N D w0 F G0 G L T a w→WP r P c Q a w):WP r P c Q a w:=k a H
theorem lr {a:Act} {fn:Func} {v:aj} {R:Ending→World→Prop} (H:St N [] w0 F G0 G L T a w) (hr:fn.results=#[.tmp t]) (hQ:(lk T t,Q .ret a w)=(some v,bodyPostM (FW none) 0 P fn R .ret a w)) (hR:R (.returned v) w):WP none P .ret Q a w:=by
 simp only [fZ] at hQ
 exact bV (by rw [hQ.2];exact lv H hr hQ.1 hR)
theorem dT {p:Prop} [Decidable p] (h:decide p=true):p:=lX h
theorem dF {p:Prop} [Decidable p] (h:decide p=false):¬p:=of_decide_eq_false h
end
section
variable {N:Nat} {D:List Deferred} {w0:World} {F:Nat→Prop} {G0 G:GH} {L:OL} {T:List (Nat × aj)}
variable {P:Program} {l:List Oper} {r:Option Nat} {pr:Nat→aj→GH→Prop} {i d:Nat} {o:Oper} {bY:List (List Nat)} {B:List Nat} {v:aj}
abbrev za (N:Nat) (D:List Deferred) (w0:World) (F:Nat→Prop) (G0 G:GH) (L:OL) (T:List (Nat × aj)) (r:Option Nat) (P:Program) (l:List Oper) (d:Nat) (v:aj) (o:Oper) (us:List (Nat × Nat × aj)):Prop :=
 ∀ {Q:Exit→Act→World→Prop} {a:Act} {w:World} {G1:GH} (_:∀ k o,G k=some o→G1 k=some o),(∀ a',St N D w0 F G0 G1 L ((d,v) :: (zZ us T++full N a)) a' w→WL r P l.toArray Q [] a' w)→∀ a',St N D w0 F G0 G1 L (zZ us T++full N a) a' w→WL r P l.toArray Q [o] a' w
abbrev J6 (N:Nat) (D:List Deferred) (w0:World) (F:Nat→Prop) (G0 G:GH) (L:OL) (T:List (Nat × aj)) (r:Option Nat) (P:Program) (l:List Oper) (d:Nat) (v:aj) (o:Oper) (us:List (Nat × Nat × aj)):Prop :=
 ∀ {Q:Exit→Act→World→Prop} {a:Act} {w:World} {G1:GH},(∀ a',St N D w0 F G0 G1 L ((d,v) :: (zZ us T++full N a)) a' w→WL r P l.toArray Q [] a' w)→∀ a',St N D w0 F G0 G1 L (zZ us T++full N a) a' w→WL r P l.toArray Q [o] a' w
theorem za.k {us:List (Nat × Nat × aj)} (hv:pr i=fun u _=>u=v) (k:za N D w0 F G0 G L T r P l d v o us):Hz N D w0 F G0 G L T r P l pr i d o us :=
 fun _ a w G1 hG _ H fin=>k hG (fun _ H=>fin H (fun _ _ h=>h) (by rw [hv])) a H
theorem X0 (h:(eH l i,Nat.blt i l.length,pr i)=(some d,true,fun u _=>u=v)) (k:za N D w0 F G0 G L T r P l d v o [])
  (hok:mW l T i=true:=by kernel_rfl) (jl:∀ i v (G G':GH),(∀ k o,G k=some o→G' k=some o)→pr i v G→pr i v G':=by exact fun _ _ _ _ _ h=>h):uz N D w0 F G0 G L T r P l bY B pr i o:=by
 simp only [fZ] at h
 exact Al (by rw [h.1,h.2.1]) (za.k h.2.2 k) hok jl
theorem X1 (j t:Nat) {x:aj} (h:(eH l i,Nat.blt i l.length,pr j,pr i,[(j,t,x)].all (fun x=>(bY.getD i []).contains x.1 && (eH l x.1 == some x.2.1)))=(some d,true,fun v _=>v=x,fun u _=>u=v,true)) (k:za N D w0 F G0 G L T r P l d v o [(j,t,x)])
  (hok:mW l T i=true:=by kernel_rfl) (jl:∀ i v (G G':GH),(∀ k o,G k=some o→G' k=some o)→pr i v G→pr i v G':=by exact fun _ _ _ _ _ h=>h):uz N D w0 F G0 G L T r P l bY B pr i o:=by
 simp only [fZ] at h
 exact dJ j t (by rw [h.1,h.2.1,h.2.2.2.2]) h.2.2.1 (za.k h.2.2.2.1 k) hok jl
theorem X2 (j t j' t':Nat) {x x':aj} (h:(eH l i,Nat.blt i l.length,pr j,pr j',pr i,[(j,t,x),(j',t',x')].all (fun x=>(bY.getD i []).contains x.1 && (eH l x.1 == some x.2.1)))=(some d,true,fun v _=>v=x,fun v _=>v=x',fun u _=>u=v,true)) (k:za N D w0 F G0 G L T r P l d v o [(j,t,x),(j',t',x')])
  (hok:mW l T i=true:=by kernel_rfl) (jl:∀ i v (G G':GH),(∀ k o,G k=some o→G' k=some o)→pr i v G→pr i v G':=by exact fun _ _ _ _ _ h=>h):uz N D w0 F G0 G L T r P l bY B pr i o:=by
 simp only [fZ] at h
 exact dL j t j' t' (by rw [h.1,h.2.1,h.2.2.2.2.2]) (by rw [h.2.2.1,h.2.2.2.1]) (za.k h.2.2.2.2.1 k) hok jl
theorem X3 (j t j' t' j2 t2:Nat) {x x' x2:aj} (h:(eH l i,Nat.blt i l.length,pr j,pr j',pr j2,pr i,[(j,t,x),(j',t',x'),(j2,t2,x2)].all (fun x=>(bY.getD i []).contains x.1 && (eH l x.1 == some x.2.1)))=(some d,true,fun v _=>v=x,fun v _=>v=x',fun v _=>v=x2,fun u _=>u=v,true)) (k:za N D w0 F G0 G L T r P l d v o [(j,t,x),(j',t',x'),(j2,t2,x2)])
  (hok:mW l T i=true:=by kernel_rfl) (jl:∀ i v (G G':GH),(∀ k o,G k=some o→G' k=some o)→pr i v G→pr i v G':=by exact fun _ _ _ _ _ h=>h):uz N D w0 F G0 G L T r P l bY B pr i o:=by
 simp only [fZ] at h
 exact wU j t j' t' j2 t2 (by rw [h.1,h.2.1,h.2.2.2.2.2.2]) (by rw [h.2.2.1,h.2.2.2.1,h.2.2.2.2.1]) (za.k h.2.2.2.2.2.1 k) hok jl
theorem Z0 (h:(eH l i,Nat.blt i l.length,pr i)=(some d,true,fun u _=>u=v)) (k:J6 N D w0 F G0 G L T r P l d v o [])
  (hok:mW l T i=true:=by kernel_rfl) (jl:∀ i v (G G':GH),(∀ k o,G k=some o→G' k=some o)→pr i v G→pr i v G':=by exact fun _ _ _ _ _ h=>h):uz N D w0 F G0 G L T r P l bY B pr i o:=X0 h (fun _=>k) hok jl
theorem Z1 (j t:Nat) {x:aj} (h:(eH l i,Nat.blt i l.length,pr j,pr i,[(j,t,x)].all (fun x=>(bY.getD i []).contains x.1 && (eH l x.1 == some x.2.1)))=(some d,true,fun v _=>v=x,fun u _=>u=v,true)) (k:J6 N D w0 F G0 G L T r P l d v o [(j,t,x)])
  (hok:mW l T i=true:=by kernel_rfl) (jl:∀ i v (G G':GH),(∀ k o,G k=some o→G' k=some o)→pr i v G→pr i v G':=by exact fun _ _ _ _ _ h=>h):uz N D w0 F G0 G L T r P l bY B pr i o:=X1 j t h (fun _=>k) hok jl
theorem Z2 (j t j' t':Nat) {x x':aj} (h:(eH l i,Nat.blt i l.length,pr j,pr j',pr i,[(j,t,x),(j',t',x')].all (fun x=>(bY.getD i []).contains x.1 && (eH l x.1 == some x.2.1)))=(some d,true,fun v _=>v=x,fun v _=>v=x',fun u _=>u=v,true)) (k:J6 N D w0 F G0 G L T r P l d v o [(j,t,x),(j',t',x')])
  (hok:mW l T i=true:=by kernel_rfl) (jl:∀ i v (G G':GH),(∀ k o,G k=some o→G' k=some o)→pr i v G→pr i v G':=by exact fun _ _ _ _ _ h=>h):uz N D w0 F G0 G L T r P l bY B pr i o:=X2 j t j' t' h (fun _=>k) hok jl
theorem Z3 (j t j' t' j2 t2:Nat) {x x' x2:aj} (h:(eH l i,Nat.blt i l.length,pr j,pr j',pr j2,pr i,[(j,t,x),(j',t',x'),(j2,t2,x2)].all (fun x=>(bY.getD i []).contains x.1 && (eH l x.1 == some x.2.1)))=(some d,true,fun v _=>v=x,fun v _=>v=x',fun v _=>v=x2,fun u _=>u=v,true)) (k:J6 N D w0 F G0 G L T r P l d v o [(j,t,x),(j',t',x'),(j2,t2,x2)])
  (hok:mW l T i=true:=by kernel_rfl) (jl:∀ i v (G G':GH),(∀ k o,G k=some o→G' k=some o)→pr i v G→pr i v G':=by exact fun _ _ _ _ _ h=>h):uz N D w0 F G0 G L T r P l bY B pr i o:=X3 j t j' t' j2 t2 h (fun _=>k) hok jl
theorem St.aO {a:Act} {w:World} {p:aj→Prop} (H:St N D w0 F G0 G L T a w) (h:∃ u,a.tmps[d]?=some u∧p u) (he:p=fun u=>u=v):St N D w0 F G0 G L ((d,v) :: T) a w:=by
 subst he
 obtain ⟨u,h1,h2⟩:=h
 exact H.jo (h2 ▸ h1)
theorem dI {a:Act} {w:World} {Q:Exit→Act→World→Prop} {id:Nat} (hm:P.follows .mixedOrders=true) (bY:List (List Nat)) (B:List Nat) (hk:(Aw l bY && yS l bY B)=true) (vs:List aj) (H:St N D w0 F G0 G L T a w)
  (hstep:allI (fun i o=>uz N D w0 F G0 G L T r P l bY B (TA vs) i o) 0 l)
  (hend:∀ a w G1,(∀ k o,G k=some o→G1 k=some o)→St N D w0 F G0 G1 L T a w→(∀ i d,B.contains i=false→eH l i=some d→∃ v,a.tmps[d]?=some v∧TA vs i v G1)→WL r P l.toArray (fun e a w=>e=.normal∧Q .normal a w) (qd l B) a w):WP r P (.region id l.toArray true) Q a w:=by
 rw [lU] at hk
 exact yj hm bY B hk.1 hk.2 (TA vs) (fun _ _ _ _ _ h=>h) H hstep hend
variable {w:World} {ops:Array Oper} {Q:Exit→Act→World→Prop} {b:Bool} {t:Nat} {x:Operand} {c1 c2:Code}
theorem Cd (h:ev T x=some (.bool b)) (k1:b=true→∀ a,St N D w0 F G0 G L T a w→WP r P c1 Q a w) (k2:b=false→∀ a,St N D w0 F G0 G L T a w→WP r P c2 Q a w):∀ a,St N D w0 F G0 G L T a w→WP r P (.cond x c1 c2) Q a w:=fun a H=>VQ H h (fun h=>k1 h a H) (fun h=>k2 h a H)
theorem Ct (h:ev T x=some (.bool b)) (hb:b=true) (k:∀ a,St N D w0 F G0 G L T a w→WP r P c1 Q a w):∀ a,St N D w0 F G0 G L T a w→WP r P (.cond x c1 c2) Q a w:=fun a H=>VR H h hb (k a H)
theorem Cf (h:ev T x=some (.bool b)) (hb:b=false) (k:∀ a,St N D w0 F G0 G L T a w→WP r P c2 Q a w):∀ a,St N D w0 F G0 G L T a w→WP r P (.cond x c1 c2) Q a w:=fun a H=>OT H h hb (k a H)
theorem Sp {X:Act→Prop} (t:Nat) (h:lk T t=some (.bool b)) (k1:b=true→∀ a,St N D w0 F G0 G L T a w→X a) (k2:b=false→∀ a,St N D w0 F G0 G L T a w→X a):∀ a,St N D w0 F G0 G L T a w→X a:=fun a H=>anC H t h (fun h=>k1 h a H) (fun h=>k2 h a H)
theorem LR {fn:Func} {R:Ending→World→Prop} (hr:fn.results=#[.tmp t]) (hQ:(lk T t,Q .ret)=(some v,fun a w=>bodyPostM (FW none) 0 P fn R .ret a w)) (hR:∀ {a},St N [] w0 F G0 G L T a w→R (.returned v) w):∀ a,St N [] w0 F G0 G L T a w→WP none P .ret Q a w:=fun a H=>by
 simp only [fZ] at hQ
 exact lr H hr (by rw [hQ.1,hQ.2]) (hR H)
end
def ra:Nat→Nat→List Nat
 | _,0=>[]
 | a,n+1=>a :: ra (a+1) n
theorem lca {α:Type} (a:α) (l m:List α):a :: l++m=a :: (l++m):=rfl
theorem aR {α:Type} (l:List α):[]++l=l:=rfl
theorem aI {p:Prop} [Decidable p] (h:p):decide p=true:=iE h
theorem aY {p:Prop} [Decidable p] (h:¬p):decide p=false:=jA h
end
section
open Go.RowKit
structure Stp (n:Nat) (X:Prop):Prop where
 r:X
structure Held (Y:Prop):Prop where
 r:Y
theorem Stp.z {X:Prop} (h:Held X):Stp 0 X:=⟨h.r⟩
theorem Stp.s {n:Nat} {X Z:Prop} (h:Z→X) (t:Stp n Z):Stp (n+1) X:=⟨h t.r⟩
theorem ga {p:Prop} (h:p:=by first|with_reducible assumption|with_reducible rfl|exact aI (by with_reducible assumption)|exact aY (by with_reducible assumption)|assumption|exact rfl):p:=h
theorem gq {p:Prop} (h:p:=by first|with_reducible assumption|with_reducible rfl|exact aI (by with_reducible assumption)|exact aY (by with_reducible assumption)):p:=h
theorem dG {r:Option Nat} {P:Program} {c:Code} {Q:Exit→Act→World→Prop} {a:Act} {w:World} (h:WP r P c Q a w):WP r P c Q a w:=h
section
variable {N:Nat} {D:List Deferred} {w0:World} {F:Nat→Prop} {G0 G:GH} {L:List (Nat × Obj)} {T:List (Nat × aj)}
variable {r:Option Nat} {P:Program} {ops:Array Oper} {Q Q':Exit→Act→World→Prop} {w:World} {x y:Code} {id:Nat} {l:List Oper}
theorem wo {a:Act} (h:WL r P l.toArray (Exit.then (y.wpIn (FW r) 0 P Q) Q) l a w):WP r P (.seq (.region id l.toArray false) y) Q a w:=wpIn_seq (zl h)
theorem XC {a:Act} (h:WP r P x (Exit.then (y.wpIn (FW r) 0 P Q) Q) a w):WP r P (.seq x y) Q a w:=wpIn_seq h
theorem FC {a:Act} (h:WP r P x (Exit.then (y.wpIn (FW r) 0 P Q) Q) a w):WP r P (.seq x y) Q a w:=wpIn_seq h
theorem gSR (k:∀ a,St N D w0 F G0 G L T a w→WL r P l.toArray (Exit.then (y.wpIn (FW r) 0 P Q) Q) l a w):∀ a,St N D w0 F G0 G L T a w→WP r P (.seq (.region id l.toArray false) y) Q a w:=fun a H=>wo (k a H)
theorem gSQ (k:∀ a,St N D w0 F G0 G L T a w→WP r P x (Exit.then (y.wpIn (FW r) 0 P Q) Q) a w):∀ a,St N D w0 F G0 G L T a w→WP r P (.seq x y) Q a w:=fun a H=>FC (k a H)
theorem gKn (hQ:Q .normal=y.wpIn (FW r) 0 P Q') (k:∀ a,St N D w0 F G0 G L T a w→WP r P y Q' a w):∀ a,St N D w0 F G0 G L T a w→WL r P ops Q [] a w:=fun a H=>aG (by rw [hQ];exact k a H)
theorem gKd (hQ:Q .normal=fun a w=>Exit.normal=Exit.normal∧y.wpIn (FW r) 0 P Q' a w) (k:∀ a,St N D w0 F G0 G L T a w→WP r P y Q' a w):∀ a,St N D w0 F G0 G L T a w→WL r P ops Q [] a w:=fun a H=>aG (by rw [hQ];exact ⟨rfl,k a H⟩)
theorem gKe {id:Nat} (hQ:Q (.exit id)=y.wpIn (FW r) 0 P Q') (k:∀ a,St N D w0 F G0 G L T a w→WP r P y Q' a w):∀ a,St N D w0 F G0 G L T a w→WP r P (.exit id) Q a w:=fun a H=>wX (by rw [hQ];exact k a H)
theorem dK {a:Act} {o:Oper} {n:Nat} {l:List Oper} (h:WL r P ops Q (List.drop n l) a w):WL r P ops Q (List.drop (n+1) (o :: l)) a w:=h
theorem d0 {a:Act} {l:List Oper} (h:WL r P ops Q l a w):WL r P ops Q (List.drop 0 l) a w:=h
theorem gKc (hQ:Q .normal=y.wpIn (FW r) 0 P Q') (k:∀ a,St N D w0 F G0 G L T a w→WP r P y Q' a w):∀ a,St N D w0 F G0 G L T a w→WP r P .skip Q a w:=fun a H=>ji (by rw [hQ];exact k a H)
theorem Vq {rest:List Oper} {d j t:Nat} {ty:TypeId} {pos:String} {aK:Array Edge} {b:Bool} {op:Op} (hb:b=false) (h:((ops[j]?).bind (·.dst),lk T t,Nat.blt d N)=(some t,some (.bool b),true)) (k:∀ a',St N D w0 F G0 G L ((d,undef) :: T) a' w→WL r P ops Q rest a' w) :
  ∀ a,St N D w0 F G0 G L T a w→WL r P ops Q (⟨some d,op,ty,pos,aK,some (j,true)⟩ :: rest) a w:=Ks hb h k
theorem Vp {rest:List Oper} {d j t:Nat} {ty:TypeId} {pos:String} {aK:Array Edge} {b:Bool} {op:Op} (hb:b=true) (h:((ops[j]?).bind (·.dst),lk T t,Nat.blt d N)=(some t,some (.bool b),true)) (k:∀ a',St N D w0 F G0 G L ((d,undef) :: T) a' w→WL r P ops Q rest a' w) :
  ∀ a,St N D w0 F G0 G L T a w→WL r P ops Q (⟨some d,op,ty,pos,aK,some (j,false)⟩ :: rest) a w:=Ks hb h k
section
variable {n d j:Nat} {ty:TypeId} {pos:String} {aK:Array Edge} {rest:List Oper} {o:Op} {b:Bool} {od:Option Nat} {e:TypeId} {z:Operand}
theorem isE (h:Stp n (∀ a,St N D w0 F G0 G L T a w→WL r P ops Q [] a w)):Stp n (∀ a,St N D w0 F G0 G L T a w→WL r P ops Q [] a w):=h
theorem isW {c:Code} (h:Stp n (∀ a,St N D w0 F G0 G L T a w→WP r P c Q a w)):Stp n (∀ a,St N D w0 F G0 G L T a w→WP r P c Q a w):=h
theorem isN (h:Stp n (∀ a,St N D w0 F G0 G L T a w→WL r P ops Q (⟨od,o,ty,pos,aK,none⟩ :: rest) a w)):Stp n (∀ a,St N D w0 F G0 G L T a w→WL r P ops Q (⟨od,o,ty,pos,aK,none⟩ :: rest) a w):=h
theorem isG (h:Stp n (∀ a,St N D w0 F G0 G L T a w→WL r P ops Q (⟨od,o,ty,pos,aK,some (j,b)⟩ :: rest) a w)):Stp n (∀ a,St N D w0 F G0 G L T a w→WL r P ops Q (⟨od,o,ty,pos,aK,some (j,b)⟩ :: rest) a w):=h
theorem isL (h:Stp n (∀ a,St N D w0 F G0 G L T a w→WL r P ops Q (⟨od,.load e z,ty,pos,aK,none⟩ :: rest) a w)):Stp n (∀ a,St N D w0 F G0 G L T a w→WL r P ops Q (⟨od,.load e z,ty,pos,aK,none⟩ :: rest) a w):=h
theorem isM (h:Stp n (∀ a,St N D w0 F G0 G L T a w→WL r P ops Q (⟨od,.load e z,ty,pos,aK,some (j,b)⟩ :: rest) a w)):Stp n (∀ a,St N D w0 F G0 G L T a w→WL r P ops Q (⟨od,.load e z,ty,pos,aK,some (j,b)⟩ :: rest) a w):=h
end
theorem gT {n:Nat} {X Y:Prop} (h:Held Y→Stp n X:=by
  intro hY_
  repeat first
   | exact Stp.z hY_
   | (with_reducible refine isN ?_;first
     | with_reducible refine Stp.s (fun k=>Rm (by with_unfolding_all exact rfl) k) ?_
     | with_reducible refine Stp.s (fun k=>Ra (by with_unfolding_all exact rfl) k) ?_
     | with_reducible refine Stp.s (fun k=>Rc (by with_unfolding_all exact rfl) k) ?_
     | with_reducible refine Stp.s (fun k=>Rf inferInstance (by with_unfolding_all exact rfl) k) ?_
     | (with_reducible refine isL ?_;first
       | with_reducible refine Stp.s (fun k=>Rg inferInstance (by with_unfolding_all exact rfl) (by with_reducible assumption) k) ?_
       | with_reducible refine Stp.s (fun k=>Ro inferInstance 0 (by with_unfolding_all exact rfl) k) ?_
       | with_reducible refine Stp.s (fun k=>Ro inferInstance 1 (by with_unfolding_all exact rfl) k) ?_
       | with_reducible refine Stp.s (fun k=>Ro inferInstance 2 (by with_unfolding_all exact rfl) k) ?_
       | with_reducible refine Stp.s (fun k=>Ro inferInstance 3 (by with_unfolding_all exact rfl) k) ?_
       | with_reducible refine Stp.s (fun k=>Ro inferInstance 4 (by with_unfolding_all exact rfl) k) ?_
       | with_reducible refine Stp.s (fun k=>Ro inferInstance 5 (by with_unfolding_all exact rfl) k) ?_
       | with_reducible refine Stp.s (fun k=>Ro inferInstance 6 (by with_unfolding_all exact rfl) k) ?_
       | with_reducible refine Stp.s (fun k=>Ro inferInstance 7 (by with_unfolding_all exact rfl) k) ?_)
     | with_reducible refine Stp.s (fun k=>Rl jK.h (by with_unfolding_all exact rfl) k) ?_
     | (with_reducible refine Stp.s (fun k=>Ri jK.h inferInstance (by with_unfolding_all exact rfl) (by with_unfolding_all exact rfl) k ?_) ?_;first|assumption|omega)
     | with_reducible refine Stp.s (fun k=>Rn (by with_unfolding_all exact rfl) k) ?_
     | (with_reducible refine Stp.s (fun k=>Rd (by with_unfolding_all exact rfl) k ?_ ?_) ?_;omega;omega)
     | (with_reducible refine Stp.s (fun k=>Rs (by with_unfolding_all exact rfl) k ?_ ?_) ?_;omega;omega)
     | (with_reducible refine Stp.s (fun k=>Pt ?_ (by with_unfolding_all exact rfl) k) ?_;exact ga)
     | (with_reducible refine Stp.s (fun k=>Pf ?_ (by with_unfolding_all exact rfl) k) ?_;exact ga)
     | with_reducible refine Stp.s (fun k=>Rk (by with_unfolding_all exact rfl) k) ?_
     | with_reducible refine Stp.s (fun k=>Rv jK.h (by with_unfolding_all exact rfl) k) ?_)
   | (with_reducible refine isG ?_;first
     | with_reducible refine Stp.s (fun k=>Ku (by with_unfolding_all exact rfl) k) ?_
     | (with_reducible refine Stp.s (fun k=>Vq ?_ (by with_unfolding_all exact rfl) k) ?_;exact gq)
     | (with_reducible refine Stp.s (fun k=>Vp ?_ (by with_unfolding_all exact rfl) k) ?_;exact gq)
     | (with_reducible refine Stp.s (fun k=>YM ?_ (by with_unfolding_all exact rfl) k) ?_;exact ga)
     | (with_reducible refine Stp.s (fun k=>YC ?_ (by with_unfolding_all exact rfl) k) ?_;exact ga)
     | (with_reducible refine Stp.s (fun k=>YF inferInstance ?_ (by with_unfolding_all exact rfl) k) ?_;exact ga)
     | (with_reducible refine isM ?_;first
       | (with_reducible refine Stp.s (fun k=>YR inferInstance ?_ (by with_unfolding_all exact rfl) (by with_reducible assumption) k) ?_;exact ga)
       | (with_reducible refine Stp.s (fun k=>YO inferInstance 0 ?_ (by with_unfolding_all exact rfl) k) ?_;exact ga)
       | (with_reducible refine Stp.s (fun k=>YO inferInstance 1 ?_ (by with_unfolding_all exact rfl) k) ?_;exact ga)
       | (with_reducible refine Stp.s (fun k=>YO inferInstance 2 ?_ (by with_unfolding_all exact rfl) k) ?_;exact ga)
       | (with_reducible refine Stp.s (fun k=>YO inferInstance 3 ?_ (by with_unfolding_all exact rfl) k) ?_;exact ga)
       | (with_reducible refine Stp.s (fun k=>YO inferInstance 4 ?_ (by with_unfolding_all exact rfl) k) ?_;exact ga)
       | (with_reducible refine Stp.s (fun k=>YO inferInstance 5 ?_ (by with_unfolding_all exact rfl) k) ?_;exact ga)
       | (with_reducible refine Stp.s (fun k=>YO inferInstance 6 ?_ (by with_unfolding_all exact rfl) k) ?_;exact ga)
       | (with_reducible refine Stp.s (fun k=>YO inferInstance 7 ?_ (by with_unfolding_all exact rfl) k) ?_;exact ga))
     | (with_reducible refine Stp.s (fun k=>YN ?_ (by with_unfolding_all exact rfl) k) ?_;exact ga)
     | (with_reducible refine Stp.s (fun k=>YL jK.h ?_ (by with_unfolding_all exact rfl) k) ?_;exact ga)
     | (with_reducible refine Stp.s (fun k=>YI jK.h inferInstance ?_ (by with_unfolding_all exact rfl) (by with_unfolding_all exact rfl) k ?_) ?_;exact ga;first|assumption|omega)
     | (with_reducible refine Stp.s (fun k=>PT ?_ ?_ (by with_unfolding_all exact rfl) k) ?_;exact ga;exact ga)
     | (with_reducible refine Stp.s (fun k=>PF ?_ ?_ (by with_unfolding_all exact rfl) k) ?_;exact ga;exact ga)
     | (with_reducible refine Stp.s (fun k=>Vq ?_ (by with_unfolding_all exact rfl) k) ?_;exact ga)
     | (with_reducible refine Stp.s (fun k=>Vp ?_ (by with_unfolding_all exact rfl) k) ?_;exact ga))
   | (with_reducible refine isE ?_;first
     | with_reducible refine Stp.s (fun k=>gKn (by with_unfolding_all exact rfl) k) ?_
     | with_reducible refine Stp.s (fun k=>gKd (by with_unfolding_all exact rfl) k) ?_)
   | (with_reducible refine isW ?_;first
     | with_reducible refine Stp.s gSR ?_
     | (with_reducible refine Stp.s (fun k=>Ct (by with_unfolding_all exact rfl) ?_ k) ?_;exact ga)
     | (with_reducible refine Stp.s (fun k=>Cf (by with_unfolding_all exact rfl) ?_ k) ?_;exact ga)
     | with_reducible refine Stp.s gSQ ?_
     | with_reducible refine Stp.s SB ?_
     | with_reducible refine Stp.s (fun k=>gKe (by with_unfolding_all exact rfl) k) ?_
     | with_reducible refine Stp.s (fun k=>gKc (by with_unfolding_all exact rfl) k) ?_
     | with_reducible refine Stp.s SC ?_)):Held Y→Stp n X:=h
theorem t0 (n:Nat) {a:Act} {c:List Oper} {Y:Prop} (H:St N D w0 F G0 G L T a w) (k:Y) (hc:c=[]:=by exact rfl) (h:Held Y→Stp n (∀ a,St N D w0 F G0 G L T a w→WL r P ops Q [] a w):=by exact gT):WL r P ops Q c a w:=by
 subst hc;exact (h ⟨k⟩).r a H
theorem t1 (n:Nat) {a:Act} {c:List Oper} {Y:Prop} {od:Option Nat} {o:Op} {ty:TypeId} {pos:String} {aK:Array Edge} {g:Option (Nat × Bool)} (H:St N D w0 F G0 G L T a w) (k:Y) (hc:c=[⟨od,o,ty,pos,aK,g⟩]:=by exact rfl)
  (h:Held Y→Stp n (∀ a,St N D w0 F G0 G L T a w→WL r P ops Q [⟨od,o,ty,pos,aK,g⟩] a w):=by exact gT):WL r P ops Q c a w:=by
 subst hc;exact (h ⟨k⟩).r a H
theorem t2 (n:Nat) {a:Act} {c:List Oper} {Y:Prop} {od ZN:Option Nat} {o o':Op} {ty ty':TypeId} {pos pos':String} {aK Kg:Array Edge} {g g':Option (Nat × Bool)} (H:St N D w0 F G0 G L T a w) (k:Y) (hc:c=[⟨od,o,ty,pos,aK,g⟩,⟨ZN,o',ty',pos',Kg,g'⟩]:=by exact rfl)
  (h:Held Y→Stp n (∀ a,St N D w0 F G0 G L T a w→WL r P ops Q [⟨od,o,ty,pos,aK,g⟩,⟨ZN,o',ty',pos',Kg,g'⟩] a w):=by exact gT):WL r P ops Q c a w:=by
 subst hc;exact (h ⟨k⟩).r a H
theorem sB {X:Prop} (h:X:=by exact St.sub (by assumption) (by repeat (first|exact trivial|refine ⟨rfl,?_⟩))):X:=h
class Pr (b:Bool) (p q:outParam Prop):Prop where
 t:b=true→p
 f:b=false→q
instance (priority:=100) Pr.all (b:Bool):Pr b (b=true) (b=false):=⟨fun h=>h,fun h=>h⟩
instance Pr.dec (p:Prop) [Decidable p]:Pr (decide p) p (¬p):=⟨lX,of_decide_eq_false⟩
structure Br (t:Nat) (Z Y1 Y2:Prop):Prop where
 r:Y1→Y2→Z
theorem Br.cb {o:Operand} {b:Bool} (h:ev T o=some (.bool b)):Br 0 (∀ a,St N D w0 F G0 G L T a w→WP r P (.cond o x y) Q a w) (b=true→∀ a,St N D w0 F G0 G L T a w→WP r P x Q a w) (b=false→∀ a,St N D w0 F G0 G L T a w→WP r P y Q a w):=⟨fun k1 k2=>Cd h k1 k2⟩
theorem Br.sb {X:Act→Prop} {t:Nat} {b:Bool} (h:lk T t=some (.bool b)):Br t (∀ a,St N D w0 F G0 G L T a w→X a) (b=true→∀ a,St N D w0 F G0 G L T a w→X a) (b=false→∀ a,St N D w0 F G0 G L T a w→X a):=⟨fun k1 k2=>Sp t h k1 k2⟩
theorem Br.c {o:Operand} {b:Bool} {p q:Prop} (h:ev T o=some (.bool b)) [i:Pr b p q]:Br 0 (∀ a,St N D w0 F G0 G L T a w→WP r P (.cond o x y) Q a w) (p→∀ a,St N D w0 F G0 G L T a w→WP r P x Q a w) (q→∀ a,St N D w0 F G0 G L T a w→WP r P y Q a w):=⟨fun k1 k2=>Cd h (fun e=>k1 (i.t e)) (fun e=>k2 (i.f e))⟩
theorem Br.s {X:Act→Prop} {t:Nat} {b:Bool} {p q:Prop} (h:lk T t=some (.bool b)) [i:Pr b p q]:Br t (∀ a,St N D w0 F G0 G L T a w→X a) (p→∀ a,St N D w0 F G0 G L T a w→X a) (q→∀ a,St N D w0 F G0 G L T a w→X a):=⟨fun k1 k2=>Sp t h (fun e=>k1 (i.t e)) (fun e=>k2 (i.f e))⟩
structure Lf (Y Z:Prop):Prop where
 r:Z→Y
theorem Lf.r1 {fn:Func} {t:Nat} {v:aj} {R:aj→GH→Prop} (hQ:Q .ret=fun a w=>bodyPostM (FW none) 0 P fn (bD w0 G0 R) .ret a w) (hr:fn.results=#[.tmp t]) (hv:lk T t=some v):Lf (∀ a,St N [] w0 (fun k=>k < w0.heap.size) G0 G L T a w→WP none P .ret Q a w) (R v G) :=
 ⟨fun hx=>LR hr (by rw [hQ,hv]) (fun H=>H.rt hx)⟩
variable {X Y Z Y1 Y2:Prop}
theorem ak (n:Nat)  (k:Y)  (h:Held Y→Stp n X:=by exact gT):X:=(h ⟨k⟩).r
theorem aH (n:Nat) {a:Act} {c:List Oper} (H:St N D w0 F G0 G L T a w) (k:Y) (h:Held Y→Stp n (∀ a,St N D w0 F G0 G L T a w→WL r P ops Q c a w):=by exact gT):WL r P ops Q c a w:=(h ⟨k⟩).r a H
theorem eB (n:Nat) {a:Act} {c:Code} (H:St N D w0 F G0 G L T a w) (k:Y) (h:Held Y→Stp n (∀ a,St N D w0 F G0 G L T a w→WP r P c Q a w):=by exact gT):WP r P c Q a w:=(h ⟨k⟩).r a H
theorem goB (n:Nat)  (k1:Y1) (k2:Y2)  (h:Held Z→Stp n X:=by exact gT) (hb:Br 0 Z Y1 Y2:=by exact Br.c rfl):X:=(h ⟨hb.r k1 k2⟩).r
theorem gW (n:Nat) {a:Act} {c:List Oper} (H:St N D w0 F G0 G L T a w) (k1:Y1) (k2:Y2) (h:Held Z→Stp n (∀ a,St N D w0 F G0 G L T a w→WL r P ops Q c a w):=by exact gT) (hb:Br 0 Z Y1 Y2:=by exact Br.c rfl):WL r P ops Q c a w:=(h ⟨hb.r k1 k2⟩).r a H
theorem dN (n:Nat) {a:Act} {c:Code} (H:St N D w0 F G0 G L T a w) (k1:Y1) (k2:Y2) (h:Held Z→Stp n (∀ a,St N D w0 F G0 G L T a w→WP r P c Q a w):=by exact gT) (hb:Br 0 Z Y1 Y2:=by exact Br.c rfl):WP r P c Q a w:=(h ⟨hb.r k1 k2⟩).r a H
theorem kT (n t:Nat)  (k1:Y1) (k2:Y2)  (h:Held Z→Stp n X:=by exact gT) (hb:Br t Z Y1 Y2:=by exact Br.s rfl):X:=(h ⟨hb.r k1 k2⟩).r
theorem rJ (n t:Nat) {a:Act} {c:List Oper} (H:St N D w0 F G0 G L T a w) (k1:Y1) (k2:Y2) (h:Held Z→Stp n (∀ a,St N D w0 F G0 G L T a w→WL r P ops Q c a w):=by exact gT) (hb:Br t Z Y1 Y2:=by exact Br.s rfl):WL r P ops Q c a w:=(h ⟨hb.r k1 k2⟩).r a H
theorem vZ (n t:Nat) {a:Act} {c:Code} (H:St N D w0 F G0 G L T a w) (k1:Y1) (k2:Y2) (h:Held Z→Stp n (∀ a,St N D w0 F G0 G L T a w→WP r P c Q a w):=by exact gT) (hb:Br t Z Y1 Y2:=by exact Br.s rfl):WP r P c Q a w:=(h ⟨hb.r k1 k2⟩).r a H
theorem goC (n:Nat)  (k1:Y1) (k2:Y2)  (h:Held Z→Stp n X:=by exact gT) (hb:Br 0 Z Y1 Y2:=by exact Br.cb rfl):X:=(h ⟨hb.r k1 k2⟩).r
theorem gX (n:Nat) {a:Act} {c:List Oper} (H:St N D w0 F G0 G L T a w) (k1:Y1) (k2:Y2) (h:Held Z→Stp n (∀ a,St N D w0 F G0 G L T a w→WL r P ops Q c a w):=by exact gT) (hb:Br 0 Z Y1 Y2:=by exact Br.cb rfl):WL r P ops Q c a w:=(h ⟨hb.r k1 k2⟩).r a H
theorem XA (n:Nat) {a:Act} {c:Code} (H:St N D w0 F G0 G L T a w) (k1:Y1) (k2:Y2) (h:Held Z→Stp n (∀ a,St N D w0 F G0 G L T a w→WP r P c Q a w):=by exact gT) (hb:Br 0 Z Y1 Y2:=by exact Br.cb rfl):WP r P c Q a w:=(h ⟨hb.r k1 k2⟩).r a H
theorem jE (n t:Nat)  (k1:Y1) (k2:Y2)  (h:Held Z→Stp n X:=by exact gT) (hb:Br t Z Y1 Y2:=by exact Br.sb rfl):X:=(h ⟨hb.r k1 k2⟩).r
theorem nJ (n t:Nat) {a:Act} {c:List Oper} (H:St N D w0 F G0 G L T a w) (k1:Y1) (k2:Y2) (h:Held Z→Stp n (∀ a,St N D w0 F G0 G L T a w→WL r P ops Q c a w):=by exact gT) (hb:Br t Z Y1 Y2:=by exact Br.sb rfl):WL r P ops Q c a w:=(h ⟨hb.r k1 k2⟩).r a H
theorem gcQ (n t:Nat) {a:Act} {c:Code} (H:St N D w0 F G0 G L T a w) (k1:Y1) (k2:Y2) (h:Held Z→Stp n (∀ a,St N D w0 F G0 G L T a w→WP r P c Q a w):=by exact gT) (hb:Br t Z Y1 Y2:=by exact Br.sb rfl):WP r P c Q a w:=(h ⟨hb.r k1 k2⟩).r a H
theorem aP (n:Nat)  (hx:Z)  (h:Held Y→Stp n X:=by exact gT) (hl:Lf Y Z:=by exact Lf.r1 rfl rfl rfl):X:=(h ⟨hl.r hx⟩).r
theorem gH (n:Nat) {a:Act} {c:List Oper} (H:St N D w0 F G0 G L T a w) (hx:Z) (h:Held Y→Stp n (∀ a,St N D w0 F G0 G L T a w→WL r P ops Q c a w):=by exact gT) (hl:Lf Y Z:=by exact Lf.r1 rfl rfl rfl):WL r P ops Q c a w:=(h ⟨hl.r hx⟩).r a H
theorem uU (n:Nat) {a:Act} {c:Code} (H:St N D w0 F G0 G L T a w) (hx:Z) (h:Held Y→Stp n (∀ a,St N D w0 F G0 G L T a w→WP r P c Q a w):=by exact gT) (hl:Lf Y Z:=by exact Lf.r1 rfl rfl rfl):WP r P c Q a w:=(h ⟨hl.r hx⟩).r a H
end
end
section
open Go.RowKit
def bR (e sz:Nat) (v:aj) (n:Nat) (xs:List aj) (Lo:OL):Prop :=
 xs.length=n*sz∧((v=.slice none 0 0∧n=0∧Lo=[])∨∃ b cap cur,v=.slice (some ⟨b,0,none⟩) n cap∧Lo=[(b,.cells cur e (0,0))]∧n≤cap∧cap≤maxLen∧cur.size=cap*sz∧cur.toList.take (n*sz)=xs)
theorem bR.nil {e sz:Nat}:bR e sz (.slice none 0 0) 0 [] []:=⟨by simp,.inl ⟨rfl,rfl,rfl⟩⟩
theorem bR.shape {e sz n:Nat} {v:aj} {xs:List aj} {Lo:OL} (h:bR e sz v n xs Lo):∃ A c,v=.slice A n c∧n≤c∧c≤maxLen:=by
 rcases h.2 with ⟨rfl,rfl,_⟩|⟨b,cap,cur,rfl,_,h1,h2,_,_⟩
 ·exact ⟨none,0,rfl,bN _,by simp [maxLen]⟩
 ·exact ⟨_,cap,rfl,h1,h2⟩
section
variable {N:Nat} {D:List Deferred} {w0:World} {F:Nat→Prop} {G0 G:GH} {L Li Lo:OL} {T:List (Nat × aj)}
variable {r:Option Nat} {P:Program} {ops:Array Oper} {Q:Exit→Act→World→Prop} {rest:List Oper} {a:Act} {w w':World}
variable {d:Nat} {ty:TypeId} {pos:String} {aK:Array Edge} {g:Option (Nat × Bool)}
theorem bR.owns {e sz n:Nat} {v:aj} {xs:List aj} (h:bR e sz v n xs Lo) (H:Hp w0 F G0 G (Li++Lo) w):w.ownsRow 0 e sz v n xs:=by
 refine ⟨h.1,?_⟩
 rcases h.2 with ⟨h1,h2,_⟩|⟨b,cap,cur,h1,h2,h3,h4,h5,h6⟩
 ·exact .inl ⟨h1,h2⟩
 ·exact .inr ⟨b,cap,cur,h1,gV _,H.own (b,.cells cur e (0,0)) (by simp [h2]),h3,h4,h5,h6⟩
theorem adq {e sz n n':Nat} {v v':aj} {xs xs':List aj} (h:bR e sz v n xs Lo) (ho:fC G Lo w) (hown:w'.ownsRow 0 e sz v' n' xs') (hg:w.grownBy w' v.ownBlock) (hb:v'.ownBlock=v.ownBlock∨v'.ownBlock=some w.heap.size) :
  ∃ iX,bR e sz v' n' xs' iX∧Change w w' G G Lo iX:=by
 have hrow:∀ k,v.ownBlock=some k→∃ p∈Lo,p.1=k:=by
  intro k hk
  rcases h.2 with ⟨h1,_,_⟩|⟨b,cap,cur,h1,h2,_⟩
  ·rw [h1] at hk;cases hk
  ·rw [h1] at hk;simp only [Value.ownBlock,lS] at hk;exact ⟨_,by rw [h2];exact List.mem_singleton_self _,hk⟩
 have hro:∀ k o,G k=some o→w'.heap[k]?=some o:=by
  intro k o hk
  rw [hg.block k (lt_of_heap (ho.ro k o hk)) (fun e'=>by
   obtain ⟨p,hp,e2⟩:=hrow k e'.symm
   have:=ho.sep p hp
   rw [e2,hk] at this;cases this)]
  exact ho.ro k o hk
 have hfr:∀ k,k < w.heap.size→(∀ p∈Lo,p.1≠k)→w'.heap[k]?=w.heap[k]?:=fun k hk hn=>hg.block k hk fun e'=>by
  obtain ⟨p,hp,e2⟩:=hrow k e'.symm
  exact hn p hp e2
 rcases hown.2 with ⟨h1,h2⟩|⟨b,cap,cur,h1,_,h3,h4,h5,h6,h7⟩
 ·exact ⟨[],⟨hown.1,.inl ⟨h1,h2,rfl⟩⟩,⟨hg.os,hg.tape,hg.output,hg.size,hfr,fun _ _ h=>h,fun _ _ h=>.inl h,⟨hro,fun _ h=>(by cases h),fun _ h=>(by cases h),List.Pairwise.nil⟩,fun _ h=>(by cases h)⟩⟩
 ·refine ⟨[(b,.cells cur e (0,0))],⟨hown.1,.inr ⟨b,cap,cur,h1,rfl,h4,h5,h6,h7⟩⟩,⟨hg.os,hg.tape,hg.output,hg.size,hfr,fun _ _ h=>h,fun _ _ h=>.inl h,⟨hro,fun p hp=>?_,fun p hp=>?_,by simp⟩,fun p hp=>?_⟩⟩
  ·rw [rC.1 hp];exact h3
  ·rw [rC.1 hp]
   cases hgb:G b with
   | none=>rfl
   | some o =>
    exfalso
    rw [h1] at hb
    rcases hb with hb|hb
    ·obtain ⟨p',hp',e2⟩:=hrow b (by rw [← hb];rfl)
     have:=ho.sep p' hp'
     rw [e2,hgb] at this;cases this
    ·simp only [Value.ownBlock,lS] at hb
     have:=lt_of_heap (ho.ro b o hgb)
     omega
  ·rw [rC.1 hp]
   rw [h1] at hb
   rcases hb with hb|hb
   ·obtain ⟨p',hp',e2⟩:=hrow b (by rw [← hb];rfl)
    exact .inr ⟨p',hp',e2⟩
   ·simp only [Value.ownBlock,lS] at hb
    exact .inl (by simp only;omega)
theorem nU {t e:TypeId} {sz bytes:Nat} {zero:List aj} {agg:Bool} (hs:P.underlying t=some (.slice e)) (ht:Ty P e sz bytes zero agg) (hz:Nat.beq zero.length sz=true) (hsz:Nat.blt 0 sz=true) {x y:Operand} {v:aj} {n m c b2 o2:Nat} {xs news:List aj} (H:St N D w0 F G0 G (Li++Lo) T a w)
  (hw:Region.wanted ⟨some d,.call { callee:=.builtin .append,args:=#[x,y],argTypes:=#[t,t] },ty,pos,aK,g⟩ (yielded ops a.tmps)=true) (hx:ev T x=some v) (hy:ev T y=some (.slice (some ⟨b2,o2,none⟩) m c)) (hrow:bR e sz v n xs Lo)
  (hn:news.length=m*sz) (hc:∀ j u,news[j]?=some u→w.cell? ⟨b2,o2+j,none⟩=some u) (h1:news.all Value.oneCell'=true) (h63:n+m≤maxLen) (hb:(n+m)*bytes≤140737488355328) (hd:Nat.blt d N=true)
  (k:∀ v' iX a' w',bR e sz v' (n+m) (xs++news) iX→St N D w0 F G0 G (Li++iX) ((d,v') :: T) a' w'→WL r P ops Q rest a' w') :
  WL r P ops Q (⟨some d,.call { callee:=.builtin .append,args:=#[x,y],argTypes:=#[t,t] },ty,pos,aK,g⟩ :: rest) a w:=by
 obtain ⟨i,z,hi,hi1,hi2,hi3,hi4⟩:=ht.parts
 obtain ⟨v',w2,hrun,r1,r2,_,r4⟩:=run_append_own_at (P:=P) w 0 t ty e i z sz bytes hs hi hi3 hi1 hi2 (by rw [hi4];simpa using Am hz) (Eq.mp Nat.blt_eq hsz) v n xs (hrow.owns H.hp) ⟨b2,o2,none⟩ m c news hn (fun j u hj=>by rw [add_lit];exact hc j u hj) (fun u hu=>lq.1 h1 u hu) h63 hb (gV _)
 obtain ⟨iX,hr,hch⟩:=adq hrow H.hp.owns r1 r2 r4
 refine fq (v:=v') (w':=w2) hw rfl ?_ (k v' iX _ w2 hr (H.put hd v' (H.hp.change hch)))
 simp [execOp,resolve,invoke,builtin,H.ev hx,H.ev hy,dM,hrun]
theorem yQ {t e:TypeId} {sz bytes:Nat} {zero:List aj} {agg:Bool} (hs:P.underlying t=some (.slice e)) (ht:Ty P e sz bytes zero agg) {x y:Operand} {A B:Option Addr} {n c c':Nat} (H:St N D w0 F G0 G L T a w)
  (hw:Region.wanted ⟨some d,.call { callee:=.builtin .append,args:=#[x,y],argTypes:=#[t,t] },ty,pos,aK,g⟩ (yielded ops a.tmps)=true) (hx:ev T x=some (.slice A n c)) (hy:ev T y=some (.slice B 0 c')) (hnc:n≤c) (hd:Nat.blt d N=true)
  (k:∀ a',St N D w0 F G0 G L ((d,.slice A n c) :: T) a' w→WL r P ops Q rest a' w) :
  WL r P ops Q (⟨some d,.call { callee:=.builtin .append,args:=#[x,y],argTypes:=#[t,t] },ty,pos,aK,g⟩ :: rest) a w:=by
 refine fq (v:=.slice A n c) (w':=w) hw rfl ?_ (k _ (H.put hd _ H.hp))
 have h1:∀ w,(Builtin.firstCells sz 0 (.slice B 0 c')).run P w=.ok #[] w:=by intro w;cases B <;> simp [Builtin.firstCells,loadCells,loadCellsFrom]
 have hle:n+0≤c:=by omega
 cases A <;> simp [execOp,resolve,invoke,builtin,H.ev hx,H.ev hy,dM,Builtin.append_,mE hs,ht.Bo,Builtin.lenOf,hnc,h1,storeCells]
theorem zV {t u:TypeId} {e:TypeId} (hs:P.underlying t=some (.slice e)) {x:Operand} {A:Option Addr} {n c:Nat} (H:St N D w0 F G0 G L T a w) (hw:Region.wanted ⟨some d,.binOp .eql t x (.const (.slice none 0 0)) u,ty,pos,aK,g⟩ (yielded ops a.tmps)=true) (hx:ev T x=some (.slice A n c)) (hd:Nat.blt d N=true)
  (k:∀ a',St N D w0 F G0 G L ((d,.bool A.isNone) :: T) a' w→WL r P ops Q rest a' w):WL r P ops Q (⟨some d,.binOp .eql t x (.const (.slice none 0 0)) u,ty,pos,aK,g⟩ :: rest) a w:=by
 refine fq (v:=.bool A.isNone) (w':=w) hw rfl ?_ (k _ (H.put hd _ H.hp))
 have h1:(Op.equal t (.slice A n c) (.slice none 0 0)).run P w=.ok A.isNone w:=by
  show (Op.equalIn (9999+1) t (.slice A n c) (.slice none 0 0)).run P w=_
  rw [Op.equalIn.eq_2,dM,mE hs]
  cases A <;> rfl
 have h2:(do eqGuard .eql t x (.const (.slice none 0 0)) (.slice A n c) (.slice none 0 0);binOp .eql t (.slice A n c) (.slice none 0 0):Sem aj).run P w=.ok (.bool A.isNone) w:=by
  have e:(do eqGuard .eql t x (.const (.slice none 0 0)) (.slice A n c) (.slice none 0 0);binOp .eql t (.slice A n c) (.slice none 0 0):Sem aj)=(do pure (.bool (← Op.equal t (.slice A n c) (.slice none 0 0))):Sem aj):=rfl
  rw [e,dM,h1];rfl
 have e0:execOp a.eval ⟨some d,.binOp .eql t x (.const (.slice none 0 0)) u,ty,pos,aK,g⟩=(do pure (.value (← (do eqGuard .eql t x (.const (.slice none 0 0)) (.slice A n c) (.slice none 0 0);binOp .eql t (.slice A n c) (.slice none 0 0):Sem aj))):Sem Next):=by
  simp only [execOp,H.ev hx];rfl
 rw [e0,dM,h2]
 rfl
theorem zT {t e:TypeId} {sz bytes:Nat} {zero:List aj} {agg:Bool} (hs:P.underlying t=some (.slice e)) (ht:Ty P e sz bytes zero agg) (H:St N D w0 F G0 G L T a w) (hw:Region.wanted ⟨some d,.buildSlice t 0 #[],ty,pos,aK,g⟩ (yielded ops a.tmps)=true) (hd:Nat.blt d N=true)
  (k:∀ b a' w',w0.heap.size≤b→St N D w0 F G0 G ((b,.cells #[] e (0,0)) :: L) ((d,.slice (some ⟨b,0,none⟩) 0 0) :: T) a' w'→WL r P ops Q rest a' w'):WL r P ops Q (⟨some d,.buildSlice t 0 #[],ty,pos,aK,g⟩ :: rest) a w:=by
 refine fq (v:=.slice (some ⟨w.heap.size,0,none⟩) 0 0) (w':=w.alloc (.cells #[] e (0,0))) hw rfl ?_ (k _ _ _ H.hp.size (H.put hd _ (H.hp.alloc _)))
 have h0:¬ (0*sz > 2 ^ 24):=by simp
 simp [execOp,Instr.buildSlice,dM,mE hs,ht.Bo,Instr.fill,newRow,newObj,Sem.run]
 congr 2
 apply Array.eq_empty_of_size_eq_zero
 simp
theorem bR.empty {e sz b:Nat}:bR e sz (.slice (some ⟨b,0,none⟩) 0 0) 0 [] [(b,.cells #[] e (0,0))] :=
 ⟨by simp,.inr ⟨b,0,#[],rfl,rfl,bN _,by simp [maxLen],by simp,by simp⟩⟩
theorem nV {x:Operand} {fv:aj} {xs:List Operand} {vs:List aj} {ts:Array TypeId} {R:aj→GH→Prop} (H:St N D w0 F G0 G L T a w) (hw:Region.wanted ⟨some d,.call { callee:=.value x,args:=xs.toArray,argTypes:=ts },ty,pos,aK,g⟩ (yielded ops a.tmps)=true)
  (hf:ev T x=some fv) (hx:evs T xs=some vs) (hc:qX P fv vs w (bD w G R)) (hd:Nat.blt d N=true)
  (k:∀ v G' a' w',R v G'→(∀ k o,G k=some o→G' k=some o)→St N D w0 F G0 G' L ((d,v) :: T) a' w'→WL r P ops Q rest a' w'):WL r P ops Q (⟨some d,.call { callee:=.value x,args:=xs.toArray,argTypes:=ts },ty,pos,aK,g⟩ :: rest) a w:=by
 refine UE (nx:=_) (R:=bD w G R) hw rfl rfl ?_ ?_
 ·have h1:=H.evs hx
  have e:(execOp a.eval ⟨some d,.call { callee:=.value x,args:=xs.toArray,argTypes:=ts },ty,pos,aK,g⟩)=(do let d ← Deferred.ofValue fv vs.toArray;invoke d.target d.args:Sem Next):=by
   simp only [execOp,resolve,H.ev hf,List.map_toArray,h1]
  rw [e]
  exact hc.go
 ·rintro e w' ⟨v,G',rfl,hb,hx,hR⟩
  exact ⟨v,rfl,k v G' _ w' hR hx.1 (H.put hd v (H.hp.VK hb hx))⟩
end
def bE (G:GH) (sz:Nat) (rows:List (List Dat)) (xs:List aj):Prop :=
 ∃ css:List (List aj),xs=css.flatten∧css.length=rows.length∧∀ (j:Nat) (r:List Dat) (cs:List aj),rows[j]?=some r→css[j]?=some cs→aN G r cs∧cs.length=sz
theorem bE.nil {G:GH} {sz:Nat}:bE G sz [] []:=⟨[],rfl,rfl,fun j r cs h=>by simp at h⟩
theorem bE.mono {G G':GH} (hm:∀ k o,G k=some o→G' k=some o) {sz:Nat} {rows:List (List Dat)} {xs:List aj} (h:bE G sz rows xs):bE G' sz rows xs:=by
 obtain ⟨css,h1,h2,h3⟩:=h
 exact ⟨css,h1,h2,fun j r cs hr hc=>⟨(h3 j r cs hr hc).1.mono hm,(h3 j r cs hr hc).2⟩⟩
theorem bE.snoc {G:GH} {sz:Nat} {rows:List (List Dat)} {xs:List aj} (h:bE G sz rows xs) {q:List Dat} {cs:List aj} (hr:aN G q cs) (hl:cs.length=sz):bE G sz (rows++[q]) (xs++cs):=by
 obtain ⟨css,h1,h2,h3⟩:=h
 refine ⟨css++[cs],by simp [h1],by simp [h2],fun j r c hj hc=>?_⟩
 by_cases hlt:j < rows.length
 ·rw [wV hlt] at hj
  rw [wV (by omega)] at hc
  exact h3 j r c hj hc
 ·have hje:j=rows.length:=by
   have:=(iL.1 hj).1
   simp at this;omega
  subst hje
  rw [qF (bN _),Nat.sub_self] at hj
  rw [qF (by omega),h2,Nat.sub_self] at hc
  simp only [yg,lS] at hj hc
  subst hj;subst hc
  exact ⟨hr,hl⟩
theorem Xv {sz:Nat}:∀ {css:List (List aj)} {j:Nat} {cs:List aj},(∀ (j:Nat) (cs:List aj),css[j]?=some cs→cs.length=sz)→css[j]?=some cs→∀ i,i < sz→css.flatten[j*sz+i]?=cs[i]?
 | [],_,_,_,h,_,_=>by simp at h
 | c :: css,0,cs,hl,h,i,hi=>by
  simp only [yg,lS] at h
  subst h
  have:=hl 0 c rfl
  simp only [List.flatten_cons,Nat.zero_mul,fQ]
  rw [wV (by omega)]
 | c :: css,j+1,cs,hl,h,i,hi=>by
  have hc:=hl 0 c rfl
  have ih:=Xv (css:=css) (j:=j) (cs:=cs) (fun j cs hj=>hl (j+1) cs (by simpa using hj)) (by simpa using h) i hi
  simp only [List.flatten_cons]
  rw [qF (by rw [hc,Nat.succ_mul];omega),← ih]
  congr 1
  rw [hc,Nat.succ_mul];omega
theorem kS.cat {G:GH} {sz b:Nat}:∀ {rows:List (List Dat)} {o:Nat},kS G sz b o rows→∃ xs:List aj,xs.length=rows.length*sz∧(∀ j u,xs[j]?=some u→aF G b (o+j)=some u)∧xs.all Value.oneCell'=true∧bE G sz rows xs
 | [],o,_=>⟨[],by simp,fun j u h=>by simp at h,rfl,bE.nil⟩
 | r :: rs,o,h=>by
  simp only [kS] at h
  obtain ⟨⟨cs,h1,h2,h3⟩,h4⟩:=h
  obtain ⟨xs,g1,g2,g3,css,g4,g5,g6⟩:=kS.cat h4
  refine ⟨cs++xs,by simp [h1,g1,Nat.succ_mul,Nat.add_comm],fun j u hj=>?_,by simp [h3.one,g3],cs :: css,by simp [g4],by simp [g5],fun j q c hj hc=>?_⟩
  ·by_cases hlt:j < cs.length
   ·rw [wV hlt] at hj;exact h2 j u hj
   ·rw [qF (by omega)] at hj
    rw [← g2 _ u hj];congr 1;omega
  ·cases j with
   | zero=>simp only [yg,lS] at hj hc;subst hj;subst hc;exact ⟨h3,h1⟩
   | succ j=>exact g6 j q c (by simpa using hj) (by simpa using hc)
theorem av.cells {G:GH} {sz:Nat} {rows:List (List Dat)} {A:Option Addr} {n c:Nat} (h:av G (.sl sz rows) (.slice A n c)):n=rows.length∧n≤c∧c≤maxLen∧(A=none→rows=[]) ∧
  (rows≠[]→∃ b o xs,A=some ⟨b,o,none⟩∧xs.length=n*sz∧(∀ j u,xs[j]?=some u→aF G b (o+j)=some u)∧xs.all Value.oneCell'=true∧bE G sz rows xs):=by
 simp only [av] at h
 obtain ⟨A',c',h1,h2,h3,h4⟩:=h
 injection h1 with e1 e2 e3
 subst e1;subst e2;subst e3
 refine ⟨rfl,h2,h3,fun hn=>?_,fun hne=>?_⟩
 ·apply Classical.byContradiction
  intro hne
  obtain ⟨b,o,e,_⟩:=h4 hne
  rw [hn] at e;cases e
 ·obtain ⟨b,o,e,hr⟩:=h4 hne
  obtain ⟨xs,g1,g2,g3,g4⟩:=hr.cat
  exact ⟨b,o,xs,e,g1,g2,g3,g4⟩
theorem av.iT {G:GH} {sz:Nat} {A:Option Addr} {n c:Nat} (h:n=0) (hc:c≤maxLen):av G (.sl sz []) (.slice A n c):=by
 subst h
 simp only [av]
 exact ⟨A,c,rfl,gV _,hc,fun h=>absurd rfl h⟩
theorem av.dZ {G:GH} {e sz n b cap:Nat} {cur:Array aj} {xs:List aj} {rows:List (List Dat)} (hb:G b=some (.cells cur e (0,0))) (hl:rows.length=n) (hc:n≤cap) (hm:cap≤maxLen) (ht:cur.toList.take (n*sz)=xs) (eD:bE G sz rows xs) :
  av G (.sl sz rows) (.slice (some ⟨b,0,none⟩) n cap):=by
 obtain ⟨css,h1,h2,h3⟩:=eD
 simp only [av]
 refine ⟨_,cap,by rw [hl],by omega,hm,fun _=>⟨b,0,rfl,kS.mk fun k q hk=>?_⟩⟩
 have hkl:k < css.length:=by rw [h2];exact (iL.1 hk).1
 have hcs:css[k]?=some css[k]:=dY hkl
 obtain ⟨g1,g2⟩:=h3 k q _ hk hcs
 refine ⟨css[k],g2,fun j u hj=>?_,g1⟩
 have hjs:j < sz:=by rw [← g2];exact (iL.1 hj).1
 have hlen:∀ (j:Nat) (cs:List aj),css[j]?=some cs→cs.length=sz:=by
  intro j cs hj
  have hjl:j < rows.length:=by rw [← h2];exact (iL.1 hj).1
  exact (h3 j _ cs (dY hjl) hj).2
 have hf:=Xv hlen hcs j hjs
 rw [← h1,← ht,hj] at hf
 unfold aF
 rw [hb]
 simp only
 have hlt:k*sz+j < n*sz:=by
  have:(k+1)*sz≤n*sz:=Nat.mul_le_mul_right _ (by omega)
  rw [Nat.succ_mul] at this;omega
 rw [uG,ay hlt] at hf
 simpa using hf
theorem St.rG {N:Nat} {D:List Deferred} {w0:World} {F:Nat→Prop} {G0 G:GH} {Li Lo:OL} {T:List (Nat × aj)} {a:Act} {w:World} {e sz n:Nat} {v:aj} {xs:List aj} {rows:List (List Dat)} (H:St N D w0 F G0 G (Li++Lo) T a w)
  (hrow:bR e sz v n xs Lo) (hl:rows.length=n) (eD:bE G sz rows xs):∃ G',(∀ k o,G k=some o→G' k=some o)∧av G' (.sl sz rows) v∧St N D w0 F G0 G' Li T a w:=by
 rcases hrow.2 with ⟨rfl,h2,rfl⟩|⟨b,cap,cur,rfl,rfl,h3,h4,h5,h6⟩
 ·refine ⟨G,fun _ _ h=>h,?_,by simpa using H⟩
  have:rows=[]:=List.eq_nil_of_length_eq_zero (by omega)
  subst this
  simp only [av]
  exact ⟨none,0,by simp,by simp,by simp [maxLen],fun h=>absurd rfl h⟩
 ·have hi:(Li++[(b,Obj.cells cur e (0,0))])[Li.length]?=some (b,.cells cur e (0,0)):=by simp
  have hn:=H.XB _ hi
  have hm:∀ k o,G k=some o→(G.add b (.cells cur e (0,0))) k=some o:=fun k o h=>GH.EY G hn k o h
  refine ⟨_,hm,av.dZ (GH.EZ G b _) hl h3 h4 h6 (eD.mono hm),?_⟩
  have:=H.giveUp _ hi
  rwa [List.eraseIdx_append_of_length_le (bN _),Nat.sub_self,List.eraseIdx_zero,List.tail_cons,lY] at this
theorem St.dP {N:Nat} {D:List Deferred} {w0:World} {F:Nat→Prop} {G0 G:GH} {L:OL} {T:List (Nat × aj)} {a:Act} {w:World} {b:Nat} {o:Obj} (H:St N D w0 F G0 G ((b,o) :: L) T a w) :
  ∃ G',(∀ k o,G k=some o→G' k=some o)∧G' b=some o∧St N D w0 F G0 G' L T a w :=
 ⟨G.add b o,GH.EY G (H.XB 0 rfl),GH.EZ G b o,H.giveUp 0 rfl⟩
theorem St.KU {N:Nat} {D:List Deferred} {w0:World} {F:Nat→Prop} {G0 G:GH} {L:OL} {T:List (Nat × aj)} {a:Act} {w:World} {b e sz:Nat} {cs:List aj} {d:List Dat} (H:St N D w0 F G0 G ((b,.cells cs.toArray e (0,0)) :: L) T a w) (hl:cs.length=sz) (hr:aN G d cs) :
  ∃ G',(∀ k o,G k=some o→G' k=some o)∧av G' (.sl sz [d]) (.slice (some ⟨b,0,none⟩) 1 1)∧St N D w0 F G0 G' L T a w:=by
 obtain ⟨G',hm,hb,H⟩:=H.dP
 exact ⟨G',hm,av.dZ (xs:=cs) hb rfl (bN _) (by decide) (by simp [← hl]) (by simpa using (bE.nil (sz:=sz)).snoc (hr.mono hm) hl),H⟩
structure Now {α:Type} (xs:List AP) (P:α→AP) (J:Nat→GH→OL→Prop) (je j:Nat) (A:List α) (g:GH) (L:OL):Prop where
 now:J j g L
 rem:∀ i a,A[i]?=some a→xs[j+i]?=some (P a)
 len:j+A.length=je
theorem Now.head {α:Type} {xs:List AP} {P:α→AP} {J:Nat→GH→OL→Prop} {je j:Nat} {x:α} {A:List α} {g:GH} {L:OL} (h:Now xs P J je j (x :: A) g L):xs[j]?=some (P x):=h.rem 0 x rfl
theorem Now.step {α:Type} {xs:List AP} {P:α→AP} {J:Nat→GH→OL→Prop} {je j:Nat} {x:α} {A:List α} {g g':GH} {L L':OL} (h:Now xs P J je j (x :: A) g L) (hJ:J (j+1) g' L'):Now xs P J je (j+1) A g' L' :=
 ⟨hJ,fun i a hi=>by rw [show j+1+i=j+(i+1) by omega];exact h.rem (i+1) a (by simpa using hi),by have:=h.len;simp only [kG] at this;omega⟩
theorem Now.part {α:Type} {xs:List AP} {P:α→AP} {J:Nat→GH→OL→Prop} {je j:Nat} {A B:List α} {g:GH} {L:OL} (h:Now xs P J je j (A++B) g L):∀ i a,A[i]?=some a→xs[j+i]?=some (P a):=fun i a hi=>h.rem i a (by rw [wV (iL.1 hi).1];exact hi)
theorem Now.jump {α:Type} {xs:List AP} {P:α→AP} {J:Nat→GH→OL→Prop} {je j:Nat} {A B:List α} {g g':GH} {L L':OL} (h:Now xs P J je j (A++B) g L) (hJ:J (j+A.length) g' L'):Now xs P J je (j+A.length) B g' L' :=
 ⟨hJ,fun i a hi=>by rw [Nat.add_assoc];exact h.rem (A.length+i) a (by rw [qF (Nat.le_add_right _ _),HZ];exact hi),by have:=h.len;simp only [jH] at this;omega⟩
theorem Hp.bZ {R:aj→GH→OL→Prop} {v:aj} {w0 w:World} {G0 G:GH} {L0 L L':OL} (h:Hp w0 (Fr w0 L0) G0 G L w) (hs:L'.Sublist L) (hR:R v G L'):eP w0 G0 L0 R (.returned v) w:=(h.drop hs).cZ hR
section
variable {N:Nat} {D:List Deferred} {w0:World} {F:Nat→Prop} {G0 G:GH} {L Li Lo:OL} {T:List (Nat × aj)}
variable {r:Option Nat} {P:Program} {ops:Array Oper} {Q:Exit→Act→World→Prop} {rest:List Oper} {a:Act} {w:World}
variable {d:Nat} {ty:TypeId} {pos:String} {aK:Array Edge} {g:Option (Nat × Bool)}
theorem anf {t e:TypeId} {sz bytes:Nat} {zero:List aj} {agg:Bool} (hs:P.underlying t=some (.slice e)) (ht:Ty P e sz bytes zero agg) (hz:Nat.beq zero.length sz=true) (hsz:Nat.blt 0 sz=true) {x y:Operand} {v:aj} {n m c:Nat} {A:Option Addr} {xs:List aj} {rows:List (List Dat)} (H:St N D w0 F G0 G (Li++Lo) T a w)
  (hw:Region.wanted ⟨some d,.call { callee:=.builtin .append,args:=#[x,y],argTypes:=#[t,t] },ty,pos,aK,g⟩ (yielded ops a.tmps)=true) (hx:ev T x=some v) (hy:ev T y=some (.slice A m c)) (hrow:bR e sz v n xs Lo)
  (hrep:av G (.sl sz rows) (.slice A m c)) (h63:n+m≤maxLen) (hb:(n+m)*bytes≤140737488355328) (hd:Nat.blt d N=true)
  (k:∀ v' iX news a' w',bR e sz v' (n+m) (xs++news) iX→bE G sz rows news→St N D w0 F G0 G (Li++iX) ((d,v') :: T) a' w'→WL r P ops Q rest a' w') :
  WL r P ops Q (⟨some d,.call { callee:=.builtin .append,args:=#[x,y],argTypes:=#[t,t] },ty,pos,aK,g⟩ :: rest) a w:=by
 obtain ⟨hn,hc1,hc2,hnil,hxx⟩:=hrep.cells
 by_cases hr0:rows=[]
 ·have hm0:m=0:=by rw [hn,hr0];rfl
  subst hm0
  obtain ⟨A',c',rfl,h1,h2⟩:=hrow.shape
  refine yQ hs ht H hw hx hy h1 hd fun a' H'=>?_
  exact k _ Lo [] a' w (by simpa using hrow) (by rw [hr0];exact bE.nil) H'
 ·obtain ⟨b,o,news,rfl,hxl,hxc,hx1,eD⟩:=hxx hr0
  exact nU hs ht hz hsz H hw hx hy hrow hxl (fun j u hj=>H.hp.aF (hxc j u hj)) hx1 h63 hb hd fun v' iX a' w' hr' H'=>k v' iX news a' w' hr' eD H'
end
theorem av.part {G:GH} {sz:Nat} {rows:List (List Dat)} {A:Option Addr} {n c:Nat} (h:av G (.sl sz rows) (.slice A n c)) (lo hi:Nat) (h1:lo≤hi) (h2:hi≤rows.length) :
  av G (.sl sz ((rows.drop lo).take (hi - lo))) (.slice (if c=lo then A else A.map (·.add (lo*sz))) (hi - lo) (c - lo)):=by
 obtain ⟨A',c',he,hc1,hc2,hg⟩:=h.slice
 injection he with e1 e2 e3
 subst e1;subst e3
 have hl:((rows.drop lo).take (hi - lo)).length=hi - lo:=by simp;omega
 simp only [av]
 refine ⟨_,_,by rw [hl],by rw [hl];omega,by omega,fun hn=>?_⟩
 have hlt:lo < hi:=by
  rcases Nat.lt_or_ge lo hi with h|h
  ·exact h
  ·exact absurd (List.eq_nil_of_length_eq_zero (by rw [hl];omega)) hn
 obtain ⟨b,o,cs,hA,-⟩:=hg lo rows[lo] (by simp)
 subst hA
 refine ⟨b,o+lo*sz,by rw [ah (by omega),Option.map_some,add_lit],kS.mk fun k r hk=>?_⟩
 rw [uG] at hk
 split at hk
 ·rw [List.getElem?_drop] at hk
  obtain ⟨b',o',cs,hA,g1,g2,g3⟩:=hg (lo+k) r hk
  obtain ⟨rfl,rfl⟩:b=b'∧o=o':=by simpa using hA
  exact ⟨cs,g1,fun j u hj=>by rw [← g2 j u hj];congr 1;rw [Nat.add_mul];omega,g3⟩
 ·cases hk
theorem bE.append {G:GH} {sz:Nat} {r1 r2:List (List Dat)} {x1 x2:List aj} (h1:bE G sz r1 x1) (h2:bE G sz r2 x2):bE G sz (r1++r2) (x1++x2):=by
 obtain ⟨c1,rfl,e1,f1⟩:=h1
 obtain ⟨c2,rfl,e2,f2⟩:=h2
 refine ⟨c1++c2,by simp,by simp [e1,e2],fun j r cs hr hc=>?_⟩
 by_cases hj:j < r1.length
 ·exact f1 j r cs (by rwa [wV hj] at hr) (by rwa [wV (by omega)] at hc)
 ·exact f2 (j - r1.length) r cs (by rwa [qF (by omega)] at hr) (by rwa [qF (by omega),e1] at hc)
end
section
open Go.RowKit
section
variable {N:Nat} {D:List Deferred} {w0:World} {F:Nat→Prop} {G0 G G1 G2:GH} {L L1 L2:OL} {T Xs:List (Nat × aj)}
variable {r:Option Nat} {P:Program} {Q:Exit→Act→World→Prop} {l:List Oper} {a a':Act} {w w':World}
theorem Ap {x y:Nat} (h:x≠y):Nat.beq x y=false:=by
 cases h':Nat.beq x y with
 | false=>rfl
 | true=>exact absurd (Am h') h
theorem yw {i e:Nat} (h:eH l i=some e):i < l.length:=by
 unfold eH at h
 by_cases hl:i < l.length
 ·exact hl
 ·rw [List.getElem?_eq_none (by omega)] at h;cases h
theorem Nr:∀ (vs c:List aj) (o:Nat),o+vs.length≤c.length→setRow c o vs=c.take o++vs++c.drop (o+vs.length)
 | [],c,o,_=>by simp [setRow]
 | v :: vs,c,o,h=>by
  simp only [kG] at h
  rw [setRow,Nr vs (c.set o v) (o+1) (by simp;omega),List.take_set,List.drop_set,ay (by omega),gN (by omega)]
  have e:((c.take o++[c[o]]).set o v)=c.take o++[v]:=by
   have hl:(c.take o).length=o:=by simp;omega
   rw [List.set_append,ah (by omega),hl,Nat.sub_self];rfl
  rw [e,kG,show o+1+vs.length=o+(vs.length+1) by omega]
  simp
end
end
section
open Go.RowKit
section
variable {N:Nat} {D:List Deferred} {w0:World} {F:Nat→Prop} {G0 G:GH} {L:OL} {T T':List (Nat × aj)}
variable {r:Option Nat} {P:Program} {Q:Exit→Act→World→Prop} {l:List Oper} {a a':Act} {w w':World} {ε:Type}
def EX (l:List Oper) (pr:ε→Nat→aj→Prop) (T:List (Nat × aj)) (S:Nat→Bool) (E:ε) (T':List (Nat × aj)):Prop :=
 (∀ t v,lk T t=some v→lk T' t=some v)∧∀ i d,S i=true→eH l i=some d→∃ v,lk T' d=some v∧pr E i v
theorem EX.put {pr:ε→Nat→aj→Prop} {S:Nat→Bool} {E E':ε} {i d:Nat} {v:aj} (h:EX l pr T S E T') (hok:aep l T=true) (hi:eH l i=some d) (hv:pr E' i v) (hE:∀ j u,j≠i→pr E j u→pr E' j u):EX l pr T (eZ S i) E' ((d,v) :: T'):=by
 have hil:=yw hi
 have hok1:=lq.1 hok i (rz.2 hil)
 rw [mW,hi] at hok1
 simp only [lU,Option.isNone_iff_eq_none,lq,rz] at hok1
 refine ⟨fun t u ht=>?_,fun j e hj he=>?_⟩
 ·rw [tF (fun e=>by subst e;rw [hok1.1] at ht;cases ht)];exact h.1 t u ht
 ·by_cases hji:j=i
  ·subst hji;rw [hi] at he;cases he;exact ⟨v,vD _ _ _,hv⟩
  ·have hSj:S j=true:=by unfold eZ at hj;rwa [ah hji] at hj
   obtain ⟨u,hu1,hu2⟩:=h.2 j e hSj he
   have hne:d≠e:=by
    intro e';subst e'
    have h2:=hok1.2 j (yw he)
    have hb:Nat.beq i j=false:=Ap (fun h=>hji h.symm)
    rw [hb,he] at h2
    simp at h2
   exact ⟨u,by rw [tF hne];exact hu1,hE j u hji hu2⟩
theorem EX.add {pr:ε→Nat→aj→Prop} {S:Nat→Bool} {E:ε} (h:EX l pr T S E T') {t:Nat} {u:aj} (hu:lk T' t=some u):EX l pr T S E ((t,u) :: T'):=by
 have e:∀ s v,lk T' s=some v→lk ((t,u) :: T') s=some v:=fun s v hs=>by
  by_cases hst:t=s
  ·subst hst;rw [hu] at hs;cases hs;exact vD _ _ _
  ·rw [tF hst];exact hs
 exact ⟨fun s v hs=>e s v (h.1 s v hs),fun i d hi hd=>by
  obtain ⟨v,h1,h2⟩:=h.2 i d hi hd
  exact ⟨v,e d v h1,h2⟩⟩
end
end
section
open Go.RowKit
section
variable {N:Nat} {D:List Deferred} {w0:World} {F:Nat→Prop} {G0 G G1 G2:GH} {L L1:OL} {T Xs:List (Nat × aj)}
variable {r:Option Nat} {P:Program} {Q:Exit→Act→World→Prop} {l:List Oper} {a a':Act} {w w':World}
theorem OU {id:Nat} (hm:P.follows .mixedOrders=true) (bY:List (List Nat)) (B:List Nat) (hk:Aw l bY=true) (hB:yS l bY B=true) (X:(Nat→Bool)→Act→World→Prop) (h0:X (fun _=>false) a w.drew)
  (hstep:∀ i o S a w,l[i]?=some o→B.contains i=false→S i=false→(∀ j∈bY.getD i [],S j=true)→(∀ j,j < l.length→i∈bY.getD j []→S j=false)→X S a w→WL r P l.toArray (fun e a' w'=>e=.normal∧X (eZ S i) a' w') [o] a w)
  (hend:∀ S a w,(∀ i,i < l.length→B.contains i=false→S i=true)→(∀ i,B.contains i=true→S i=false)→X S a w→WL r P l.toArray (fun e a w=>e=.normal∧Q .normal a w) (qd l B) a w):WP r P (.region id l.toArray true) Q a w:=by
 have hB1:∀ p b,B[p]?=some b→b < l.length∧∀ i,i < l.length→(B.contains i=false∨(B.take p).contains i=true)→i∈bY.getD b []:=by
  intro p b hp
  simp only [yS,lU] at hB
  have h1:=lq.1 hB.1 p (rz.2 (iL.1 hp).1)
  rw [hp] at h1
  simp only [lU,lq,rz] at h1
  refine ⟨Eq.mp Nat.blt_eq h1.1,fun i hi hor=>?_⟩
  have h2:=h1.2 i hi
  rcases hor with h3|h3
  ·have h4:i∉B:=by simpa using h3
   simpa [h4] using h2
  ·have h4:i∈B.take p:=by simpa using h3
   simpa [h4] using h2
 have hB2:∀ i,i < l.length→B.contains i=false→∀ j∈bY.getD i [],B.contains j=false:=by
  intro i hi hb j hj
  simp only [yS,lU] at hB
  have h1:=lq.1 hB.2 i (rz.2 hi)
  rw [hb] at h1
  simp only [Bool.false_or,lq] at h1
  simpa using h1 j hj
 refine VT hm bY hk (fun S a w=>((∀ i,B.contains i=true→S i=false)∧X S a w) ∨
   ∃ p,(∀ i,i < l.length→B.contains i=false→S i=true)∧(∀ i,(B.take p).contains i=true→S i=true)∧(∀ q b,B[q]?=some b→p≤q→S b=false)∧WL r P l.toArray (fun e a w=>e=.normal∧Q .normal a w) (qd l (B.drop p)) a w)
  (.inl ⟨fun _ _=>rfl,h0⟩) ?_ ?_
 ·intro i o S a w ho hX bT nM hdesc
  have hil:i < l.length:=(iL.1 ho).1
  by_cases hbi:B.contains i=true
  ·-- an operation of the tail: all that stands ahead of it is done
   obtain ⟨p0,hp0⟩:=List.getElem?_of_mem (by simpa using hbi:i∈B)
   have hall:∀ j,j < l.length→B.contains j=false→S j=true:=fun j hj hb=>nM j ((hB1 p0 i hp0).2 j hj (.inl hb))
   have RU:∃ p,(∀ i,(B.take p).contains i=true→S i=true)∧(∀ q b,B[q]?=some b→p≤q→S b=false)∧WL r P l.toArray (fun e a w=>e=.normal∧Q .normal a w) (qd l (B.drop p)) a w:=by
    rcases hX with ⟨h1,hD⟩|⟨p,_,h2,h3,h4⟩
    ·exact ⟨0,by simp,fun q b hq _=>h1 b (by simpa using kr hq),hend S a w hall h1 hD⟩
    ·exact ⟨p,h2,h3,h4⟩
   obtain ⟨p,h2,h3,h4⟩:=RU
   -- i is the next one
   have hpp:p≤p0:=by
    rcases Nat.lt_or_ge p0 p with hlt|hge
    ·have:(B.take p).contains i=true:=by
      simp only [yh]
      exact kr (i:=p0) (by rw [uG,ay hlt];exact hp0)
     rw [h2 i this] at bT;cases bT
    ·exact hge
   have Ef:p < B.length:=by have:=(iL.1 hp0).1;omega
   have hbp:B[p]?=some B[p]:=dY Ef
   have heq:B[p]=i:=by
    rcases Nat.lt_or_ge p p0 with hlt|hge
    ·exfalso
     have hin:B[p]∈bY.getD i []:=(hB1 p0 i hp0).2 _ (hB1 p _ hbp).1 (.inr (by
      simp only [yh]
      exact kr (i:=p) (by rw [uG,ay hlt];exact hbp)))
     have:=nM _ hin
     rw [h3 p _ hbp (bN _)] at this;cases this
    ·have:p=p0:=by omega
     subst this
     rw [hbp] at hp0;simpa using hp0
   have hdrop:B.drop p=i :: B.drop (p+1):=by rw [lW Ef,heq]
   have hops:qd l (B.drop p)=o :: qd l (B.drop (p+1)):=by rw [hdrop];simp [qd,ho]
   rw [hops] at h4
   refine abE (fun a' w' h5=>.inr ⟨p+1,fun j hj hb=>?_,fun j hj=>?_,fun q b hq hpq=>?_,h5⟩) h4
   ·unfold eZ;split
    ·rfl
    ·exact hall j hj hb
   ·unfold eZ;split
    ·rfl
    ·rename_i hne
     refine h2 j ?_
     simp only [yh] at hj ⊢
     rw [gN Ef,lT] at hj
     rcases hj with hj|hj
     ·exact hj
     ·simp only [rC] at hj;exact absurd (hj.trans heq) hne
   ·unfold eZ
    rw [ah ?_]
    ·exact h3 q b hq (by omega)
    ·rintro rfl
     -- i would stand twice in B: it would come ahead of itself
     have h6:=(hB1 q b hq).2 b (hB1 q b hq).1 (.inr (by
      simp only [yh]
      exact kr (i:=p) (by rw [uG,ay (by omega)];rw [hbp,heq])))
     rw [nM _ h6] at bT;cases bT
  ·have D7:B.contains i=false:=by cases h:B.contains i with|false=>rfl|true=>exact absurd h hbi
   rcases hX with ⟨h1,hX⟩|⟨p,h0,_,_,_⟩
   ·refine rZ (fun e a' w' ⟨he,hD⟩=>⟨he,.inl ⟨fun j hj=>?_,hD⟩⟩) (hstep i o S a w ho D7 bT nM hdesc hX)
    unfold eZ
    rw [ah (by rintro rfl;rw [D7] at hj;cases hj)]
    exact h1 j hj
   ·rw [h0 i hil D7] at bT;cases bT
 ·intro S a w hall hX
  rcases hX with ⟨h1,hD⟩|⟨p,_,_,h3,h4⟩
  ·have hnil:B=[]:=by
    cases B with
    | nil=>rfl
    | cons b B=>have h5:=h1 b (by simp);rw [hall b (hB1 0 b rfl).1] at h5;cases h5
   subst hnil
   exact (hend S a w (fun j hj _=>hall j hj) h1 hD).2
  ·have hnil:B.drop p=[]:=by
    cases hd:B.drop p with
    | nil=>rfl
    | cons b B' =>
     have hb:B[p]?=some b:=by
      have:=aB (fun x:List Nat=>x[0]?) hd
      simpa using this
     have h5:=h3 p b hb (bN _)
     rw [hall b (hB1 p b hb).1] at h5;cases h5
   rw [hnil] at h4
   exact h4.2
theorem Wz {pr:Nat→aj→GH→Prop} {S:Nat→Bool} {i d:Nat} {v:aj} (hok:mW l T i=true) (hi:eH l i=some d) 
  (HT:St N D w0 F G0 G1 L T a w) (Hb:St N D w0 F G0 G1 L (Xs++full N a) a w) (hG:∀ k o,G k=some o→G1 k=some o) (hv:∀ j d,j≠i→S j=true→eH l j=some d→∃ v,a.tmps[d]?=some v∧pr j v G1)
  (hp:pr i v G1) (H:St N D w0 F G0 G1 L1 ((d,v) :: (Xs++full N a)) a' w'):DX N D w0 F G0 G L1 T l pr (eZ S i) a' w':=by
 have hil:i < l.length:=yw hi
 have hok1:=hok
 rw [mW,hi] at hok1
 simp only [lU,Option.isNone_iff_eq_none,lq,rz] at hok1
 have hsame:∀ t,t≠d→a'.tmps[t]?=a.tmps[t]?:=by
  intro t ht
  by_cases hlt:t < N
  ·have h1:∃ u,lk (Xs++full N a) t=some u:=by
    rw [MO]
    cases lk Xs t with
    | some u=>exact ⟨u,rfl⟩
    | none=>exact ⟨_,MP a hlt⟩
   obtain ⟨u,hu⟩:=h1
   rw [Hb.get t u hu,H.get t u (by rw [tF (Ne.symm ht)];exact hu)]
  ·rw [Array.getElem?_eq_none (by rw [H.lC];omega),Array.getElem?_eq_none (by rw [Hb.lC];omega)]
 refine ⟨G1,hG,⟨H.lC,fun t u ht=>?_,H.qI,H.hp⟩,fun j e hj he=>?_⟩
 ·rw [hsame t (fun e=>by rw [e,hok1.1] at ht;cases ht)]
  exact HT.get t u ht
 ·by_cases hji:j=i
  ·subst hji
   rw [hi] at he
   simp only [lS] at he
   subst he
   exact ⟨v,H.get d v (vD _ _ _),hp⟩
  ·have hSj:S j=true:=by unfold eZ at hj;rwa [ah hji] at hj
   obtain ⟨u,hu1,hu2⟩:=hv j e hji hSj he
   have hne:e≠d:=by
    intro e'
    subst e'
    have h2:=hok1.2 j (yw he)
    rw [Ap (fun h=>hji h.symm),he] at h2
    simp at h2
   exact ⟨u,by rw [hsame e hne];exact hu1,hu2⟩
end
end
section
open Go.RowKit
structure EW (P:Program) (t:TypeId):Prop where
 h:(P.info? t).map (fun j=>j.size == 0)=some false
theorem EW.parts {P:Program} {t:TypeId} (h:EW P t):∃ j,P.info? t=some j∧j.size≠0:=by
 obtain ⟨j,h1,h2⟩:=mV.1 h.h
 exact ⟨j,h1,by simpa using h2⟩
section
variable {N:Nat} {D:List Deferred} {w0:World} {F:Nat→Prop} {G0 G:GH} {L Li Lo:OL} {T:List (Nat × aj)}
variable {r:Option Nat} {P:Program} {ops:Array Oper} {Q:Exit→Act→World→Prop} {rest:List Oper} {a:Act} {w:World}
variable {d:Nat} {ty:TypeId} {pos:String} {aK:Array Edge} {g:Option (Nat × Bool)}
theorem Hp.shape (h:Hp w0 F G0 G L w) {i b:Nat} {c:Array aj} {e:TypeId} {fz:Nat × Nat} (hi:L[i]?=some (b,.cells c e fz)):w.shape? b=some (e,c.size):=by
 have:=h.own _ (kr hi)
 simp only at this
 simp [World.shape?,this]
theorem anF {t u te e:TypeId} {x:Operand} {b o:Nat} {c:Array aj} {fz:Nat × Nat} (hs:P.underlying t=some (.pointer te)) (hu:P.underlying u=some .unsafePointer) (hj:EW P te) (H:St N D w0 F G0 G L T a w) (hw:Region.wanted ⟨some d,.convert t u x,ty,pos,aK,g⟩ (yielded ops a.tmps)=true)
  (hx:ev T x=some (.pointer (some ⟨b,o,none⟩))) (i:Nat) (hi:L[i]?=some (b,.cells c e fz)) (ho:Nat.blt o c.size=true) (hd:Nat.blt d N=true)
  (k:∀ a',St N D w0 F G0 G L ((d,.pointer (some ⟨b,o,none⟩)) :: T) a' w→WL r P ops Q rest a' w):WL r P ops Q (⟨some d,.convert t u x,ty,pos,aK,g⟩ :: rest) a w:=by
 obtain ⟨j,h1,h2⟩:=hj.parts
 refine fq (v:=.pointer (some ⟨b,o,none⟩)) (w':=w) hw rfl ?_ (k _ (H.put hd _ H.hp))
 have h:=Lib.run_to_unsafe (P:=P) w ⟨b,o,none⟩ hs hu h1 h2 (H.hp.shape hi) (Eq.mp Nat.blt_eq ho)
 simp only [execOp,H.ev hx,dM,h,lg,qE]
theorem ano {t u te e:TypeId} {x:Operand} {b o:Nat} {c:Array aj} {fz:Nat × Nat} (hs:P.underlying t=some .unsafePointer) (hu:P.underlying u=some (.pointer te)) (hj:EW P te) (H:St N D w0 F G0 G L T a w) (hw:Region.wanted ⟨some d,.convert t u x,ty,pos,aK,g⟩ (yielded ops a.tmps)=true)
  (hx:ev T x=some (.pointer (some ⟨b,o,none⟩))) (i:Nat) (hi:L[i]?=some (b,.cells c e fz)) (hl:liesAt P P.depth e (c.size / P.cellsOf e) o te 1=true) (hd:Nat.blt d N=true)
  (k:∀ a',St N D w0 F G0 G L ((d,.pointer (some ⟨b,o,none⟩)) :: T) a' w→WL r P ops Q rest a' w):WL r P ops Q (⟨some d,.convert t u x,ty,pos,aK,g⟩ :: rest) a w:=by
 obtain ⟨j,h1,h2⟩:=hj.parts
 refine fq (v:=.pointer (some ⟨b,o,none⟩)) (w':=w) hw rfl ?_ (k _ (H.put hd _ H.hp))
 have h:=Lib.run_from_unsafe (P:=P) w ⟨b,o,none⟩ hs hu h1 (H.hp.shape hi) hl
 simp only [execOp,H.ev hx,dM,h,lg,qE]
theorem anu {f:FuncId} {xs:List Operand} {v:aj} {ts:Array TypeId} (hcf:∀ (w:World),(callFunc f #[v]).run P w=.ok (.value v) w) (H:St N D w0 F G0 G L T a w) (hw:Region.wanted ⟨some d,.call { callee:=.value (.func f),args:=xs.toArray,argTypes:=ts },ty,pos,aK,g⟩ (yielded ops a.tmps)=true)
  (hx:evs T xs=some [v]) (hd:Nat.blt d N=true)
  (k:∀ a',St N D w0 F G0 G L ((d,v) :: T) a' w→WL r P ops Q rest a' w):WL r P ops Q (⟨some d,.call { callee:=.value (.func f),args:=xs.toArray,argTypes:=ts },ty,pos,aK,g⟩ :: rest) a w:=by
 refine fq (v:=v) (w':=w) hw rfl ?_ (k _ (H.put hd _ H.hp))
 have h1:=H.evs hx
 simp [execOp,resolve,Act.eval,Deferred.ofValue,invoke,dM,h1,hcf]
theorem amW {f:FuncId} {fn:Func} (hf:P.funcs[f]?=some fn) (hname:(fn.name == "runtime.NumGoroutine")=false) (hb:fn.body.isNone=true) (hn:Extern.findNext fn=none) (he:Extern.find fn=some Extern.AbiNoEscape.same) (v:aj) (w:World):(callFunc f #[v]).run P w=.ok (.value v) w:=by
 rw [run_callFunc_extern hf hname hb hn he,Lib.run_noEscape]
 rfl
theorem aap {t u te:TypeId} (hs:P.underlying t=some (.pointer te)) {x:Operand} {p:Option Addr} (H:St N D w0 F G0 G L T a w) (hw:Region.wanted ⟨some d,.binOp .eql t x (.const (.pointer none)) u,ty,pos,aK,g⟩ (yielded ops a.tmps)=true) (hx:ev T x=some (.pointer p)) (hd:Nat.blt d N=true)
  (k:∀ a',St N D w0 F G0 G L ((d,.bool p.isNone) :: T) a' w→WL r P ops Q rest a' w):WL r P ops Q (⟨some d,.binOp .eql t x (.const (.pointer none)) u,ty,pos,aK,g⟩ :: rest) a w:=by
 refine fq (v:=.bool p.isNone) (w':=w) hw rfl ?_ (k _ (H.put hd _ H.hp))
 have h1:(Op.equal t (.pointer p) (.pointer none)).run P w=.ok p.isNone w:=by
  show (Op.equalIn (9999+1) t (.pointer p) (.pointer none)).run P w=_
  rw [Op.equalIn.eq_2,dM,mE hs]
  cases p <;> simp
 have h2:(do eqGuard .eql t x (.const (.pointer none)) (.pointer p) (.pointer none);binOp .eql t (.pointer p) (.pointer none):Sem aj).run P w=.ok (.bool p.isNone) w:=by
  have e:(do eqGuard .eql t x (.const (.pointer none)) (.pointer p) (.pointer none);binOp .eql t (.pointer p) (.pointer none):Sem aj)=(do pure (.bool (← Op.equal t (.pointer p) (.pointer none))):Sem aj):=rfl
  rw [e,dM,h1];rfl
 have e0:execOp a.eval ⟨some d,.binOp .eql t x (.const (.pointer none)) u,ty,pos,aK,g⟩=(do pure (.value (← (do eqGuard .eql t x (.const (.pointer none)) (.pointer p) (.pointer none);binOp .eql t (.pointer p) (.pointer none):Sem aj))):Sem Next):=by
  simp only [execOp,H.ev hx];rfl
 rw [e0,dM,h2]
 rfl
theorem anr {t u te:TypeId} (hs:P.underlying t=some (.pointer te)) (hj:EW P te) {x y:Operand} {p:Addr} (H:St N D w0 F G0 G L T a w) (hw:Region.wanted ⟨some d,.binOp .neq t x y u,ty,pos,aK,g⟩ (yielded ops a.tmps)=true) (hx:ev T x=some (.pointer (some p))) (hy:ev T y=some (.pointer (some p))) (hd:Nat.blt d N=true)
  (k:∀ a',St N D w0 F G0 G L ((d,.bool false) :: T) a' w→WL r P ops Q rest a' w):WL r P ops Q (⟨some d,.binOp .neq t x y u,ty,pos,aK,g⟩ :: rest) a w:=by
 obtain ⟨j,h1,h2⟩:=hj.parts
 refine fq (v:=.bool false) (w':=w) hw rfl ?_ (k _ (H.put hd _ H.hp))
 have h:=Lib.run_neq_ptr_same (P:=P) (w:=w) p hs h1
 simp only [execOp,H.ev hx,H.ev hy]
 simp [dM,eqGuard,h]
theorem anA {t:TypeId} {x:Operand} {p:Addr} {n c:Nat} (H:St N D w0 F G0 G L T a w) (hw:Region.wanted ⟨some d,.call { callee:=.builtin .unsafeSliceData,args:=#[x],argTypes:=#[t] },ty,pos,aK,g⟩ (yielded ops a.tmps)=true) (hx:ev T x=some (.slice (some p) n c)) (hc:c≠0) (hd:Nat.blt d N=true)
  (k:∀ a',St N D w0 F G0 G L ((d,.pointer (some p)) :: T) a' w→WL r P ops Q rest a' w):WL r P ops Q (⟨some d,.call { callee:=.builtin .unsafeSliceData,args:=#[x],argTypes:=#[t] },ty,pos,aK,g⟩ :: rest) a w:=by
 refine fq (v:=.pointer (some p)) (w':=w) hw rfl ?_ (k _ (H.put hd _ H.hp))
 have h:=Lib.run_unsafeSliceData_row (P:=P) (w:=w) #[t] ty p n c hc
 simp [execOp,resolve,invoke,builtin,H.ev hx,dM,h]
theorem apg {w:World} {b n:Nat} {c:Array aj} {e:TypeId} {fz:Nat × Nat} (h:w.heap[b]?=some (.cells c e fz)) (hn:n≠0):∃ DW,uE b (.cells c e DW) w (w.freeze ⟨b,0,none⟩ n):=by
 unfold World.freeze
 rw [ah hn]
 refine ⟨if fz.1 == fz.2 then (0,0+n) else (min fz.1 0,max fz.2 (0+n)),rfl,rfl,rfl,by simp,?_,fun k hk=>?_⟩
 ·simp [Array.getElem?_modify,h]
 ·simp [Array.getElem?_modify,Ne.symm hk]
theorem anG {pt it e:TypeId} {x y:Operand} {b i:Nat} {cur:Array aj} {fz:Nat × Nat} (l:List UInt8) (hp:P.underlying pt=some (.pointer e)) (hc:P.cellsOf e=1) (h0:l≠[]) (h63:l.length≤9223372036854775807) (H:St N D w0 F G0 G L T a w)
  (hw:Region.wanted ⟨some d,.call { callee:=.builtin .unsafeString,args:=#[x,y],argTypes:=#[pt,it] },ty,pos,aK,g⟩ (yielded ops a.tmps)=true) (hx:ev T x=some (.pointer (some ⟨b,0,none⟩))) (hy:ev T y=some (.int .i64 (l.length:Int)))
  (hi:L[i]?=some (b,.cells cur e fz)) (hl:cur.toList.take l.length=Lib.byteCells l) (hd:Nat.blt d N=true)
  (k:∀ DW a' w',St N D w0 F G0 G (L.set i (b,.cells cur e DW)) ((d,.string ⟨l.toArray⟩) :: T) a' w'→WL r P ops Q rest a' w'):WL r P ops Q (⟨some d,.call { callee:=.builtin .unsafeString,args:=#[x,y],argTypes:=#[pt,it] },ty,pos,aK,g⟩ :: rest) a w:=by
 have hb:=H.hp.own _ (kr hi)
 simp only at hb
 have hlen:l.length≤cur.size:=by
  have:=aB List.length hl
  simp only [List.length_take,Lib.byteCells_length,sG] at this
  omega
 obtain ⟨DW,hu⟩:=apg (n:=l.length) hb (by simpa using h0)
 have h:=Lib.run_unsafeString_row (P:=P) w pt it ty e hp hc b cur.size (H.hp.shape hi) l h0 hlen h63 (fun j x hj=>by
  rw [add_lit,fQ]
  simp only [World.cell?,hb]
  have h2:(cur.toList.take l.length)[j]?=some (.int .u8 x.toNat):=by rw [hl];simp [Lib.byteCells,hj]
  rw [uG] at h2
  split at h2
  ·simpa using h2
  ·cases h2)
 refine fq (v:=.string ⟨l.toArray⟩) (w':=w.freeze ⟨b,0,none⟩ l.length) hw rfl ?_ (k DW _ _ (H.put hd _ (H.hp.upd hi hu)))
 simp [execOp,resolve,invoke,builtin,H.ev hx,H.ev hy,dM,h]
theorem Xp (sz n:Nat):∀ (css:List (List aj)) (k:Nat) (pre z:List aj),pre.length=k*sz→z.length=css.length*sz→(∀ c∈css,c.length=sz)→k+css.length=n →
  zu ((List.range n).map fun i=>(i*sz,sz)) (pre++z) ((css.zipIdx k).map fun p=>(p.2,p.1))=some (pre++css.flatten)
 | [],k,pre,z,_,hz,_,_=>by
  have:z=[]:=List.eq_nil_of_length_eq_zero (by simpa using hz)
  subst this
  simp [zu]
 | c :: css,k,pre,z,hp,hz,hc,hn=>by
  have hcl:=hc c fH
  simp only [kG] at hz hn
  have hpl:((List.range n).map fun i=>(i*sz,sz))[k]?=some (k*sz,sz):=by
   rw [nE,List.getElem?_range (by omega)];rfl
  have hz1:z.length=sz+css.length*sz:=by rw [hz,Nat.add_mul,Nat.one_mul,Nat.add_comm]
  have hle:k*sz+c.length≤(pre++z).length:=by rw [jH,hp,hcl];omega
  have e1:Nat.beq c.length sz=true:=by rw [hcl];exact Nat.beq_refl sz
  have e2:Nat.ble (k*sz+c.length) (pre++z).length=true:=Eq.mpr Nat.ble_eq hle
  rw [List.zipIdx_cons,eu]
  simp only [zu,hpl,e1,e2,Bool.and_self,cond_true]
  have e3:setRow (pre++z) (k*sz) c=(pre++c)++z.drop sz:=by
   rw [Nr _ _ _ hle,← hp,List.take_left' rfl,List.drop_append,fM (by omega),iD,hcl]
   congr 2;omega
  rw [e3,Xp sz n css (k+1) (pre++c) (z.drop sz) (by rw [jH,hp,hcl,Nat.succ_mul]) (by rw [List.length_drop];omega) (fun q hq=>hc q (gL _ hq)) (by omega)]
  simp
theorem anh {t e:TypeId} {sz bytes:Nat} {zero:List aj} {agg:Bool} (hs:P.underlying t=some (.slice e)) (ht:Ty P e sz bytes zero agg) {n:Nat} {xs:List (Nat × Operand)} {vs:List (Nat × aj)} (css:List (List aj)) (H:St N D w0 F G0 G L T a w) (hw:Region.wanted ⟨some d,.buildSlice t n xs.toArray,ty,pos,aK,g⟩ (yielded ops a.tmps)=true)
  (hx:pts T xs=some vs) (hv:vs.map (fun x=>(x.1,x.2.cells.toList))=(css.zipIdx 0).map fun p=>(p.2,p.1)) (hl:css.all (fun c=>Nat.beq c.length sz)=true) (hcn:Nat.beq css.length n=true) (hn:Nat.ble (n*sz) 1000=true) (hn0:Nat.beq (n*sz) 0=false) (hd:Nat.blt d N=true)
  (k:∀ b a' w',w0.heap.size≤b→St N D w0 F G0 G ((b,.cells css.flatten.toArray e (0,0)) :: L) ((d,.slice (some ⟨b,0,none⟩) n n) :: T) a' w'→WL r P ops Q rest a' w'):WL r P ops Q (⟨some d,.buildSlice t n xs.toArray,ty,pos,aK,g⟩ :: rest) a w:=by
 have hcn':css.length=n:=Am hcn
 refine gK (vs':=(css.zipIdx 0).map fun p=>(p.2,p.1)) hs ht ((List.range (n*sz)).map (fun i=>zero[i % zero.length]!)) css.flatten H hw hx hv hn hn0 rfl (fun i q h=>?_) ?_ hd k
 ·rw [nE] at h
  obtain ⟨j,hj,rfl⟩:=mV.1 h
  obtain ⟨h1,h2⟩:=iL.1 hj
  rw [List.getElem_range] at h2
  rw [h2]
 ·have h:=Xp sz n css 0 [] ((List.range (n*sz)).map (fun i=>zero[i % zero.length]!)) (by simp) (by simp [hcn']) (fun c hc=>Am (lq.1 hl c hc)) (by omega)
  simpa using h
end
end
section
open Go.RowKit
def sP (xs:Array aj) (o:Nat):Option Int:=match xs[o]? with|some (.int .i64 n)=>some n|_=>none
def Sn (u:Option TypeDesc):Bool:=match u with|some (.int .i64)=>true|_=>false
structure U4 (P:Program) (t:TypeId) (wH:List Nat):Prop where
 und:P.underlying t=some (.struct (P.fieldsOf t))
 held:P.stoodInHeld t=false
 guard:P.eqGuardType P.depth t=false
 Co:(P.fieldsOf t).toList.map (·.offset)=wH
 ok:(P.fieldsOf t).toList.all (fun f=>decide (f.name ≠ "_") && P.plainKey f.type && Sn (P.underlying f.type))=true
theorem aaj {P:Program} {w:World} {d:Nat} {xs ys:Array aj}:∀ fs:List Field,fs.all (fun f=>decide (f.name ≠ "_") && P.plainKey f.type && Sn (P.underlying f.type))=true →
  (fs.map (·.offset)).all (fun o=>(sP xs o).isSome && (sP ys o).isSome)=true→(Op.eqFields (d+1) xs ys fs).run P w=.ok ((fs.map (·.offset)).all fun o=>sP xs o == sP ys o) w
 | [],_,_=>by simp [Op.eqFields]
 | f :: fs,h1,h2=>by
  simp only [List.all_cons,lU,lV,eu] at h1 h2
  obtain ⟨⟨⟨hn,hp⟩,hi⟩,h1⟩:=h1
  obtain ⟨⟨hx,hy⟩,h2⟩:=h2
  have ih:=aaj (w:=w) (d:=d) fs (by simpa using h1) h2
  unfold Sn at hi
  split at hi
  ·rename_i hu
   unfold sP at hx hy
   split at hx
   ·rename_i m hxm
    split at hy
    ·rename_i m2 hym
     have e1:sP xs f.offset=some m:=by unfold sP;rw [hxm]
     have e2:sP ys f.offset=some m2:=by unfold sP;rw [hym]
     simp only [Op.eqFields,hn,ne_eq,not_false_eq_true,if_true,dM,run_part_plain w hp hxm,run_part_plain w hp hym,lg,run_equalIn_int w d f.type .i64 .i64 m m2 hu,eu,List.all_cons,e1,e2]
     by_cases e:m=m2
     ·subst e;simp [ih,List.all_map]
     ·simp [e]
    ·simp at hy
   ·simp at hx
  ·simp at hi
def jN (xs:Array aj) (o:Nat × Bool):Option (Int × Bool):=match xs[o.1]?,o.2 with|some (.int .i64 n),false=>some (n,false)|some (.bool b),true=>some (0,b)|_,_=>none
def zM (u:Option TypeDesc) (b:Bool):Bool:=match u,b with|some (.int .i64),false=>true|some .bool,true=>true|_,_=>false
structure JU (P:Program) (t:TypeId) (wH:List (Nat × Bool)):Prop where
 und:P.underlying t=some (.struct (P.fieldsOf t))
 held:P.stoodInHeld t=false
 guard:P.eqGuardType P.depth t=false
 Co:(P.fieldsOf t).toList.map (fun f=>(f.offset,zM (P.underlying f.type) true))=wH
 ok:(P.fieldsOf t).toList.all (fun f=>decide (f.name ≠ "_") && P.plainKey f.type && zM (P.underlying f.type) (zM (P.underlying f.type) true))=true
theorem aak {P:Program} {w:World} {d:Nat} {xs ys:Array aj}:∀ fs:List Field,fs.all (fun f=>decide (f.name ≠ "_") && P.plainKey f.type && zM (P.underlying f.type) (zM (P.underlying f.type) true))=true →
  (fs.map (fun f=>(f.offset,zM (P.underlying f.type) true))).all (fun o=>(jN xs o).isSome && (jN ys o).isSome)=true→(Op.eqFields (d+1) xs ys fs).run P w=.ok ((fs.map (fun f=>(f.offset,zM (P.underlying f.type) true))).all fun o=>jN xs o == jN ys o) w
 | [],_,_=>by simp [Op.eqFields]
 | f :: fs,h1,h2=>by
  simp only [List.all_cons,lU,lV,eu] at h1 h2
  obtain ⟨⟨⟨hn,hp⟩,hi⟩,h1⟩:=h1
  obtain ⟨⟨hx,hy⟩,h2⟩:=h2
  have ih:=aak (w:=w) (d:=d) fs (by simpa using h1) h2
  obtain ⟨kb,hkb⟩:∃ kb,kb=zM (P.underlying f.type) true:=⟨_,rfl⟩
  rw [← hkb] at hi hx hy
  cases kb with
  | false =>
   have hu:P.underlying f.type=some (.int .i64):=by clear hkb ih h1 h2 hx hy;unfold zM at hi;split at hi <;> simp_all
   obtain ⟨m,hxm⟩:∃ m,xs[f.offset]?=some (.int .i64 m):=by clear hkb ih h1 h2 hi hy;unfold jN at hx;split at hx <;> simp_all
   obtain ⟨m2,hym⟩:∃ m,ys[f.offset]?=some (.int .i64 m):=by clear hkb ih h1 h2 hi hx;unfold jN at hy;split at hy <;> simp_all
   have e1:jN xs (f.offset,false)=some (m,false):=by unfold jN;rw [hxm]
   have e2:jN ys (f.offset,false)=some (m2,false):=by unfold jN;rw [hym]
   simp only [Op.eqFields,hn,ne_eq,not_false_eq_true,if_true,dM,run_part_plain w hp hxm,run_part_plain w hp hym,lg,run_equalIn_int w d f.type .i64 .i64 m m2 hu,eu,List.all_cons,← hkb,e1,e2]
   by_cases e:m=m2
   ·subst e;simp [ih,List.all_map]
   ·simp [e]
  | true =>
   have hu:P.underlying f.type=some .bool:=by clear hkb ih h1 h2 hx hy;unfold zM at hi;split at hi <;> simp_all
   obtain ⟨m,hxm⟩:∃ m,xs[f.offset]?=some (.bool m):=by clear hkb ih h1 h2 hi hy;unfold jN at hx;split at hx <;> simp_all
   obtain ⟨m2,hym⟩:∃ m,ys[f.offset]?=some (.bool m):=by clear hkb ih h1 h2 hi hx;unfold jN at hy;split at hy <;> simp_all
   have e1:jN xs (f.offset,true)=some (0,m):=by unfold jN;rw [hxm]
   have e2:jN ys (f.offset,true)=some (0,m2):=by unfold jN;rw [hym]
   simp only [Op.eqFields,hn,ne_eq,not_false_eq_true,if_true,dM,run_part_plain w hp hxm,run_part_plain w hp hym,lg,run_equalIn_bool' w d f.type m m2 hu,eu,List.all_cons,← hkb,e1,e2]
   by_cases e:m=m2
   ·subst e;simp [ih,List.all_map]
   ·simp [e]
section
variable {N:Nat} {D:List Deferred} {w0:World} {F:Nat→Prop} {G0 G:GH} {L:List (Nat × Obj)} {T:List (Nat × aj)}
variable {r:Option Nat} {P:Program} {ops:Array Oper} {Q:Exit→Act→World→Prop} {rest:List Oper} {a:Act} {w:World}
variable {d:Nat} {ty:TypeId} {pos:String} {aK:Array Edge} {g:Option (Nat × Bool)}
theorem anm {t yt:TypeId} {wH:List Nat} (he:U4 P t wH) {x y:Operand} {xs ys:Array aj} (H:St N D w0 F G0 G L T a w) (hw:Region.wanted ⟨some d,.binOp .eql t x y yt,ty,pos,aK,g⟩ (yielded ops a.tmps)=true) (hx:ev T x=some (.agg xs)) (hy:ev T y=some (.agg ys))
  (hi:wH.all (fun o=>(sP xs o).isSome && (sP ys o).isSome)=true) (hd:Nat.blt d N=true)
  (k:∀ a',St N D w0 F G0 G L ((d,.bool (wH.all fun o=>sP xs o == sP ys o)) :: T) a' w→WL r P ops Q rest a' w):WL r P ops Q (⟨some d,.binOp .eql t x y yt,ty,pos,aK,g⟩ :: rest) a w:=by
 refine fq (v:=.bool (wH.all fun o=>sP xs o == sP ys o)) (w':=w) hw rfl ?_ (k _ (H.put hd _ H.hp))
 have h1:=aaj (P:=P) (w:=w) (d:=9998) (xs:=xs) (ys:=ys) _ he.ok (by rw [he.Co];exact hi)
 rw [he.Co] at h1
 simp only [execOp,H.ev hx,H.ev hy,dM,run_eqGuard_agg w .eql t x y xs ys he.guard,lg,run_eql_struct,run_equalIn_struct w 9999 t xs ys he.und he.held,h1]
 rfl
theorem Gp {t yt:TypeId} {x y:Operand} {p q:ByteArray} (H:St N D w0 F G0 G L T a w) (hw:Region.wanted ⟨some d,.binOp .eql t x y yt,ty,pos,aK,g⟩ (yielded ops a.tmps)=true) (hx:ev T x=some (.string p)) (hy:ev T y=some (.string q)) (hd:Nat.blt d N=true)
  (k:∀ a',St N D w0 F G0 G L ((d,.bool (p.toList == q.toList)) :: T) a' w→WL r P ops Q rest a' w):WL r P ops Q (⟨some d,.binOp .eql t x y yt,ty,pos,aK,g⟩ :: rest) a w:=by
 refine fq (v:=.bool (p.toList == q.toList)) (w':=w) hw rfl ?_ (k _ (H.put hd _ H.hp))
 simp [execOp,H.ev hx,H.ev hy,dM,eqGuard,binOp,Op.stringOp]
theorem Bp {t yt:TypeId} {x y:Operand} {p q:Int} (z:Int) (H:St N D w0 F G0 G L T a w) (hw:Region.wanted ⟨some d,.binOp .quo t x y yt,ty,pos,aK,g⟩ (yielded ops a.tmps)=true) (hx:ev T x=some (.int .i64 p)) (hy:ev T y=some (.int .i64 q)) (hq:¬ q=0) (hz:p.tdiv q=z) (h1:-9223372036854775808≤z) (h2:z < 9223372036854775808) (hd:Nat.blt d N=true)
  (k:∀ a',St N D w0 F G0 G L ((d,.int .i64 z) :: T) a' w→WL r P ops Q rest a' w):WL r P ops Q (⟨some d,.binOp .quo t x y yt,ty,pos,aK,g⟩ :: rest) a w:=by
 subst hz
 refine fq (v:=.int .i64 (p.tdiv q)) (w':=w) hw rfl ?_ (k _ (H.put hd _ H.hp))
 simp [execOp,H.ev hx,H.ev hy,dM,eqGuard,binOp,Op.intDiv,hq,CK h1 h2]
theorem TN {op:BinOp} {t yt:TypeId} {wH:List (Nat × Bool)} (ho:op=.eql∨op=.neq) (he:JU P t wH) {x y:Operand} {xs ys:Array aj} (H:St N D w0 F G0 G L T a w) (hw:Region.wanted ⟨some d,.binOp op t x y yt,ty,pos,aK,g⟩ (yielded ops a.tmps)=true) (hx:ev T x=some (.agg xs)) (hy:ev T y=some (.agg ys))
  (hi:wH.all (fun o=>(jN xs o).isSome && (jN ys o).isSome)=true) (hd:Nat.blt d N=true)
  (k:∀ a',St N D w0 F G0 G L ((d,.bool (if op=.eql then wH.all fun o=>jN xs o == jN ys o else !(wH.all fun o=>jN xs o == jN ys o))) :: T) a' w→WL r P ops Q rest a' w):WL r P ops Q (⟨some d,.binOp op t x y yt,ty,pos,aK,g⟩ :: rest) a w:=by
 have h1:=aak (P:=P) (w:=w) (d:=9998) (xs:=xs) (ys:=ys) _ he.ok (by rw [he.Co];exact hi)
 rw [he.Co] at h1
 rcases ho with rfl|rfl
 ·refine fq (v:=_) (w':=w) hw rfl ?_ (k _ (H.put hd _ H.hp))
  simp only [execOp,H.ev hx,H.ev hy,dM,run_eqGuard_agg w .eql t x y xs ys he.guard,lg,run_eql_struct,run_equalIn_struct w 9999 t xs ys he.und he.held,h1]
  rfl
 ·refine fq (v:=_) (w':=w) hw rfl ?_ (k _ (H.put hd _ H.hp))
  simp only [execOp,H.ev hx,H.ev hy,dM,run_eqGuard_agg w .neq t x y xs ys he.guard,lg,run_neq_struct,run_equalIn_struct w 9999 t xs ys he.und he.held,h1]
  rfl
end
end
section
open Go.RowKit
section
variable {N:Nat} {D:List Deferred} {w0:World} {F:Nat→Prop} {G0 G:GH} {L:OL} {T:List (Nat × aj)}
variable {r:Option Nat} {P:Program} {ops:Array Oper} {Q:Exit→Act→World→Prop} {rest:List Oper} {a:Act} {w:World}
variable {d:Nat} {ty:TypeId} {pos:String} {aK:Array Edge} {g:Option (Nat × Bool)}
theorem ED {t:TypeId} (H:St N D w0 F G0 G L T a w) (hw:Region.wanted ⟨some d,.makeMap t none,ty,pos,aK,g⟩ (yielded ops a.tmps)=true) (hd:Nat.blt d N=true)
  (k:∀ b a' w',w0.heap.size≤b→St N D w0 F G0 G ((b,.map #[] 0) :: L) ((d,.map (some b)) :: T) a' w'→WL r P ops Q rest a' w'):WL r P ops Q (⟨some d,.makeMap t none,ty,pos,aK,g⟩ :: rest) a w:=by
 refine fq (v:=.map (some w.heap.size)) (w':=w.alloc (.map #[] 0)) hw rfl ?_ (k _ _ _ H.hp.size (H.put hd _ (H.hp.alloc _)))
 simp [execOp,Instr.makeMap,newObj,Sem.run,dM]
def Bj (an:Option (Nat × aj)) (zv:aj):aj × Bool:=match an with|some (_,v)=>(v,true)|none=>(zv,false)
theorem anp {t kt et:TypeId} {kd:TypeDesc} {x y:Operand} {b i clock:Nat} {es:Array MapEntry} {ky zv:aj} (an:Option (Nat × aj)) (hm:P.underlying t=some (.map kt et)) (hk:P.underlying kt=some kd) (hz:(P.info? et).map (fun i=>i.zero)=some (some zv)) (H:St N D w0 F G0 G L T a w)
  (hw:Region.wanted ⟨some d,.lookup t x y true,ty,pos,aK,g⟩ (yielded ops a.tmps)=true) (hx:ev T x=some (.map (some b))) (hy:ev T y=some ky) (hi:L[i]?=some (b,.map es clock)) (hky:MapKept.IsKey kd ky) (hf:Instr.findNow kd ky es.toList 0=some an) (hd:Nat.blt d N=true)
  (k:∀ a',St N D w0 F G0 G L ((d,.tuple #[(Bj an zv).1,.bool (Bj an zv).2]) :: T) a' w→WL r P ops Q rest a' w):WL r P ops Q (⟨some d,.lookup t x y true,ty,pos,aK,g⟩ :: rest) a w:=by
 have hb:w.heap[b]?=some (.map es clock):=H.hp.own _ (kr hi)
 obtain ⟨inf,hi1,hi2⟩:=mV.1 hz
 refine fq (v:=.tuple #[(Bj an zv).1,.bool (Bj an zv).2]) (w':=w) hw rfl ?_ (k _ (H.put hd _ H.hp))
 have h1:=MapKept.run_checkKey (w:=w) hk hky es.isEmpty 9999
 have h2:=MapKept.run_findKey (w:=w) hk hf
 cases an with
 | none=>simp [execOp,Instr.lookup,H.ev hx,H.ev hy,dM,mE hm,MapKept.run_getObj_map hb,h1,h2,Result.andThen,zeroValue,CX hi1,hi2,Bj]
 | some q=>simp [execOp,Instr.lookup,H.ev hx,H.ev hy,dM,mE hm,MapKept.run_getObj_map hb,h1,h2,Result.andThen,Bj]
theorem UA {w:World} {b clock:Nat} {es:Array MapEntry} {o:Obj} (h:w.heap[b]?=some (.map es clock)):uE b o w { w with heap:=w.heap.setIfInBounds b o }:=by
 have hlt:b < w.heap.size:=(Array.getElem?_eq_some_iff.1 h).1
 refine ⟨rfl,rfl,rfl,by simp,by simp [hlt],fun k hk=>?_⟩
 simp only
 rw [Array.getElem?_setIfInBounds_ne (Ne.symm hk)]
theorem aar {t kt et:TypeId} {kd:TypeDesc} {x y z:Operand} {b i clock:Nat} {es:Array MapEntry} {ky v:aj} (hm:P.underlying t=some (.map kt et)) (hk:P.underlying kt=some kd) (H:St N D w0 F G0 G L T a w)
  (hw:Region.wanted ⟨none,.mapUpdate t x y z,ty,pos,aK,g⟩ (yielded ops a.tmps)=true) (hx:ev T x=some (.map (some b))) (hy:ev T y=some ky) (hzv:ev T z=some v) (hi:L[i]?=some (b,.map es clock)) (hky:MapKept.IsKey kd ky) (hf:Instr.findNow kd ky es.toList 0=some none)
  (k:∀ w',St N D w0 F G0 G (L.set i (b,.map (es.push ⟨ky,v,clock⟩) (clock+1))) T a w'→WL r P ops Q rest a w'):WL r P ops Q (⟨none,.mapUpdate t x y z,ty,pos,aK,g⟩ :: rest) a w:=by
 have hb:w.heap[b]?=some (.map es clock):=H.hp.own _ (kr hi)
 have h1:=MapKept.run_checkKey (w:=w) hk hky false 9999
 have h2:=MapKept.run_findKey (w:=w) hk hf
 refine UG (w':={ w with heap:=w.heap.setIfInBounds b (.map (es.push ⟨ky,v,clock⟩) (clock+1)) }) hw rfl ?_ (k _ (H.move (H.hp.upd hi (UA hb))))
 simp [execOp,Instr.mapUpdate,H.ev hx,H.ev hy,H.ev hzv,dM,mE hm,MapKept.run_getObj_map hb,h1,h2,MapKept.run_setObj_map _ hb,Result.andThen]
theorem anw {kd:IntKind} {t yt:TypeId} {x y:Operand} {p q:Int} (z:Int) (H:St N D w0 F G0 G L T a w) (hw:Region.wanted ⟨some d,.binOp .rem t x y yt,ty,pos,aK,g⟩ (yielded ops a.tmps)=true) (hx:ev T x=some (.int kd p)) (hy:ev T y=some (.int kd q)) (hq:¬ q=0) (hz:p.tmod q=z) (hd:Nat.blt d N=true)
  (k:∀ a',St N D w0 F G0 G L ((d,.int kd z) :: T) a' w→WL r P ops Q rest a' w):WL r P ops Q (⟨some d,.binOp .rem t x y yt,ty,pos,aK,g⟩ :: rest) a w:=by
 subst hz
 refine fq (v:=.int kd (p.tmod q)) (w':=w) hw rfl ?_ (k _ (H.put hd _ H.hp))
 simp [execOp,H.ev hx,H.ev hy,dM,eqGuard,binOp,Op.intDiv,hq]
theorem ant {t yt:TypeId} {x y:Operand} {p q:ByteArray} (H:St N D w0 F G0 G L T a w) (hw:Region.wanted ⟨some d,.binOp .neq t x y yt,ty,pos,aK,g⟩ (yielded ops a.tmps)=true) (hx:ev T x=some (.string p)) (hy:ev T y=some (.string q)) (hd:Nat.blt d N=true)
  (k:∀ a',St N D w0 F G0 G L ((d,.bool (!(p.toList == q.toList))) :: T) a' w→WL r P ops Q rest a' w):WL r P ops Q (⟨some d,.binOp .neq t x y yt,ty,pos,aK,g⟩ :: rest) a w:=by
 refine fq (v:=.bool (!(p.toList == q.toList))) (w':=w) hw rfl ?_ (k _ (H.put hd _ H.hp))
 simp [execOp,H.ev hx,H.ev hy,dM,eqGuard,binOp,Op.stringOp]
theorem Hp.MR (h:Hp w0 F G0 G L w) {b o:Nat} {c:Array aj} {e:TypeId} {fz:Nat × Nat} {v:aj} (hm:(b,Obj.cells c e fz)∈L) (hv:c[o]?=some v):w.cell? ⟨b,o,none⟩=some v:=by
 have:=h.own _ hm
 simp only [World.cell?,this]
 exact hv
end
end
section
open Go.RowKit
section
variable {N:Nat} {D:List Deferred} {w0:World} {F:Nat→Prop} {G0 G G1 G2:GH} {L L1:OL} {T Xs:List (Nat × aj)}
variable {r:Option Nat} {P:Program} {Q:Exit→Act→World→Prop} {l:List Oper} {a a':Act} {w w':World}
end
end
section
open Go.RowKit
section
variable {N:Nat} {D:List Deferred} {w0:World} {F:Nat→Prop} {G0 G G1 G2:GH} {L L1 L2:OL} {T Xs:List (Nat × aj)}
variable {r:Option Nat} {P:Program} {Q:Exit→Act→World→Prop} {l:List Oper} {a a':Act} {w w':World}
end
end
section
open Go.RowKit
section
variable {N:Nat} {D:List Deferred} {w0:World} {F:Nat→Prop} {G0 G G1 G2:GH} {L L1 L2:OL} {T Xs:List (Nat × aj)}
variable {r:Option Nat} {P:Program} {Q:Exit→Act→World→Prop} {l:List Oper} {a a':Act} {w w':World}
theorem DX.perm {pr:Nat→aj→GH→Prop} {S:Nat→Bool} (h:DX N D w0 F G0 G L1 T l pr S a w) (hp:L1.Perm L2):DX N D w0 F G0 G L2 T l pr S a w:=by
 obtain ⟨G1,hG,HS,hv⟩:=h
 exact ⟨G1,hG,HS.perm hp,hv⟩
end
end
section
open Go.RowKit
section
variable {N:Nat} {D:List Deferred} {w0:World} {F:Nat→Prop} {G0 G G1 G2:GH} {L L1 L2:OL} {T Xs:List (Nat × aj)}
variable {r:Option Nat} {P:Program} {Q:Exit→Act→World→Prop} {l:List Oper} {a a':Act} {w w':World}
theorem Ch {pr:Nat→aj→GH→Prop} {S:Nat→Bool} {i d:Nat} {v:aj} (hok:mW l T i=true) (jl:∀ i v (G G':GH),(∀ k o,G k=some o→G' k=some o)→pr i v G→pr i v G') (hi:eH l i=some d)
  (HT:St N D w0 F G0 G1 L T a w) (Hb:St N D w0 F G0 G1 L (Xs++full N a) a w) (hG:∀ k o,G k=some o→G1 k=some o) (hv:∀ j d,j≠i→S j=true→eH l j=some d→∃ v,a.tmps[d]?=some v∧pr j v G1)
  (hG2:∀ k o,G1 k=some o→G2 k=some o) (hp:pr i v G2) (H:St N D w0 F G0 G2 L1 ((d,v) :: (Xs++full N a)) a' w'):DX N D w0 F G0 G L1 T l pr (eZ S i) a' w':=by
 have hok1:=hok
 rw [mW,hi] at hok1
 simp only [lU,Option.isNone_iff_eq_none,lq,rz] at hok1
 have hsame:∀ t,t≠d→a'.tmps[t]?=a.tmps[t]?:=by
  intro t ht
  by_cases hlt:t < N
  ·have h1:∃ u,lk (Xs++full N a) t=some u:=by
    rw [MO]
    cases lk Xs t with
    | some u=>exact ⟨u,rfl⟩
    | none=>exact ⟨_,MP a hlt⟩
   obtain ⟨u,hu⟩:=h1
   rw [Hb.get t u hu,H.get t u (by rw [tF (Ne.symm ht)];exact hu)]
  ·rw [Array.getElem?_eq_none (by rw [H.lC];omega),Array.getElem?_eq_none (by rw [Hb.lC];omega)]
 refine ⟨G2,fun k o hk=>hG2 k o (hG k o hk),⟨H.lC,fun t u ht=>?_,H.qI,H.hp⟩,fun j e hj he=>?_⟩
 ·rw [hsame t (fun e=>by rw [e,hok1.1] at ht;cases ht)]
  exact HT.get t u ht
 ·by_cases hji:j=i
  ·subst hji
   rw [hi] at he
   simp only [lS] at he
   subst he
   exact ⟨v,H.get d v (vD _ _ _),hp⟩
  ·have hSj:S j=true:=by unfold eZ at hj;rwa [ah hji] at hj
   obtain ⟨u,hu1,hu2⟩:=hv j e hji hSj he
   have hne:e≠d:=by
    intro e'
    subst e'
    have h2:=hok1.2 j (yw he)
    rw [Ap (fun h=>hji h.symm),he] at h2
    simp at h2
   exact ⟨u,by rw [hsame e hne];exact hu1,jl j u _ _ hG2 hu2⟩
theorem acP {id:Nat} {κ:Type} (k0:κ) (hm:P.follows .mixedOrders=true) (bY:List (List Nat)) (B:List Nat) (hk:Aw l bY=true) (hB:yS l bY B=true) (m1 m2 m3:Nat) (aqL:B.contains m1=false) (aqM:B.contains m2=false) (ajk:B.contains m3=false) (hne:Nat.beq m1 m2=false) (Yi:Nat.beq m2 m3=false) (hne1:Nat.beq m1 m3=false) (h12:(bY.getD m2 []).contains m1=true) (mX:(bY.getD m3 []).contains m1=true) (h23:(bY.getD m3 []).contains m2=true)
  (C L2:OL) (ob:Obj) (L3:Nat→κ→OL) (hC:∀ x,x∈C→x∈L) (hC2:∀ x,x∈C→x∈L2) (hC3:∀ b k x,x∈C→x∈L3 b k) (pr:Nat→κ→Nat→aj→GH→Prop)
  (ajA:∀ b b' k i v G,Nat.beq i m2=false→(bY.getD i []).contains m2=false→pr b k i v G→pr b' k i v G)
  (ajB:∀ b k k' i v G,Nat.beq i m3=false→(bY.getD i []).contains m3=false→pr b k i v G→pr b k' i v G)
  (H:St N D w0 F G0 G L T a w)
  (hstep:allI (fun i o=>∀ b k L' S a w G1,(∀ x,x∈C→x∈L')→B.contains i=false→Nat.beq i m1=false→Nat.beq i m2=false→Nat.beq i m3=false→S i=false→(∀ j∈bY.getD i [],S j=true)→(∀ k o,G k=some o→G1 k=some o)→St N D w0 F G0 G1 L' T a w→(∀ i d,S i=true→eH l i=some d→∃ v,a.tmps[d]?=some v∧pr b k i v G1) →
   WL r P l.toArray (fun e a' w'=>e=.normal∧DX N D w0 F G0 G L' T l (pr b k) (eZ S i) a' w') [o] a w) 0 l)
  (ajl:∀ o b k S a w G1,l[m1]?=some o→S m1=false→(∀ j∈bY.getD m1 [],S j=true)→(∀ k o,G k=some o→G1 k=some o)→St N D w0 F G0 G1 L T a w→(∀ i d,i≠m1→S i=true→eH l i=some d→∃ v,a.tmps[d]?=some v∧pr b k i v G1) →
   WL r P l.toArray (fun e a' w'=>e=.normal∧DX N D w0 F G0 G L2 T l (pr b k) (eZ S m1) a' w') [o] a w)
  (ajm:∀ o k S a w G1,l[m2]?=some o→S m2=false→(∀ j∈bY.getD m2 [],S j=true)→(∀ k o,G k=some o→G1 k=some o)→St N D w0 F G0 G1 L2 T a w→(∀ b i d,i≠m2→S i=true→eH l i=some d→∃ v,a.tmps[d]?=some v∧pr b k i v G1) →
   WL r P l.toArray (fun e a' w'=>e=.normal∧∃ b,DX N D w0 F G0 G ((b,ob) :: L2) T l (pr b k) (eZ S m2) a' w') [o] a w)
  (ajn:∀ o b S a w G1,l[m3]?=some o→S m3=false→(∀ j∈bY.getD m3 [],S j=true)→(∀ k o,G k=some o→G1 k=some o)→St N D w0 F G0 G1 ((b,ob) :: L2) T a w→(∀ k i d,i≠m3→S i=true→eH l i=some d→∃ v,a.tmps[d]?=some v∧pr b k i v G1) →
   WL r P l.toArray (fun e a' w'=>e=.normal∧∃ k,DX N D w0 F G0 G (L3 b k) T l (pr b k) (eZ S m3) a' w') [o] a w)
  (hend:∀ b k a w G1,(∀ k o,G k=some o→G1 k=some o)→St N D w0 F G0 G1 (L3 b k) T a w→(∀ i d,B.contains i=false→eH l i=some d→∃ v,a.tmps[d]?=some v∧pr b k i v G1)→WL r P l.toArray (fun e a w=>e=.normal∧Q .normal a w) (qd l B) a w)
  (Me:Nat.blt m2 l.length=true) (RH:Nat.blt m3 l.length=true):WP r P (.region id l.toArray true) Q a w:=by
 have ZA:m1≠m2:=fun e=>by subst e;rw [Nat.beq_refl] at hne;cases hne
 have ZC:m2≠m3:=fun e=>by subst e;rw [Nat.beq_refl] at Yi;cases Yi
 have ZB:m1≠m3:=fun e=>by subst e;rw [Nat.beq_refl] at hne1;cases hne1
 refine OU hm bY B hk hB (fun S a w=>(S m2=true→S m1=true)∧(S m3=true→S m2=true)∧∃ b k L',L'=(bif S m3 then L3 b k else bif S m2 then (b,ob) :: L2 else bif S m1 then L2 else L)∧DX N D w0 F G0 G L' T l (pr b k) S a w)
  ⟨fun h=>h,fun h=>h,0,k0,L,rfl,G,fun _ _ h=>h,H.move H.hp.drew,fun _ _ h=>absurd (show false=true from h) (by decide)⟩ ?_ ?_
 ·rintro i o S a w ho hb bT nM hdesc ⟨ajw,ajx,b,k,L',hL,G1,hG,HS,hv⟩
  have hsub:∀ x,x∈C→x∈L':=fun x hx=>by
   rw [hL]
   cases S m3 with
   | true=>exact hC3 b k x hx
   | false=>cases S m2 with
    | true=>exact gL _ (hC2 x hx)
    | false=>cases S m1 with
     | true=>exact hC2 x hx
     | false=>exact hC x hx
  have hno:∀ j,j < l.length→S j=true→(bY.getD j []).contains i=false:=fun j hjl hj=>by
   cases hc:(bY.getD j []).contains i with
   | false=>rfl
   | true =>
    have:=hdesc j hjl (by simpa using hc)
    rw [this] at hj;cases hj
  by_cases h1:i=m1
  ·subst h1
   have hS2:S m2=false:=hdesc m2 (Eq.mp Nat.blt_eq Me) (by simpa using h12)
   have FH:S m3=false:=hdesc m3 (Eq.mp Nat.blt_eq RH) (by simpa using mX)
   rw [FH,hS2,bT] at hL
   subst hL
   have h:=ajl o b k S a w G1 ho bT nM hG HS fun j d hj hSj hd=>hv j d hSj hd
   have e2:eZ S i m2=S m2:=ah (fun e=>ZA e.symm)
   have e3:eZ S i m3=S m3:=ah (fun e=>ZB e.symm)
   refine rZ (fun e a' w' ⟨he,hD⟩=>⟨he,fun _=>ay rfl,fun h=>(by rw [e3,FH] at h;cases h),b,k,_,?_,hD⟩) h
   rw [show eZ S i i=true from ay rfl,e2,e3,hS2,FH]
   rfl
  ·by_cases h2:i=m2
   ·subst h2
    have hS1:S m1=true:=nM m1 (by simpa using h12)
    have FH:S m3=false:=hdesc m3 (Eq.mp Nat.blt_eq RH) (by simpa using h23)
    rw [FH,bT,hS1] at hL
    subst hL
    have e1:eZ S i m1=S m1:=ah ZA
    have e3:eZ S i m3=S m3:=ah (fun e=>ZC e.symm)
    have h:=ajm o k S a w G1 ho bT nM hG HS fun b' j d hj hSj hd=>by
     obtain ⟨v,hv1,hv2⟩:=hv j d hSj hd
     exact ⟨v,hv1,ajA b b' k j v _ (Ap hj) (hno j (yw hd) hSj) hv2⟩
    refine rZ (fun e a' w' ⟨he,b',hD⟩=>⟨he,fun _=>by rw [e1];exact hS1,fun _=>ay rfl,b',k,_,?_,hD⟩) h
    rw [show eZ S i i=true from ay rfl,e3,FH];rfl
   ·by_cases h3:i=m3
    ·subst h3
     have hS1:S m1=true:=nM m1 (by simpa using mX)
     have hS2:S m2=true:=nM m2 (by simpa using h23)
     rw [bT,hS2] at hL
     subst hL
     have e1:eZ S i m1=S m1:=ah ZB
     have e2:eZ S i m2=S m2:=ah ZC
     have h:=ajn o b S a w G1 ho bT nM hG HS fun k' j d hj hSj hd=>by
      obtain ⟨v,hv1,hv2⟩:=hv j d hSj hd
      exact ⟨v,hv1,ajB b k k' j v _ (Ap hj) (hno j (yw hd) hSj) hv2⟩
     refine rZ (fun e a' w' ⟨he,k',hD⟩=>⟨he,fun _=>by rw [e1];exact hS1,fun _=>by rw [e2];exact hS2,b,k',_,?_,hD⟩) h
     rw [show eZ S i i=true from ay rfl];rfl
    ·have h:=Fa hstep i o ho
     rw [fQ] at h
     have e1:eZ S i m1=S m1:=ah (fun e=>h1 e.symm)
     have e2:eZ S i m2=S m2:=ah (fun e=>h2 e.symm)
     have e3:eZ S i m3=S m3:=ah (fun e=>h3 e.symm)
     refine rZ (fun e a' w' ⟨he,hD⟩=>⟨he,by rw [e1,e2];exact ajw,by rw [e2,e3];exact ajx,b,k,L',?_,hD⟩) (h b k L' S a w G1 hsub hb (Ap h1) (Ap h2) (Ap h3) bT nM hG HS hv)
     rw [e1,e2,e3];exact hL
 ·rintro S a w hall Yh ⟨_,_,b,k,L',hL,G1,hG,HS,hv⟩
  have hs3:S m3=true:=hall m3 (Eq.mp Nat.blt_eq RH) ajk
  rw [hs3] at hL
  subst hL
  exact hend b k a w G1 hG HS fun j d hb hd=>hv j d (hall j (yw hd) hb) hd
end
theorem aoV {z:Int} (h1:0≤z) (h2:z < 256):IntKind.u8.wrap z=z:=by
 simp only [IntKind.wrap,IntKind.bits,IntKind.signed,uH,DI,if_false]
 omega
section
variable {N:Nat} {D:List Deferred} {w0:World} {F:Nat→Prop} {G0 G:GH} {L:OL} {T:List (Nat × aj)}
variable {r:Option Nat} {P:Program} {ops:Array Oper} {Q:Exit→Act→World→Prop} {rest:List Oper} {a:Act} {w:World}
variable {d:Nat} {ty:TypeId} {pos:String} {aK:Array Edge} {g:Option (Nat × Bool)}
theorem anE {x y:Operand} {t yt:TypeId} {p q:Int} (H:St N D w0 F G0 G L T a w) (hw:Region.wanted ⟨some d,.binOp .sub t x y yt,ty,pos,aK,g⟩ (yielded ops a.tmps)=true) (hx:ev T x=some (.int .u8 p)) (hy:ev T y=some (.int .u8 q)) (h1:0≤p - q) (h2:p - q < 256) (hd:Nat.blt d N=true)
  (k:∀ a',St N D w0 F G0 G L ((d,.int .u8 (p - q)) :: T) a' w→WL r P ops Q rest a' w):WL r P ops Q (⟨some d,.binOp .sub t x y yt,ty,pos,aK,g⟩ :: rest) a w :=
 fq (v:=.int .u8 (p - q)) (w':=w) hw rfl (by simp [execOp,eqGuard,binOp,Op.intArith,H.ev hx,H.ev hy,dM,aoV h1 h2]) (k _ (H.put hd _ H.hp))
end
end
section
open Go.RowKit
section
variable {N:Nat} {D:List Deferred} {w0:World} {F:Nat→Prop} {G0 G G1 G2:GH} {L L1 L2:OL} {T Xs:List (Nat × aj)}
variable {r:Option Nat} {P:Program} {Q:Exit→Act→World→Prop} {l:List Oper} {a a':Act} {w w':World}
theorem acQ {id:Nat} {κ:Type} (k0:κ) (Lf:κ→OL) (hm:P.follows .mixedOrders=true) (bY:List (List Nat)) (B:List Nat) (hk:Aw l bY=true) (hB:yS l bY B=true) (pr:Nat→aj→GH→Prop)
  (H:St N D w0 F G0 G (Lf k0) T a w)
  (hstep:allI (fun i o=>∀ k S a w G1,B.contains i=false→S i=false→(∀ j∈bY.getD i [],S j=true)→(∀ k o,G k=some o→G1 k=some o)→St N D w0 F G0 G1 (Lf k) T a w→(∀ i d,S i=true→eH l i=some d→∃ v,a.tmps[d]?=some v∧pr i v G1) →
   WL r P l.toArray (fun e a' w'=>e=.normal∧∃ k',DX N D w0 F G0 G (Lf k') T l pr (eZ S i) a' w') [o] a w) 0 l)
  (hend:∀ k a w G1,(∀ k o,G k=some o→G1 k=some o)→St N D w0 F G0 G1 (Lf k) T a w→(∀ i d,B.contains i=false→eH l i=some d→∃ v,a.tmps[d]?=some v∧pr i v G1)→WL r P l.toArray (fun e a w=>e=.normal∧Q .normal a w) (qd l B) a w):WP r P (.region id l.toArray true) Q a w:=by
 refine OU hm bY B hk hB (fun S a w=>∃ k,DX N D w0 F G0 G (Lf k) T l pr S a w) ⟨k0,G,fun _ _ h=>h,H.move H.hp.drew,fun _ _ h=>absurd (show false=true from h) (by decide)⟩ ?_ ?_
 ·rintro i o S a w ho hb bT nM - ⟨k,G1,hG,HS,hv⟩
  have h:=Fa hstep i o ho
  rw [fQ] at h
  exact h k S a w G1 hb bT nM hG HS hv
 ·rintro S a w hall Yh ⟨k,G1,hG,HS,hv⟩
  exact hend k a w G1 hG HS fun j d hb hd=>hv j d (hall j (yw hd) hb) hd
theorem zN {κ:Type} {Lf:κ→OL} {bY:List (List Nat)} {B:List Nat} {pr:Nat→aj→GH→Prop} {i:Nat} {o:Oper}
  (h:∀ k,(∀ S a w G1,B.contains i=false→S i=false→(∀ j∈bY.getD i [],S j=true)→(∀ k o,G k=some o→G1 k=some o)→St N D w0 F G0 G1 (Lf k) T a w→(∀ i d,S i=true→eH l i=some d→∃ v,a.tmps[d]?=some v∧pr i v G1) →
   WL r P l.toArray (fun e a' w'=>e=.normal∧DX N D w0 F G0 G (Lf k) T l pr (eZ S i) a' w') [o] a w)) :
  ∀ k S a w G1,B.contains i=false→S i=false→(∀ j∈bY.getD i [],S j=true)→(∀ k o,G k=some o→G1 k=some o)→St N D w0 F G0 G1 (Lf k) T a w→(∀ i d,S i=true→eH l i=some d→∃ v,a.tmps[d]?=some v∧pr i v G1) →
   WL r P l.toArray (fun e a' w'=>e=.normal∧∃ k',DX N D w0 F G0 G (Lf k') T l pr (eZ S i) a' w') [o] a w :=
 fun k S a w G1 h1 h2 h3 h4 h5 h6=>rZ (fun _ _ _ ⟨e,hd⟩=>⟨e,k,hd⟩) (h k S a w G1 h1 h2 h3 h4 h5 h6)
end
end
section
abbrev aD (b o : Nat) : Value := .pointer (some ⟨b, o, none⟩)
end
end Go.Proofs.YthmanofbmnfemaaGreat
