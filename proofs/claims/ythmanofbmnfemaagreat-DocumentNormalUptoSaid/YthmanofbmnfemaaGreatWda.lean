/-
  What the claim stands on, part 1: Lg Op Oq Cb Rep Dr Sq Sg Row Dy Bd Cp.
-/
import Derived.Test.YthmanofbmnfemaaGreatProg
import Derived.CallsIn
import Derived.TacticsIn
import Derived.RangeFuncIn
import Derived.RangeFuncLeaves
import Derived.RangeFuncRecord
import Derived.Below
import Derived.KernelRfl
import Derived.Maps.AppendAt
import Derived.IntWalk
import Derived.OrdersIn
import Derived.Lib.Builder
import Derived.Lib.UnsafeStr
import Derived.Lib.AppendStr
import Derived.Laws.Externs
import Derived.Test.YthmanofbmnfemaaGreatRows
namespace Go.Proofs.YthmanofbmnfemaaGreat
open Go.Proofs.Tryz
section
theorem ah.{u}:∀ {c:Prop} {h:Decidable c},¬c→∀ {α:Sort u} {t e:α},(if c then t else e)=e:=@if_neg
theorem au.{u}:∀ {c:Prop} {h:Decidable c},c→∀ {α:Sort u} {t e:α},(if c then t else e)=t:=@if_pos
theorem aB.{u,v}:∀ {α:Sort u} {β:Sort v} {a₁ a₂:α} (f:α→β),a₁=a₂→f a₁=f a₂:=@congrArg
theorem aY:True:=trivial
theorem bE.{u_1,u_2}:∀ {α:Type u_1} {β:Type u_2} {xs:List α} (f:α→β),List.length (List.map f xs)=List.length xs:=@List.length_map
theorem bX:∀ (n:Nat),n≤n:=@Nat.le_refl
theorem bZ.{u_1}:∀ {α:Type u_1} (l:List α),List.Sublist l l:=@List.Sublist.refl
theorem dR.{u,v}:∀ {α:Type u} {β:Type v} {f:α→β} {a:α} {l:List α},List.map f (a :: l)=f a :: List.map f l:=@List.map_cons
theorem dV.{u_1}:∀ {α:Type u_1} {l:List α} {i:Nat} (h:i < List.length l),l[i]?=some l[i]:=@List.getElem?_eq_getElem
theorem dX:∀ {α β:Type} (P:Go.Program) (w:Go.World) (x:Go.Sem α) (f:α→Go.Sem β),   Go.Sem.run P (x >>= f) w=Go.Result.andThen (Go.Sem.run P x w) fun a w'=>Go.Sem.run P (f a) w':=@Go.Sem.run_bind
theorem eG:∀ (n:Nat),0≤n:=@Nat.zero_le
theorem eX.{u_1}:∀ {α:Type u_1} {i:Nat} {l:List α},List.length l≤i→List.drop i l=[]:=@List.drop_of_length_le
theorem eZ:∀ {p:Prop} [inst:Decidable p],p→decide p=true:=@decide_eq_true
theorem fD:∀ {p:Prop} [Decidable p],¬¬p↔p:=@Decidable.not_not
theorem fT.{u}:∀ {α:Type u} (xs bs cs:List α),xs++bs++cs=xs++(bs++cs):=@List.append_assoc
theorem gD:∀ {p:Prop} [inst:Decidable p],¬p→decide p=false:=@decide_eq_false
theorem gI.{u_1}:∀ {α:Type u_1} {i:Nat} {l:List α} (h:i < List.length l),List.take (i+1) l=List.take i l++[l[i]]:=@List.take_succ_eq_append_getElem
theorem gP.{u_1}:∀ {α:Type u_1} {a:α} {l:List α},a∈a :: l:=@List.mem_cons_self
theorem gX:∀ (n:Nat),0+n=n:=@Nat.zero_add
theorem iq.{u_1}:∀ {α:Type u_1} {l:List α} {n:Nat} (h:n < List.length l),l[n]∈l:=@List.getElem_mem
theorem iB.{u,v}:∀ {α:Type u} {β:Type v} (fst:α) (snd:β) (abn:α) (afj:β),   ((fst,snd)=(abn,afj))=(fst=abn∧snd=afj):=@Prod.mk.injEq
theorem iL.{u_1}:∀ {α:Type u_1} {i:Nat} {l:List α},List.length l≤i→List.take i l=l:=@List.take_of_length_le
theorem jc.{u}:∀ {α:Type u} {xs bs:List α},List.length (xs++bs)=List.length xs+List.length bs:=@List.length_append
theorem jr.{u_1}:∀ {α:Type u_1} {i:Nat} {a:α} {l:List α},l[i]?=some a↔∃ h,l[i]=a:=@List.getElem?_eq_some_iff
theorem jv.{u}:∀ {α:Type u} (xs:List α),[]++xs=xs:=@List.nil_append
theorem jy.{u_1}:∀ {α:Type u_1} {i:Nat} {l:List α} (h:i < List.length l),List.drop i l=l[i] :: List.drop (i+1) l:=@List.drop_eq_getElem_cons
theorem jS.{u}:∀ {α:Type u} {a:α} {xs:List α},List.length (a :: xs)=List.length xs+1:=@List.length_cons
theorem jT.{u_1}:∀ {α:Type u_1} (y:α) {a:α} {l:List α},a∈l→a∈y :: l:=@List.mem_cons_of_mem
theorem kr.{u}:∀ {α:Type u} {a:α} {xs bs:List α},a :: xs++bs=a :: (xs++bs):=@List.cons_append
theorem kZ.{u_1}:∀ {α:Type u_1} {b:α} {l:List α} {a:α},a∈b :: l↔a=b∨a∈l:=@List.mem_cons
theorem lg.{u_1,u_2}:∀ {α:Type u_1} {β:Type u_2} {f:α→β} {l₁ l₂:List α},List.map f (l₁++l₂)=List.map f l₁++List.map f l₂:=@List.map_append
theorem lq:∀ {a b:Bool},a=b↔(a=true↔b=true):=@Bool.eq_iff_iff
theorem lD.{u}:∀ {α:Type u} (xs:List α),xs++[]=xs:=@List.append_nil
theorem lM:(false=true)=False:=@Bool.false_eq_true
theorem lN:∀ {p:Prop} [inst:Decidable p],(decide p=true)=p:=@decide_eq_true_eq
theorem lQ:∀ {p:Prop} [inst:Decidable p],decide p=true→p:=@of_decide_eq_true
theorem mg.{u_1}:∀ {α:Type u_1} {l:List α} {i:Nat} {a:α},l[i]?=some a→a∈l:=@List.mem_of_getElem?
theorem mM:∀ {α β:Type} (a:α) (w:Go.World) (f:α→Go.World→Go.Result β),Go.Result.andThen (Go.Result.ok a w) f=f a w:=@Go.Result.andThen_ok
theorem mO:∀ (n:Nat),n+0=n:=@Nat.add_zero
theorem mZ.{u_1}:∀ {α:Type u_1} {p:α→Bool} {l:List α},List.all l p=true↔∀ (x:α),x∈l→p x=true:=@List.all_eq_true
theorem ng.{u_1}:∀ {α:Type u_1} {a:α} {s t:List α},a∈s++t↔a∈s∨a∈t:=@List.mem_append
theorem nk:∀ (a b:Bool),((a && b)=true)=(a=true∧b=true):=@Bool.and_eq_true
theorem nQ.{u}:∀ {α:Type u} (val afZ:α),(some val=some afZ)=(val=afZ):=@Option.some.injEq
theorem om.{u_1,u_2}:∀ {α:Type u_1} {β:Type u_2} {f:α→β} {l:List α} {i:Nat},(List.map f l)[i]?=Option.map f l[i]?:=@List.getElem?_map
theorem oO.{u_1,u_2}:∀ {α:Type u_1} {b:α} {agE:Type u_2} {x:Option agE} {f:agE→α},   Option.map f x=some b↔∃ a,x=some a∧f a=b:=@Option.map_eq_some_iff
theorem oP:∀ {p:Prop} {x:Decidable p},decide p=false↔¬p:=@decide_eq_false_iff_not
theorem qO.{u_1}:∀ {α:Type u_1} {a b:α},a∈[b]↔a=b:=@List.mem_singleton
theorem tX:∀ {α:Type} (P:Go.Program) (w:Go.World) (a:α),Go.Sem.run P (pure a) w=Go.Result.ok a w:=@Go.Sem.run_pure
theorem tY:∀ (b:Bool),(true && b)=b:=@Bool.true_and
theorem tZ.{u_1}:∀ {α:Type u_1} {l₁ l₂:List α} {i:Nat},List.length l₁≤i→(l₁++l₂)[i]?=l₂[i - List.length l₁]?:=@List.getElem?_append_right
theorem uf:∀ (b:Bool),(false && b)=false:=@Bool.false_and
theorem ug:∀ (b:Bool),((!b)=true)=(b=false):=@Bool.not_eq_true'
theorem vw:∀ {m n:Nat},m∈List.range n↔m < n:=@List.mem_range
theorem vB.{u,v}:∀ {α:Type u} {β:Type v} {f:α→β},List.map f []=[]:=@List.map_nil
theorem wJ.{u_1}:∀ {α:Type u_1} {xs:Array α},List.length xs.toList=Array.size xs:=@Array.length_toList
theorem wK.{u_1}:∀ {α:Type u_1} {l₁ l₂:List α},List.Perm (l₁++l₂) (l₂++l₁):=@List.perm_append_comm
theorem wL.{u_1}:∀ {α:Type u_1} {l:List α},List.take (List.length l) l=l:=@List.take_length
theorem xQ.{u_1}:∀ {α:Type u_1} {l:List α} {i j:Nat},(List.take i l)[j]?=if j < i then l[j]? else none:=@List.getElem?_take
theorem yQ.{u_1}:∀ {α:Type u_1} {l₁ l₂:List α} {i:Nat},i < List.length l₁→(l₁++l₂)[i]?=l₁[i]?:=@List.getElem?_append_left
theorem Ap.{u}:∀ {α:Type u} {R:α→α→Prop} {a:α} {l:List α},   List.Pairwise R (a :: l)↔(∀ (a':α),a'∈l→R a a')∧List.Pairwise R l:=@List.pairwise_cons
theorem Aq.{u_1}:∀ {α:Type u_1} [inst:BEq α] [LawfulBEq α] {a:α} {xs:List α},List.contains xs a=true↔a∈xs:=@List.contains_iff_mem
theorem BN.{u_1}:∀ {α:Type u_1} {a:α} {l:List α},(a :: l)[0]?=some a:=@List.getElem?_cons_zero
theorem BO.{u_1}:∀ {α:Type u_1} (a:α) (l:List α),List.Sublist l (a :: l):=@List.sublist_cons_self
theorem BP.{u_1,u_2}:∀ {α:Type u_1} {β:Type u_2} (a:α) (f:α→β),Option.map f (some a)=some (f a):=@Option.map_some
theorem Dg:∀ {n m:Nat},Nat.beq n m=true→n=m:=@Nat.eq_of_beq_eq_true
theorem Dh:∀ (n m:Nat),n+m - n=m:=@Nat.add_sub_cancel_left
theorem GI.{u}:∀ {α:Type u} {l:List α},List.drop 0 l=l:=@List.drop_zero
abbrev ak := Value
theorem dJ {a b:Bool} (h:a=b):Value.bool a=Value.bool b:=congrArg _ h
end
set_option maxRecDepth 20000
set_option maxHeartbeats 4000000
section
open Go.RowKit
def FW (r:Option Nat):Fence:={ Fence.wide with round:=r }
theorem NZ (r:Option Nat):(FW r).depth.isSome=true→1≤(0:Nat):=by intro h;cases h
abbrev WP (r:Option Nat) (P:Program) (c:Code) (Q:Exit→Act→World→Prop) (a:Act) (w:World):Prop:=c.wpIn (FW r) 0 P Q a w
abbrev WL (r:Option Nat) (P:Program) (ops:Array Oper) (Q:Exit→Act→World→Prop) (l:List Oper) (a:Act) (w:World):Prop:=wpListIn (FW r) 0 P ops Q l a w
theorem Tn {r:Option Nat} {n:Nat} {P:Program} {f:FuncId} {args:Array ak} {w:World} {R:Ending→World→Prop} (h:Calls P f args w R):CallsIn (FW r) n P f args w R:=callsIn_wide.2 h
theorem ahB {r:Option Nat} {n:Nat} {P:Program} {f:FuncId} {args:Array ak} {w:World} {R:Ending→World→Prop} (h:CallsIn (FW r) n P f args w R):Calls P f args w R:=callsIn_wide.1 h
def lk:List (Nat × ak)→Nat→Option ak
 | [],_=>none
 | (s,v) :: r,t=>bif Nat.beq s t then some v else lk r t
theorem yF (t:Nat) (v:ak) (T:List (Nat × ak)):lk ((t,v) :: T) t=some v:=by simp [lk]
theorem xw {s t:Nat} (h:s≠t) (v:ak) (T:List (Nat × ak)):lk ((s,v) :: T) t=lk T t:=by
 have:Nat.beq s t=false:=by
  cases h':Nat.beq s t with
  | false=>rfl
  | true=>exact absurd (Dg h') h
 simp [lk,this]
def ev (T:List (Nat × ak)):Operand→Option ak
 | .tmp t=>lk T t
 | .const v=>some v
 | .global g=>some (.pointer (some ⟨g,0,none⟩))
 | .func f=>some (.func (.func f) #[] #[])
def evs (T:List (Nat × ak)):List Operand→Option (List ak)
 | []=>some []
 | x :: r=>match ev T x,evs T r with|some v,some vs=>some (v :: vs)|_,_=>none
abbrev GH:=Nat→Option Obj
structure Hp (w0:World) (F:Nat→Prop) (G0 G:GH) (L:List (Nat × Obj)) (w:World):Prop where
 os:w.os=w0.os
 tape:w.tape=w0.tape
 output:w.output=w0.output
 size:w0.heap.size≤w.heap.size
 wR:∀ k,F k→k < w0.heap.size
 fr:∀ k,F k→w.heap[k]?=w0.heap[k]?
 ro:∀ k o,G k=some o→w.heap[k]?=some o
 gm:∀ k o,G0 k=some o→G k=some o
 gx:∀ k o,G k=some o→G0 k=some o∨¬ F k
 own:∀ p∈L,w.heap[p.1]?=some p.2
 uU:∀ p∈L,G p.1=none
 uT:∀ p∈L,¬ F p.1
 nd:L.Pairwise fun p q=>p.1≠q.1
structure St (N:Nat) (D:List Deferred) (w0:World) (F:Nat→Prop) (G0 G:GH) (L:List (Nat × Obj)) (T:List (Nat × ak)) (a:Act) (w:World):Prop where
 nu:a.tmps.size=N
 get:∀ t v,lk T t=some v→a.tmps[t]?=some v
 uz:a.defers=D
 hp:Hp w0 F G0 G L w
theorem lt_of_heap {w:World} {k:Nat} {o:Obj} (h:w.heap[k]?=some o):k < w.heap.size:=(Array.getElem?_eq_some_iff.1 h).1
structure xP (b:Nat) (o:Obj) (w w':World):Prop where
 os:w'.os=w.os
 tape:w'.tape=w.tape
 output:w'.output=w.output
 size:w'.heap.size=w.heap.size
 this:w'.heap[b]?=some o
 others:∀ k,k≠b→w'.heap[k]?=w.heap[k]?
section
variable {N:Nat} {D:List Deferred} {w0 w w':World} {F:Nat→Prop} {G0 G G':GH} {L L':List (Nat × Obj)} {T:List (Nat × ak)} {a:Act} {b:Nat} {o o':Obj}
theorem Hp.lt (h:Hp w0 F G0 G L w) {p:Nat × Obj} (hp:p∈L):p.1 < w.heap.size:=lt_of_heap (h.own p hp)
theorem Hp.alloc (h:Hp w0 F G0 G L w) (o:Obj):Hp w0 F G0 G ((w.heap.size,o) :: L) (w.alloc o):=by
 have hold:∀ k,k < w.heap.size→(w.alloc o).heap[k]?=w.heap[k]?:=fun k hk=>Below.heap_alloc w o k hk
 refine ⟨h.os,h.tape,h.output,by simp;exact Nat.le_succ_of_le h.size,h.wR,fun k hk=>(hold k (Nat.lt_of_lt_of_le (h.wR k hk) h.size)).trans (h.fr k hk),fun k o' hk=>(hold k (lt_of_heap (h.ro k o' hk))).trans (h.ro k o' hk),h.gm,h.gx,?_,?_,?_,?_⟩
 ·intro p hp
  rcases kZ.1 hp with rfl|hp
  ·show (w.heap.push o)[w.heap.size]?=some o;simp
  ·exact (hold _ (h.lt hp)).trans (h.own p hp)
 ·intro p hp
  rcases kZ.1 hp with rfl|hp
  ·cases hg:G w.heap.size with
   | none=>rfl
   | some o'=>exact absurd (lt_of_heap (h.ro _ _ hg)) (Nat.lt_irrefl _)
  ·exact h.uU p hp
 ·intro p hp
  rcases kZ.1 hp with rfl|hp
  ·intro hf;exact absurd (Nat.lt_of_lt_of_le (h.wR _ hf) h.size) (Nat.lt_irrefl _)
  ·exact h.uT p hp
 ·refine Ap.2 ⟨fun q hq=>?_,h.nd⟩
  have:=h.lt hq
  simp only;omega
theorem Hp.below (h:Hp w0 F G0 G L w) (hb:Below w.heap.size w w'):Hp w0 F G0 G L w':=by
 refine ⟨hb.os.trans h.os,hb.tape.trans h.tape,hb.output.trans h.output,Nat.le_trans h.size hb.size,h.wR,fun k hk=>(hb.block k (Nat.lt_of_lt_of_le (h.wR k hk) h.size)).trans (h.fr k hk),fun k o hk=>(hb.block k (lt_of_heap (h.ro k o hk))).trans (h.ro k o hk),h.gm,h.gx,fun p hp=>(hb.block _ (h.lt hp)).trans (h.own p hp),h.uU,h.uT,h.nd⟩
def Ext (n1:Nat) (G G':GH) (w':World):Prop:=(∀ k o,G k=some o→G' k=some o)∧(∀ k o,G' k=some o→G k=some o∨n1≤k)∧(∀ k o,G' k=some o→w'.heap[k]?=some o)
theorem Hp.Zn (h:Hp w0 F G0 G L w) (hb:Below w.heap.size w w') (hx:Ext w.heap.size G G' w'):Hp w0 F G0 G' L w':=by
 have h':=h.below hb
 refine ⟨h'.os,h'.tape,h'.output,h'.size,h'.wR,h'.fr,hx.2.2,fun k o hk=>hx.1 k o (h.gm k o hk),fun k o hk=>?_,h'.own,fun p hp=>?_,h'.uT,h'.nd⟩
 ·rcases hx.2.1 k o hk with hk|hk
  ·exact h.gx k o hk
  ·exact .inr fun hf=>absurd (Nat.lt_of_lt_of_le (h.wR k hf) h.size) (by omega)
 ·cases hg:G' p.1 with
  | none=>rfl
  | some o =>
   rcases hx.2.1 _ _ hg with hk|hk
   ·rw [h.uU p hp] at hk;cases hk
   ·exact absurd (h.lt hp) (by omega)
theorem Xj:∀ {L:List (Nat × Obj)} {i b:Nat} {o o':Obj},L.Pairwise (fun p q=>p.1≠q.1)→L[i]?=some (b,o)→(L.set i (b,o')).Pairwise fun p q=>p.1≠q.1
 | [],_,_,_,_,h,_=>h
 | p :: L,0,b,o,o',h,hi=>by
  simp only [BN,nQ] at hi
  subst hi
  exact Ap.2 ⟨(Ap.1 h).1,(Ap.1 h).2⟩
 | p :: L,i+1,b,o,o',h,hi=>by
  simp only [List.getElem?_cons_succ] at hi
  refine Ap.2 ⟨fun q hq=>?_,Xj (Ap.1 h).2 hi⟩
  rcases List.mem_or_eq_of_mem_set hq with hq|rfl
  ·exact (Ap.1 h).1 q hq
  ·exact (Ap.1 h).1 (b,o) (mg hi)
theorem WK:∀ {L:List (Nat × Obj)} {i:Nat} {p q:Nat × Obj},L.Pairwise (fun p q=>p.1≠q.1)→L[i]?=some p→q∈L→q.1=p.1→q=p
 | [],_,_,_,_,h,_,_=>by simp at h
 | x :: L,0,p,q,h,hi,hq,e=>by
  simp only [BN,nQ] at hi
  subst hi
  rcases kZ.1 hq with rfl|hq
  ·rfl
  ·exact absurd e.symm ((Ap.1 h).1 q hq)
 | x :: L,i+1,p,q,h,hi,hq,e=>by
  simp only [List.getElem?_cons_succ] at hi
  rcases kZ.1 hq with rfl|hq
  ·exact absurd e ((Ap.1 h).1 p (mg hi))
  ·exact WK (Ap.1 h).2 hi hq e
theorem Hp.upd (h:Hp w0 F G0 G L w) {i:Nat} (hi:L[i]?=some (b,o)) (hu:xP b o' w w'):Hp w0 F G0 G (L.set i (b,o')) w':=by
 have hm:(b,o)∈L:=mg hi
 refine ⟨hu.os.trans h.os,hu.tape.trans h.tape,hu.output.trans h.output,hu.size ▸ h.size,h.wR,fun k hk=>?_,fun k o hk=>?_,h.gm,h.gx,fun p hp=>?_,fun p hp=>?_,fun p hp=>?_,Xj h.nd hi⟩
 ·exact (hu.others k (fun e=>h.uT _ hm (e ▸ hk))).trans (h.fr k hk)
 ·refine (hu.others k (fun e=>?_)).trans (h.ro k o hk)
  have:=h.uU _ hm
  rw [← e,hk] at this;cases this
 ·by_cases e:p.1=b
  ·rcases List.mem_or_eq_of_mem_set hp with hp'|rfl
   ·obtain ⟨j,hj⟩:=List.getElem?_of_mem hp
    have hib:i < L.length:=(jr.1 hi).1
    have hset:(L.set i (b,o'))[i]?=some (b,o'):=by simp [hib]
    have:=WK (Xj (o':=o') h.nd hi) hset hp e
    rw [this];exact hu.this
   ·exact hu.this
  ·rcases List.mem_or_eq_of_mem_set hp with hp|rfl
   ·exact (hu.others _ e).trans (h.own p hp)
   ·exact absurd rfl e
 ·rcases List.mem_or_eq_of_mem_set hp with hp|rfl
  ·exact h.uU p hp
  ·exact (h.uU (b,o) hm:G b=none)
 ·rcases List.mem_or_eq_of_mem_set hp with hp|rfl
  ·exact h.uT p hp
  ·exact (h.uT (b,o) hm:¬ F b)
theorem Hp.drew (h:Hp w0 F G0 G L w):Hp w0 F G0 G L w.drew:=⟨h.os,h.tape,h.output,h.size,h.wR,h.fr,h.ro,h.gm,h.gx,h.own,h.uU,h.uT,h.nd⟩
theorem Hp.drop (h:Hp w0 F G0 G L w) (hs:L'.Sublist L):Hp w0 F G0 G L' w:=⟨h.os,h.tape,h.output,h.size,h.wR,h.fr,h.ro,h.gm,h.gx,fun p hp=>h.own p (hs.subset hp),fun p hp=>h.uU p (hs.subset hp),fun p hp=>h.uT p (hs.subset hp),h.nd.sublist hs⟩
theorem Hp.bY {Pl bT Lo:List (Nat × Obj)} (h:Hp w0 F G0 G (Pl++Lo) w) (idx:List Nat) (hi:idx.Nodup) (hL:idx.map (fun i=>Pl[i]?)=bT.map some):Hp w0 F G0 G (bT++Lo) w:=by
 have hget:∀ (j:Nat) (p:Nat × Obj),bT[j]?=some p→∃ i:Nat,idx[j]?=some i∧Pl[i]?=some p:=by
  intro j p hp
  have h1:(idx.map (fun i=>Pl[i]?))[j]?=some (some p):=by rw [hL];simp [hp]
  rw [om] at h1
  obtain ⟨i,hi1,hi2⟩:=oO.1 h1
  exact ⟨i,hi1,hi2⟩
 have hmem:∀ p∈bT++Lo,p∈Pl++Lo:=by
  intro p hp
  rcases ng.1 hp with hp|hp
  ·obtain ⟨j,hj⟩:=List.getElem?_of_mem hp
   obtain ⟨i,_,hi2⟩:=hget j p hj
   exact List.mem_append_left _ (mg hi2)
  ·exact List.mem_append_right _ hp
 have hnd:=List.pairwise_append.1 h.nd
 refine ⟨h.os,h.tape,h.output,h.size,h.wR,h.fr,h.ro,h.gm,h.gx,fun p hp=>h.own p (hmem p hp),fun p hp=>h.uU p (hmem p hp),fun p hp=>h.uT p (hmem p hp),List.pairwise_append.2 ⟨?_,hnd.2.1,fun p hp q hq=>?_⟩⟩
 ·refine List.pairwise_iff_getElem.2 fun x y hx hy hxy=>?_
  obtain ⟨i,hi1,hi2⟩:=hget x _ (dV hx)
  obtain ⟨j,hj1,hj2⟩:=hget y _ (dV hy)
  have hij:i≠j:=by
   intro e
   subst e
   obtain ⟨hx1,hx2⟩:=jr.1 hi1
   obtain ⟨hy1,hy2⟩:=jr.1 hj1
   exact (List.pairwise_iff_getElem.1 hi x y hx1 hy1 hxy) (by rw [hx2,hy2])
  obtain ⟨hi3,hi4⟩:=jr.1 hi2
  obtain ⟨hj3,hj4⟩:=jr.1 hj2
  rcases Nat.lt_or_ge i j with hlt|hge
  ·rw [← hi4,← hj4];exact List.pairwise_iff_getElem.1 hnd.1 i j hi3 hj3 hlt
  ·rw [← hi4,← hj4];exact Ne.symm (List.pairwise_iff_getElem.1 hnd.1 j i hj3 hi3 (by omega))
 ·obtain ⟨j,hj⟩:=List.getElem?_of_mem hp
  obtain ⟨i,_,hi2⟩:=hget j p hj
  exact hnd.2.2 p (mg hi2) q hq
def GH.add (G:GH) (b:Nat) (o:Obj):GH:=fun k=>if k=b then some o else G k
theorem GH.EG (G:GH) {b:Nat} {o:Obj} (hn:G b=none) (k:Nat) (o':Obj) (h:G k=some o'):(G.add b o) k=some o':=by
 unfold GH.add;rw [ah (fun e=>by subst e;rw [hn] at h;cases h)];exact h
theorem GH.EH (G:GH) (b:Nat) (o:Obj):(G.add b o) b=some o:=by simp [GH.add]
theorem Hp.giveUp (h:Hp w0 F G0 G L w) (i:Nat) (hi:L[i]?=some (b,o)):Hp w0 F G0 (G.add b o) (L.eraseIdx i) w:=by
 have hm:(b,o)∈L:=mg hi
 have hsub:(L.eraseIdx i).Sublist L:=List.eraseIdx_sublist L i
 have hne:∀ p∈L.eraseIdx i,p.1≠b:=by
  intro p hp e
  have h1:=WK h.nd hi (hsub.subset hp) e
  subst h1
  obtain ⟨j,hj,hjp⟩:=List.mem_eraseIdx_iff_getElem?.1 hp
  have hnd:=h.nd
  have hij:j≠i:=hj
  have hlt1:j < L.length:=(jr.1 hjp).1
  have hlt2:i < L.length:=(jr.1 hi).1
  have e1:=(jr.1 hjp).2
  have e2:=(jr.1 hi).2
  rcases Nat.lt_or_ge j i with hlt|hge
  ·exact (List.pairwise_iff_getElem.1 hnd j i hlt1 hlt2 hlt) (by rw [e1,e2])
  ·exact (List.pairwise_iff_getElem.1 hnd i j hlt2 hlt1 (by omega)) (by rw [e1,e2])
 refine ⟨h.os,h.tape,h.output,h.size,h.wR,h.fr,fun k o' hk=>?_,fun k o' hk=>GH.EG G (h.uU _ hm) k o' (h.gm k o' hk),fun k o' hk=>?_,fun p hp=>h.own p (hsub.subset hp),fun p hp=>?_,fun p hp=>h.uT p (hsub.subset hp),h.nd.sublist hsub⟩
 ·unfold GH.add at hk
  split at hk
  ·rename_i e;subst e;cases hk;exact h.own _ hm
  ·exact h.ro k o' hk
 ·unfold GH.add at hk
  split at hk
  ·rename_i e;subst e;exact .inr (h.uT _ hm)
  ·exact h.gx k o' hk
 ·unfold GH.add
  rw [ah (hne p hp)]
  exact h.uU p (hsub.subset hp)
theorem St.ev (h:St N D w0 F G0 G L T a w) {x:Operand} {v:ak} (hx:Proofs.YthmanofbmnfemaaGreat.ev T x=some v):a.eval x=v:=by
 cases x with
 | tmp t =>
  have:=h.get t v hx
  simp only [Act.eval,Array.getD_eq_getD_getElem?,this,Option.getD_some]
 | const u=>simp only [Proofs.YthmanofbmnfemaaGreat.ev,nQ] at hx;subst hx;rfl
 | global g=>simpa [Proofs.YthmanofbmnfemaaGreat.ev,Act.eval] using hx
 | func f=>simpa [Proofs.YthmanofbmnfemaaGreat.ev,Act.eval] using hx
theorem St.evs (h:St N D w0 F G0 G L T a w):∀ {xs:List Operand} {vs:List ak},Proofs.YthmanofbmnfemaaGreat.evs T xs=some vs→xs.map a.eval=vs
 | [],vs,hx=>by simp [Proofs.YthmanofbmnfemaaGreat.evs] at hx;subst hx;rfl
 | x :: xs,vs,hx=>by
  unfold Proofs.YthmanofbmnfemaaGreat.evs at hx
  split at hx
  ·rename_i v vs' h1 h2
   simp only [nQ] at hx
   subst hx
   rw [dR,h.ev h1,h.evs h2]
  ·cases hx
theorem St.put (h:St N D w0 F G0 G L T a w) {d:Nat} (hd:Nat.blt d N=true) (v:ak) (H':Hp w0 F G0 G' L' w'):St N D w0 F G0 G' L' ((d,v) :: T) (a.put (some d) v) w':=by
 have hlt:d < a.tmps.size:=by rw [h.nu];exact Eq.mp Nat.blt_eq hd
 refine ⟨by simp [Act.put,h.nu],fun t u ht=>?_,h.uz,H'⟩
 simp only [Act.put,Array.getElem?_setIfInBounds]
 by_cases e:d=t
 ·subst e
  rw [yF] at ht
  simp [hlt];simpa using ht
 ·rw [xw e] at ht
  simp [e];exact h.get t u ht
theorem St.move (h:St N D w0 F G0 G L T a w) (H':Hp w0 F G0 G' L' w'):St N D w0 F G0 G' L' T a w':=⟨h.nu,h.get,h.uz,H'⟩
def XQ (T:List (Nat × ak)):List (Nat × ak)→Prop
 | []=>True
 | (t,v) :: r=>lk T t=some v∧XQ T r
theorem afx {T:List (Nat × ak)}:∀ {T':List (Nat × ak)},XQ T T'→∀ {t v},lk T' t=some v→lk T t=some v
 | [],_,_,_,h=>by simp [lk] at h
 | (s,u) :: r,hs,t,v,h=>by
  by_cases e:s=t
  ·subst e;rw [yF] at h;exact h ▸ hs.1
  ·rw [xw e] at h;exact afx hs.2 h
theorem St.sub (h:St N D w0 F G0 G L T a w) {T':List (Nat × ak)} (hs:XQ T T'):St N D w0 F G0 G L T' a w:=⟨h.nu,fun t v ht=>h.get t v (afx hs ht),h.uz,h.hp⟩
theorem St.bY {Pl bT Lo:List (Nat × Obj)} (h:St N D w0 F G0 G (Pl++Lo) T a w) (idx:List Nat) (hi:idx.Nodup) (hL:idx.map (fun i=>Pl[i]?)=bT.map some):St N D w0 F G0 G (bT++Lo) T a w:=⟨h.nu,h.get,h.uz,h.hp.bY idx hi hL⟩
end
end
section
open Go.RowKit
section base
variable {r:Option Nat} {P:Program} {ops:Array Oper} {Q:Exit→Act→World→Prop} {rest:List Oper} {a:Act} {w w':World} {o:Oper}
def QY:Op→Bool
 | .defer _=>false
 | _=>true
theorem XH {o:Oper} {ro:Option Nat} {ρ:Operand→ak} (h:QY o.op=true):o.semAt ro ρ=execOp ρ o :=
 Oper.semAt_eq ro ρ o fun c e=>by rw [e] at h;cases h
theorem aI (h:Q .normal a w):WL r P ops Q [] a w:=wpListIn_nil h
theorem Yj (hw:Region.wanted o (yielded ops a.tmps)=true) (h:o.wpIn (FW r) 0 P a w (WL r P ops Q rest) Q):WL r P ops Q (o :: rest) a w:=by
 show wpListIn (FW r) 0 P ops Q (o :: rest) a w
 unfold wpListIn
 rw [au hw]
 exact h
theorem agr (hw:Region.wanted o (yielded ops a.tmps)=false) (h:WL r P ops Q rest (a.put o.dst undef) w):WL r P ops Q (o :: rest) a w:=by
 show wpListIn (FW r) 0 P ops Q (o :: rest) a w
 unfold wpListIn
 rw [ah (by simp [hw])]
 exact ⟨fun _ _=>trivial,h⟩
theorem fQ {v:ak} (hw:Region.wanted o (yielded ops a.tmps)=true) (hd:QY o.op=true) (h:(execOp a.eval o).run P w=.ok (.value v) w')
  (k:WL r P ops Q rest (a.put o.dst v) w'):WL r P ops Q (o :: rest) a w:=by
 refine Yj hw ⟨fun _ _=>trivial,?_⟩
 rw [XH hd,h]
 exact k
theorem Yk (hw:Region.wanted o (yielded ops a.tmps)=true) (hd:QY o.op=true) (h:(execOp a.eval o).run P w=.ok .skip w')
  (k:WL r P ops Q rest (a.put o.dst undef) w'):WL r P ops Q (o :: rest) a w:=by
 refine Yj hw ⟨fun _ _=>trivial,?_⟩
 rw [XH hd,h]
 exact k
def After (P:Program) (nx:Result Next) (R:Ending→World→Prop):Prop :=
 match nx with
 | .ok (.enter f args) w'=>Calls P f args w' R
 | .ok (.round l f tmps assign body) w'=>RoundIn (FW none) 0 P l f tmps assign body w' R
 | _=>False
structure wD (P:Program) (fv:ak) (args:List ak) (w:World) (R:Ending→World→Prop):Prop where
 go:After P ((do let d ← Deferred.ofValue fv args.toArray;invoke d.target d.args:Sem Next).run P w) R
theorem Yi {nx:Result Next} {R:Ending→World→Prop} (hw:Region.wanted o (yielded ops a.tmps)=true) (hd:QY o.op=true) (h:(execOp a.eval o).run P w=nx) (hc:After P nx R)
  (k:∀ e w',R e w'→∃ v,e=.returned v∧WL r P ops Q rest (a.put o.dst v) w'):WL r P ops Q (o :: rest) a w:=by
 refine Yj hw ⟨fun _ _=>trivial,?_⟩
 rw [XH hd,h]
 cases nx with
 | halt x y=>exact hc.elim
 | ok x w1 =>
  cases x with
  | enter f args =>
   refine ⟨NZ r,(Tn hc).mono fun e w2 hR=>?_⟩
   obtain ⟨v,rfl,hk⟩:=k e w2 hR
   exact hk
  | round l f tmps assign body =>
   have hc':RoundIn (FW none) 0 P l f tmps assign body w1 R:=hc
   refine ⟨NZ r,?_⟩
   have h2:RoundIn (FW r) (0 - 1) P l f tmps assign body w1 R:=⟨aY,fun c cs hr=>hc'.2 c cs (room_wide _)⟩
   exact h2.mono fun e w2 hR=>by obtain ⟨v,rfl,hk⟩:=k e w2 hR;exact hk
  | _=>exact hc.elim
end base
section steps
variable {N:Nat} {D:List Deferred} {w0:World} {F:Nat→Prop} {G0 G:GH} {L:List (Nat × Obj)} {T:List (Nat × ak)}
variable {r:Option Nat} {P:Program} {ops:Array Oper} {Q:Exit→Act→World→Prop} {rest:List Oper} {a:Act} {w:World}
variable {d:Nat} {ty:TypeId} {pos:String} {aP:Array Edge} {g:Option (Nat × Bool)}
theorem wn {op:Op} {dst:Option Tmp} {y:Nat→Option Bool}:Region.wanted ⟨dst,op,ty,pos,aP,none⟩ y=true:=rfl
theorem agu (H:St N D w0 F G0 G L T a w) {j t:Nat} {b:Bool} (hj:(ops[j]?).bind (·.dst)=some t) (ht:lk T t=some (.bool b)):yielded ops a.tmps j=some b:=by
 unfold yielded
 rw [hj]
 simp [H.get t _ ht]
theorem wg (H:St N D w0 F G0 G L T a w) {op:Op} {dst:Option Tmp} {j t:Nat} {want b:Bool} (hj:(ops[j]?).bind (·.dst)=some t) (ht:lk T t=some (.bool b)) (hb:b=want) :
  Region.wanted ⟨dst,op,ty,pos,aP,some (j,want)⟩ (yielded ops a.tmps)=true:=by
 simp [Region.wanted,agu H hj ht,hb]
theorem afe (H:St N D w0 F G0 G L T a w) {op:Op} {j t:Nat} {want b:Bool} (hj:(ops[j]?).bind (·.dst)=some t) (ht:lk T t=some (.bool b)) (hb:b=!want) (hd:Nat.blt d N=true)
  (k:∀ a',St N D w0 F G0 G L ((d,undef) :: T) a' w→WL r P ops Q rest a' w):WL r P ops Q (⟨some d,op,ty,pos,aP,some (j,want)⟩ :: rest) a w:=by
 refine agr ?_ (k _ (H.put hd undef H.hp))
 simp only [Region.wanted,agu H hj ht,hb]
 cases want <;> rfl
theorem atG (H:St N D w0 F G0 G L T a w) {op:Op} {j t:Nat} {want:Bool} (hj:(ops[j]?).bind (·.dst)=some t) (ht:lk T t=some undef) (hd:Nat.blt d N=true)
  (k:∀ a',St N D w0 F G0 G L ((d,undef) :: T) a' w→WL r P ops Q rest a' w):WL r P ops Q (⟨some d,op,ty,pos,aP,some (j,want)⟩ :: rest) a w:=by
 refine agr ?_ (k _ (H.put hd undef H.hp))
 have h:yielded ops a.tmps j=none:=by
  unfold yielded
  rw [hj]
  simp [H.get t _ ht,undef]
 simp only [Region.wanted,h]
 cases want <;> rfl
theorem atJ (_H:St N D w0 F G0 G L T a w) (t:Nat) {b:Bool} {X:Prop} (_ht:lk T t=some (.bool b)) (h1:b=true→X) (h0:b=false→X):X:=by cases b <;> simp_all
theorem FK {x:Operand} {v:ak} (H:St N D w0 F G0 G L T a w) (hw:Region.wanted ⟨some d,.move x,ty,pos,aP,g⟩ (yielded ops a.tmps)=true) (hx:ev T x=some v) (hd:Nat.blt d N=true)
  (k:∀ a',St N D w0 F G0 G L ((d,v) :: T) a' w→WL r P ops Q rest a' w):WL r P ops Q (⟨some d,.move x,ty,pos,aP,g⟩ :: rest) a w :=
 fQ (v:=v) (w':=w) hw rfl (by simp [execOp,H.ev hx]) (k _ (H.put hd v H.hp))
theorem atu {x:Operand} {v:ak} (H:St N D w0 F G0 G L T a w) (hw:Region.wanted ⟨some d,.assign x,ty,pos,aP,g⟩ (yielded ops a.tmps)=true) (hx:ev T x=some v) (hd:Nat.blt d N=true)
  (k:∀ a',St N D w0 F G0 G L ((d,v) :: T) a' w→WL r P ops Q rest a' w):WL r P ops Q (⟨some d,.assign x,ty,pos,aP,g⟩ :: rest) a w :=
 fQ (v:=v) (w':=w) hw rfl (by simp [execOp,H.ev hx]) (k _ (H.put hd v H.hp))
theorem Kr {c x y:Operand} {b:Bool} {v:ak} (H:St N D w0 F G0 G L T a w) (hw:Region.wanted ⟨some d,.pick c x y,ty,pos,aP,g⟩ (yielded ops a.tmps)=true) (hc:ev T c=some (.bool b)) (hb:b=true) (hx:ev T x=some v) (hd:Nat.blt d N=true)
  (k:∀ a',St N D w0 F G0 G L ((d,v) :: T) a' w→WL r P ops Q rest a' w):WL r P ops Q (⟨some d,.pick c x y,ty,pos,aP,g⟩ :: rest) a w :=
 fQ (v:=v) (w':=w) hw rfl (by simp [execOp,H.ev hx,H.ev hc,asBool,hb]) (k _ (H.put hd v H.hp))
theorem NA {c x y:Operand} {b:Bool} {v:ak} (H:St N D w0 F G0 G L T a w) (hw:Region.wanted ⟨some d,.pick c x y,ty,pos,aP,g⟩ (yielded ops a.tmps)=true) (hc:ev T c=some (.bool b)) (hb:b=false) (hx:ev T y=some v) (hd:Nat.blt d N=true)
  (k:∀ a',St N D w0 F G0 G L ((d,v) :: T) a' w→WL r P ops Q rest a' w):WL r P ops Q (⟨some d,.pick c x y,ty,pos,aP,g⟩ :: rest) a w :=
 fQ (v:=v) (w':=w) hw rfl (by simp [execOp,H.ev hx,H.ev hc,asBool,hb]) (k _ (H.put hd v H.hp))
class kR (P:Program) (t:TypeId) (d:outParam TypeDesc):Prop where
 h:P.underlying t=some d
class Ty (P:Program) (t:TypeId) (sz bytes:outParam Nat) (zero:outParam (List ak)) (agg:outParam Bool):Prop where
 info:(P.info? t).map (fun i=>(i.size,i.bytes,i.zero.map fun z=>z.cells.toList))=some (sz,bytes,some zero)
 ag:(P.underlying t).map (fun|.struct _=>true|.array _ _=>true|_=>false)=some agg
theorem Ty.parts {t:TypeId} {sz bytes:Nat} {zero:List ak} {agg:Bool} (h:Ty P t sz bytes zero agg):∃ i z,P.info? t=some i∧i.size=sz∧i.bytes=bytes∧i.zero=some z∧z.cells=zero.toArray:=by
 obtain ⟨i,hi,hx⟩:=oO.1 h.info
 simp only [iB] at hx
 obtain ⟨z,hz,hzz⟩:=oO.1 hx.2.2
 exact ⟨i,z,hi,hx.1,hx.2.1,hz,by rw [← hzz]⟩
theorem FE {t:TypeId} {i:TypeInfo} (h:P.info? t=some i) (w:World):(typeInfo t).run P w=.ok i w:=by simp [typeInfo,program,Sem.run,dX,h]
theorem Ty.CO {t:TypeId} {sz bytes:Nat} {zero:List ak} {agg:Bool} (h:Ty P t sz bytes zero agg) (w:World):(sizeOf t).run P w=.ok sz w:=by
 obtain ⟨i,z,hi,h1,-,-,-⟩:=h.parts
 simp [sizeOf,dX,FE hi,h1]
theorem Ty.aeV {t:TypeId} {sz bytes:Nat} {zero:List ak} {agg:Bool} (h:Ty P t sz bytes zero agg) (w:World):∃ z,(zeroValue t).run P w=.ok z w∧z.cells=zero.toArray:=by
 obtain ⟨i,z,hi,-,-,h1,h2⟩:=h.parts
 exact ⟨z,by simp [zeroValue,dX,FE hi,h1],h2⟩
theorem nO {t:TypeId} {u:TypeDesc} (h:P.underlying t=some u) (w:World):(underlying t).run P w=.ok u w:=by simp [underlying,program,Sem.run,dX,h]
theorem Ty.Ru {t:TypeId} {sz bytes:Nat} {zero:List ak} {agg:Bool} (h:Ty P t sz bytes zero agg) (w:World):(isAgg t).run P w=.ok agg w:=by
 obtain ⟨u,hu,hx⟩:=oO.1 h.ag
 unfold isAgg
 simp only [dX,nO hu,mM]
 cases u <;> simp_all
theorem dx {elem:TypeId} {sz bytes:Nat} {zero:List ak} {agg:Bool} (ht:Ty P elem sz bytes zero agg) (H:St N D w0 F G0 G L T a w) (hw:Region.wanted ⟨some d,.alloc elem,ty,pos,aP,g⟩ (yielded ops a.tmps)=true) (hd:Nat.blt d N=true)
  (k:∀ b a' w',w0.heap.size≤b→St N D w0 F G0 G ((b,.cells zero.toArray elem (0,0)) :: L) ((d,.pointer (some ⟨b,0,none⟩)) :: T) a' w'→WL r P ops Q rest a' w'):WL r P ops Q (⟨some d,.alloc elem,ty,pos,aP,g⟩ :: rest) a w:=by
 obtain ⟨z,hz,hzc⟩:=ht.aeV w
 refine fQ (v:=.pointer (some ⟨w.heap.size,0,none⟩)) (w':=w.alloc (.cells zero.toArray elem (0,0))) hw rfl ?_ (k _ _ _ H.hp.size (H.put hd _ (H.hp.alloc _)))
 simp [execOp,Instr.alloc,dX,hz,newVar,newRow,newObj,Sem.run,hzc]
theorem dN {elem:TypeId} {x:Operand} {v:ak} {cs:List ak} (H:St N D w0 F G0 G L T a w) (hw:Region.wanted ⟨some d,.box elem x,ty,pos,aP,g⟩ (yielded ops a.tmps)=true) (hx:ev T x=some v) (hc:v.cells=cs.toArray) (hd:Nat.blt d N=true)
  (k:∀ b a' w',w0.heap.size≤b→St N D w0 F G0 G ((b,.cells cs.toArray elem (0,0)) :: L) ((d,.pointer (some ⟨b,0,none⟩)) :: T) a' w'→WL r P ops Q rest a' w'):WL r P ops Q (⟨some d,.box elem x,ty,pos,aP,g⟩ :: rest) a w:=by
 refine fQ (v:=.pointer (some ⟨w.heap.size,0,none⟩)) (w':=w.alloc (.cells cs.toArray elem (0,0))) hw rfl ?_ (k _ _ _ H.hp.size (H.put hd _ (H.hp.alloc _)))
 simp [execOp,Instr.box,dX,newVar,newRow,newObj,Sem.run,H.ev hx,hc]
def aC (G:GH) (b o:Nat):Option ak:=match G b with|some (.cells c _ _)=>c[o]?|_=>none
theorem Hp.aC (h:Hp w0 F G0 G L w) {b o:Nat} {v:ak} (hg:Proofs.YthmanofbmnfemaaGreat.aC G b o=some v):w.cell? ⟨b,o,none⟩=some v:=by
 unfold Proofs.YthmanofbmnfemaaGreat.aC at hg
 split at hg
 ·rename_i c e f he
  simp only [World.cell?,h.ro b _ he]
  exact hg
 ·cases hg
theorem Hp.qd (h:Hp w0 F G0 G L w) (i:Nat) {b o:Nat} {c:Array ak} {e:TypeId} {fz:Nat × Nat} {v:ak} (hi:L[i]?=some (b,.cells c e fz)) (hv:c[o]?=some v):w.cell? ⟨b,o,none⟩=some v:=by
 have:=h.own _ (mg hi)
 simp only [World.cell?] at *
 rw [this]
 exact hv
theorem add_lit (b o n:Nat):(⟨b,o,none⟩:Addr).add n=⟨b,o+n,none⟩:=by
 unfold Addr.add
 split
 ·rename_i h;subst h;rfl
 ·rfl
theorem Xv {b o:Nat} {v:ak} (h:w.cell? ⟨b,o,none⟩=some v):(load ⟨b,o,none⟩).run P w=.ok v w:=by simp [load,Sem.run,h]
theorem run_loadCells (b:Nat) (w:World):∀ (cs:List ak) (o i:Nat) (acc:Array ak),(∀ j v,cs[j]?=some v→w.cell? ⟨b,o+i+j,none⟩=some v) →
  (loadCellsFrom ⟨b,o,none⟩ i cs.length acc).run P w=.ok (acc++cs.toArray) w
 | [],o,i,acc,_=>by simp [loadCellsFrom,Sem.run]
 | c :: cs,o,i,acc,h=>by
  have h0:=h 0 c rfl
  have ih:=run_loadCells b w cs o (i+1) (acc.push c) (fun j v hj=>by have:=h (j+1) v (by simpa using hj);rw [← this];congr 2;omega)
  simp only [loadCellsFrom,jS,dX,add_lit,Xv (P:=P) (by simpa using h0),mM,ih]
  congr 1
  apply Array.ext'
  simp
theorem iH {t:TypeId} {sz bytes:Nat} {zero:List ak} (ht:Ty P t sz bytes zero false) {x:Operand} {b o:Nat} {v:ak} (H:St N D w0 F G0 G L T a w) (hw:Region.wanted ⟨some d,.load t x,ty,pos,aP,g⟩ (yielded ops a.tmps)=true)
  (hx:ev T x=some (.pointer (some ⟨b,o,none⟩))) (hc:w.cell? ⟨b,o,none⟩=some v) (hd:Nat.blt d N=true)
  (k:∀ a',St N D w0 F G0 G L ((d,v) :: T) a' w→WL r P ops Q rest a' w):WL r P ops Q (⟨some d,.load t x,ty,pos,aP,g⟩ :: rest) a w:=by
 refine fQ (v:=v) (w':=w) hw rfl ?_ (k _ (H.put hd v H.hp))
 simp only [execOp,Instr.loadAt,Instr.sureAddr,loadVar,dX,H.ev hx,ht.Ru,mM,tX,lM,if_false,Xv hc]
theorem aT {t:TypeId} {sz bytes:Nat} {zero:List ak} (ht:Ty P t sz bytes zero true) {x:Operand} {b o:Nat} {cs:List ak} (H:St N D w0 F G0 G L T a w) (hw:Region.wanted ⟨some d,.load t x,ty,pos,aP,g⟩ (yielded ops a.tmps)=true)
  (hx:ev T x=some (.pointer (some ⟨b,o,none⟩))) (hl:cs.length=sz) (hc:∀ j v,cs[j]?=some v→w.cell? ⟨b,o+j,none⟩=some v) (hd:Nat.blt d N=true)
  (k:∀ a',St N D w0 F G0 G L ((d,.agg cs.toArray) :: T) a' w→WL r P ops Q rest a' w):WL r P ops Q (⟨some d,.load t x,ty,pos,aP,g⟩ :: rest) a w:=by
 refine fQ (v:=.agg cs.toArray) (w':=w) hw rfl ?_ (k _ (H.put hd _ H.hp))
 have h1:=run_loadCells (P:=P) b w cs o 0 #[] (fun j v hj=>by simpa using hc j v hj)
 simp only [Array.empty_append,hl] at h1
 simp [execOp,Instr.loadAt,Instr.sureAddr,loadVar,dX,H.ev hx,ht.Ru,ht.CO,loadCells,h1]
theorem Hp.cO (h:Hp w0 F G0 G L w) (i:Nat) {b o:Nat} {c:List ak} {e:TypeId} {fz:Nat × Nat} {cs:List ak} (hi:L[i]?=some (b,.cells c.toArray e fz)) (hv:(c.drop o).take cs.length=cs):∀ j v,cs[j]?=some v→w.cell? ⟨b,o+j,none⟩=some v:=by
 intro j v hj
 refine h.qd i hi ?_
 rw [← hv,xQ] at hj
 split at hj
 ·rw [List.getElem?_drop] at hj
  simpa using hj
 ·cases hj
theorem avk {b o:Nat} {c:Array ak} {e:TypeId} {fz:Nat × Nat} (h:w.heap[b]?=some (.cells c e fz)) (v:ak):xP b (.cells (c.setIfInBounds o v) e fz) w (w.setCell ⟨b,o,none⟩ v):=by
 refine ⟨rfl,rfl,rfl,by simp,?_,fun k hk=>Below.heap_setCell w _ v k hk⟩
 simp [World.setCell,Array.getElem?_modify,h]
theorem xP.trans {b:Nat} {o1 o2:Obj} {w1 w2 w3:World} (h:xP b o1 w1 w2) (k:xP b o2 w2 w3):xP b o2 w1 w3 :=
 ⟨k.os.trans h.os,k.tape.trans h.tape,k.output.trans h.output,k.size.trans h.size,k.this,fun j hj=>(k.others j hj).trans (h.others j hj)⟩
theorem xP.refl {b:Nat} {o:Obj} {w:World} (h:w.heap[b]?=some o):xP b o w w:=⟨rfl,rfl,rfl,rfl,h,fun _ _=>rfl⟩
def oneCell':ak→Bool
 | .agg _|.tuple _=>false
 | _=>true
def setRow (c:List ak):Nat→List ak→List ak
 | _,[]=>c
 | o,v :: vs=>setRow (c.set o v) (o+1) vs
theorem atn {b o:Nat} {c:Array ak} {e:TypeId} {v:ak} (hb:w.heap[b]?=some (.cells c e (0,0))) (ho:o < c.size) (hv:oneCell' v=true) :
  (store ⟨b,o,none⟩ v).run P w=.ok () (w.setCell ⟨b,o,none⟩ v):=by
 have h1:w.cell? ⟨b,o,none⟩=some c[o]:=by simp [World.cell?,hb,ho]
 have h2:w.frozen? ⟨b,o,none⟩=false:=by simp [World.frozen?,hb]
 unfold store
 cases v <;> first|(simp [oneCell'] at hv;done)|(simp only [Sem.run,h1,h2];rfl)
theorem Xw (b:Nat) (e:TypeId) (o0:Nat):∀ (vs:List ak) (i:Nat) (c:List ak) (w:World),w.heap[b]?=some (.cells c.toArray e (0,0))→o0+i+vs.length≤c.length→(∀ v∈vs,oneCell' v=true) →
  ∃ w',(storeCells ⟨b,o0,none⟩ vs i).run P w=.ok () w'∧xP b (.cells (setRow c (o0+i) vs).toArray e (0,0)) w w'
 | [],i,c,w,hb,_,_=>⟨w,by simp [storeCells,Sem.run],xP.refl hb⟩
 | v :: vs,i,c,w,hb,hl,hv=>by
  simp only [jS] at hl
  have hr:=atn (P:=P) (o:=o0+i) (v:=v) hb (by simp;omega) (hv v (by simp))
  have hu:=avk (o:=o0+i) hb v
  have hb':=hu.this
  simp only [List.setIfInBounds_toArray] at hb' hu
  obtain ⟨w2,h2,u2⟩:=Xw b e o0 vs (i+1) (c.set (o0+i) v) _ hb' (by simp;omega) (fun u hu=>hv u (by simp [hu]))
  refine ⟨w2,?_,?_⟩
  ·simp only [storeCells,dX,add_lit,hr,mM,h2]
  ·exact hu.trans u2
theorem bq {t:TypeId} {sz bytes:Nat} {zero:List ak} {agg:Bool} (ht:Ty P t sz bytes zero agg) {x y:Operand} (i:Nat) {b o:Nat} {c:List ak} {e:TypeId} {v:ak} {vs:List ak} (c':List ak) (H:St N D w0 F G0 G L T a w) (hw:Region.wanted ⟨none,.store t x y,ty,pos,aP,g⟩ (yielded ops a.tmps)=true)
  (hx:ev T x=some (.pointer (some ⟨b,o,none⟩))) (hi:L[i]?=some (b,.cells c.toArray e (0,0))) (hy:ev T y=some v) (hvs:v.cells=vs.toArray) (hl:Nat.beq vs.length sz=true) (h1:vs.all oneCell'=true) (hle:Nat.ble (o+vs.length) c.length=true) (hset:setRow c o vs=c')
  (k:∀ w',St N D w0 F G0 G (L.set i (b,.cells c'.toArray e (0,0))) T a w'→WL r P ops Q rest a w'):WL r P ops Q (⟨none,.store t x y,ty,pos,aP,g⟩ :: rest) a w:=by
 have hb:=H.hp.own _ (mg hi)
 obtain ⟨w2,h2,u2⟩:=Xw (P:=P) b e o vs 0 c w hb (by simpa using Nat.le_of_ble_eq_true hle) (fun u hu=>mZ.1 h1 u hu)
 simp only [mO,hset] at u2
 refine Yk (w':=w2) hw rfl ?_ (k w2 (H.move (H.hp.upd hi u2)))
 have hl':vs.length=sz:=Dg hl
 simp [execOp,Instr.storeAt,Instr.sureAddr,storeVar,dX,H.ev hx,H.ev hy,ht.CO,hvs,hl',h2]
class dL (P:Program) (s n:Nat) (off:outParam Nat):Prop where
 h:(match P.underlying s with|some (.struct fs)=>(fs[n]?).bind fun f=>(P.info? f.type).map fun i=>(f.offset,i.size == 0)|_=>none)=some (off,false)
theorem dL.parts {s n off:Nat} (h:dL P s n off):∃ fs fl i,P.underlying s=some (.struct fs)∧fs[n]?=some fl∧P.info? fl.type=some i∧fl.offset=off∧i.size≠0:=by
 obtain ⟨h⟩:=h
 split at h
 ·rename_i fs hs
  obtain ⟨fl,hf,h2⟩:=Option.bind_eq_some_iff.1 h
  obtain ⟨i,hi,h3⟩:=oO.1 h2
  simp only [iB,beq_eq_false_iff_ne] at h3
  exact ⟨fs,fl,i,hs,hf,hi,h3.1,h3.2⟩
 ·cases h
theorem IJ {s:TypeId} {x:Operand} {n b o off:Nat} (hs:dL P s n off) (H:St N D w0 F G0 G L T a w) (hw:Region.wanted ⟨some d,.fieldAddr s x n,ty,pos,aP,g⟩ (yielded ops a.tmps)=true)
  (hx:ev T x=some (.pointer (some ⟨b,o,none⟩))) (hd:Nat.blt d N=true)
  (k:∀ a',St N D w0 F G0 G L ((d,.pointer (some ⟨b,o+off,none⟩)) :: T) a' w→WL r P ops Q rest a' w):WL r P ops Q (⟨some d,.fieldAddr s x n,ty,pos,aP,g⟩ :: rest) a w:=by
 obtain ⟨fs,fl,i,h1,h2,h3,h4,h5⟩:=hs.parts
 refine fQ (v:=.pointer (some ⟨b,o+off,none⟩)) (w':=w) hw rfl ?_ (k _ (H.put hd _ H.hp))
 simp only [execOp,Instr.fieldAt,Instr.sureAddr,dX,H.ev hx,nO h1,h2,mM,tX,fieldPlace,sizeOf,FE h3,ah h5,add_lit,h4]
theorem RD {s e:TypeId} {sz bytes:Nat} {zero:List ak} {agg:Bool} (hs:P.underlying s=some (.slice e)) (ht:Ty P e sz bytes zero agg) {x y:Operand} {b o n c:Nat} {kd:IntKind} {z:Int} (i:Nat) (H:St N D w0 F G0 G L T a w) (hw:Region.wanted ⟨some d,.indexAddr s x y,ty,pos,aP,g⟩ (yielded ops a.tmps)=true)
  (hx:ev T x=some (.slice (some ⟨b,o,none⟩) n c)) (hy:ev T y=some (.int kd z)) (hz:z=(i:Int)) (hn:i < n) (hd:Nat.blt d N=true)
  (k:∀ a',St N D w0 F G0 G L ((d,.pointer (some ⟨b,o+i*sz,none⟩)) :: T) a' w→WL r P ops Q rest a' w):WL r P ops Q (⟨some d,.indexAddr s x y,ty,pos,aP,g⟩ :: rest) a w:=by
 subst hz
 refine fQ (v:=.pointer (some ⟨b,o+i*sz,none⟩)) (w':=w) hw rfl ?_ (k _ (H.put hd _ H.hp))
 have hr:(0:Int)≤i∧(i:Int) < (n:Int):=by omega
 simp only [execOp,Instr.indexAt,asIntOf,dX,H.ev hx,H.ev hy,nO hs,mM,tX,au hr,ht.CO,add_lit,Int.toNat_natCast]
theorem qK {x:Operand} {n:Nat} {vs:List ak} {v:ak} (H:St N D w0 F G0 G L T a w) (hw:Region.wanted ⟨some d,.extract x n,ty,pos,aP,g⟩ (yielded ops a.tmps)=true) (hx:ev T x=some (.tuple vs.toArray)) (hv:vs[n]?=some v) (hd:Nat.blt d N=true)
  (k:∀ a',St N D w0 F G0 G L ((d,v) :: T) a' w→WL r P ops Q rest a' w):WL r P ops Q (⟨some d,.extract x n,ty,pos,aP,g⟩ :: rest) a w :=
 fQ (v:=v) (w':=w) hw rfl (by simp [execOp,Instr.extract,H.ev hx,hv]) (k _ (H.put hd _ H.hp))
theorem uS {x:Operand} {p:Addr} (H:St N D w0 F G0 G L T a w) (hw:Region.wanted ⟨some d,.nilCheck x,ty,pos,aP,g⟩ (yielded ops a.tmps)=true) (hx:ev T x=some (.pointer (some p))) (hd:Nat.blt d N=true)
  (k:∀ a',St N D w0 F G0 G L ((d,.pointer (some p)) :: T) a' w→WL r P ops Q rest a' w):WL r P ops Q (⟨some d,.nilCheck x,ty,pos,aP,g⟩ :: rest) a w :=
 fQ (v:=.pointer (some p)) (w':=w) hw rfl (by simp [execOp,H.ev hx]) (k _ (H.put hd _ H.hp))
theorem pK {fn:Fn} {xs:List Operand} {vs:List ak} (H:St N D w0 F G0 G L T a w) (hw:Region.wanted ⟨some d,.makeFunc fn #[] xs.toArray,ty,pos,aP,g⟩ (yielded ops a.tmps)=true) (hx:evs T xs=some vs) (hd:Nat.blt d N=true)
  (k:∀ a',St N D w0 F G0 G L ((d,.func fn #[] vs.toArray) :: T) a' w→WL r P ops Q rest a' w):WL r P ops Q (⟨some d,.makeFunc fn #[] xs.toArray,ty,pos,aP,g⟩ :: rest) a w :=
 fQ (v:=.func fn #[] vs.toArray) (w':=w) hw rfl (by simp [execOp,Instr.makeFunc,H.evs hx]) (k _ (H.put hd _ H.hp))
def Ce (pl:List (Nat × Nat)):List ak→List (Nat × List ak)→Option (List ak)
 | c,[]=>some c
 | c,(i,vs) :: rest=>match pl[i]? with
  | none=>none
  | some (off,size)=>bif Nat.beq vs.length size && Nat.ble (off+vs.length) c.length then Ce pl (setRow c off vs) rest else none
theorem XI:∀ (vs:List ak) (o:Nat) (c:List ak),(setRow c o vs).length=c.length
 | [],_,_=>rfl
 | v :: vs,o,c=>by simp [setRow,XI vs]
theorem abm (off:Nat):∀ (vs:List ak) (j:Nat) (c:List ak),
  ((vs.zipIdx j).toArray).foldl (fun cs (x:ak × Nat)=>cs.setIfInBounds (off+x.2) x.1) c.toArray=(setRow c (off+j) vs).toArray
 | [],j,c=>by simp [setRow]
 | v :: vs,j,c=>by
  have ih:=abm off vs (j+1) (c.set (off+j) v)
  simp only [List.zipIdx_cons,List.foldl_toArray'] at *
  simp only [List.foldl_cons,List.setIfInBounds_toArray]
  exact ih
theorem fill_eq (place:Nat→Option (Nat × Nat)) (pl:List (Nat × Nat)) (hp:∀ i q,pl[i]?=some q→place i=some q):∀ (parts:List (Nat × ak)) (Q9:List (Nat × List ak)) (c c':List ak),
  parts.map (fun x=>(x.1,x.2.cells.toList))=Q9→Ce pl c Q9=some c'→Instr.fill place c.toArray parts=some c'.toArray
 | [],Q9,c,c',hm,h=>by subst hm;simp [Ce] at h;subst h;rfl
 | (i,v) :: parts,Q9,c,c',hm,h=>by
  subst hm
  simp only [dR,Ce] at h
  split at h
  ·cases h
  ·rename_i off size hq
   cases hcond:(Nat.beq v.cells.toList.length size && Nat.ble (off+v.cells.toList.length) c.length) with
   | false=>rw [hcond] at h;cases h
   | true =>
    rw [hcond] at h
    simp only [nk] at hcond
    have e1:=Dg hcond.1
    have e2:=Nat.le_of_ble_eq_true hcond.2
    have ih:=fill_eq place pl hp parts _ (setRow c off v.cells.toList) c' rfl h
    have hf:=abm off v.cells.toList 0 c
    simp only [mO] at hf
    simp only [wJ] at e1 e2
    unfold Instr.fill
    rw [hp i _ hq]
    have hz:(v.cells.zipIdx:Array (ak × Nat))=((v.cells.toList.zipIdx 0).toArray):=by
     apply Array.ext';simp
    simp only [e1,ne_eq,not_true_eq_false,lM,decide_false,Bool.false_or,List.size_toArray]
    rw [ah (by simp;omega),hz,hf]
    exact ih
structure sV (P:Program) (t:TypeId) (pl:List (Nat × Nat)) (zero:List ak):Prop where
 h:(match P.underlying t with|some (.struct fs)=>some (fs.toList.map fun f=>(f.offset,(P.info? f.type).map (·.size)))|_=>none)=some (pl.map fun q=>(q.1,some q.2))
 z:(P.info? t).map (fun i=>i.zero.map fun z=>z.cells.toList)=some (some zero)
end steps
end
section
open Go.RowKit
section steps
variable {N:Nat} {D:List Deferred} {w0:World} {F:Nat→Prop} {G0 G:GH} {L:List (Nat × Obj)} {T:List (Nat × ak)}
variable {r:Option Nat} {P:Program} {ops:Array Oper} {Q:Exit→Act→World→Prop} {rest:List Oper} {a:Act} {w:World}
variable {d:Nat} {ty:TypeId} {pos:String} {aP:Array Edge} {g:Option (Nat × Bool)}
theorem sV.parts {t:TypeId} {pl:List (Nat × Nat)} {zero:List ak} (h:sV P t pl zero):∃ fs i z,P.underlying t=some (.struct fs)∧P.info? t=some i∧i.zero=some z∧z.cells=zero.toArray ∧
  fs.toList.map (fun f=>(f.offset,(P.info? f.type).map (·.size)))=pl.map fun q=>(q.1,some q.2):=by
 obtain ⟨h,hz⟩:=h
 obtain ⟨i,hi,hx⟩:=oO.1 hz
 obtain ⟨z,hz1,hz2⟩:=oO.1 hx
 split at h
 ·rename_i fs hs
  exact ⟨fs,i,z,hs,hi,hz1,by rw [← hz2],by simpa using h⟩
 ·cases h
theorem aeT (w:World):∀ (fs:List Field) (pl:List (Nat × Nat)),fs.map (fun f=>(f.offset,(P.info? f.type).map (·.size)))=pl.map (fun q=>(q.1,some q.2)) →
  (fs.mapM (fun f=>(do pure (f.offset,← sizeOf f.type):Sem (Nat × Nat)))).run P w=.ok pl w
 | [],[],_=>by simp [Sem.run]
 | [],q :: pl,h=>by simp at h
 | f :: fs,[],h=>by simp at h
 | f :: fs,q :: pl,h=>by
  simp only [dR,List.cons.injEq,iB] at h
  obtain ⟨⟨h1,h2⟩,h3⟩:=h
  obtain ⟨i,hi,hs⟩:=oO.1 h2
  have ih:=aeT w fs pl h3
  have hsz:(sizeOf f.type).run P w=.ok q.2 w:=by simp only [sizeOf,dX,FE hi,mM,tX,hs]
  simp only [List.mapM_cons,dX,hsz,mM,tX,ih,h1]
theorem run_build {t:TypeId} {pl:List (Nat × Nat)} {zero:List ak} (h:sV P t pl zero) {parts:Array (Nat × ak)} {cs:List ak}
  (hf:Ce pl zero (parts.toList.map fun x=>(x.1,x.2.cells.toList))=some cs) (w:World):(Instr.build t parts).run P w=.ok (.agg cs.toArray) w:=by
 obtain ⟨fs,i,z,h1,h2,h3,h4,h5⟩:=h.parts
 have hm:=aeT (P:=P) w fs.toList pl h5
 have hm':(fs.mapM (fun f=>(do pure (f.offset,← sizeOf f.type):Sem (Nat × Nat)))).run P w=.ok pl.toArray w:=by
  rw [Array.mapM_eq_mapM_toList]
  simp only [map_eq_pure_bind,dX,hm,mM,tX]
 have Vs:=fill_eq (fun i=>pl.toArray[i]?) pl (fun i q hq=>by simpa using hq) parts.toList _ zero cs rfl hf
 simp only [Instr.build,zeroValue,dX,FE h2,h3,mM,tX,h4,nO h1,hm',Vs]
def pts (T:List (Nat × ak)):List (Nat × Operand)→Option (List (Nat × ak))
 | []=>some []
 | (i,x) :: q=>match ev T x,pts T q with|some v,some vs=>some ((i,v) :: vs)|_,_=>none
theorem St.pts (H:St N D w0 F G0 G L T a w):∀ {xs:List (Nat × Operand)} {vs:List (Nat × ak)},Proofs.YthmanofbmnfemaaGreat.pts T xs=some vs→xs.map (fun x=>(x.1,a.eval x.2))=vs
 | [],vs,hx=>by simp [Proofs.YthmanofbmnfemaaGreat.pts] at hx;subst hx;rfl
 | (i,x) :: xs,vs,hx=>by
  unfold Proofs.YthmanofbmnfemaaGreat.pts at hx
  split at hx
  ·rename_i v vs' h1 h2
   simp only [nQ] at hx
   subst hx
   rw [dR,H.ev h1,H.pts h2]
  ·cases hx
theorem jZ {t:TypeId} {pl:List (Nat × Nat)} {zero:List ak} (ht:sV P t pl zero) {xs:List (Nat × Operand)} {vs:List (Nat × ak)} {vs':List (Nat × List ak)} (cs:List ak) (H:St N D w0 F G0 G L T a w) (hw:Region.wanted ⟨some d,.build t xs.toArray,ty,pos,aP,g⟩ (yielded ops a.tmps)=true)
  (hx:pts T xs=some vs) (hv:vs.map (fun x=>(x.1,x.2.cells.toList))=vs') (hf:Ce pl zero vs'=some cs) (hd:Nat.blt d N=true)
  (k:∀ a',St N D w0 F G0 G L ((d,.agg cs.toArray) :: T) a' w→WL r P ops Q rest a' w):WL r P ops Q (⟨some d,.build t xs.toArray,ty,pos,aP,g⟩ :: rest) a w:=by
 refine fQ (v:=.agg cs.toArray) (w':=w) hw rfl ?_ (k _ (H.put hd _ H.hp))
 have h1:=run_build ht (parts:=(vs.toArray)) (cs:=cs) (by simpa [hv] using hf) w
 simp only [execOp,List.map_toArray,H.pts hx,dX,h1,mM,tX]
theorem iy {t e:TypeId} {sz bytes:Nat} {zero:List ak} {agg:Bool} (hs:P.underlying t=some (.slice e)) (ht:Ty P e sz bytes zero agg) {n:Nat} {xs:List (Nat × Operand)} {vs:List (Nat × ak)} {vs':List (Nat × List ak)} (z:List ak) (cs:List ak) (H:St N D w0 F G0 G L T a w) (hw:Region.wanted ⟨some d,.buildSlice t n xs.toArray,ty,pos,aP,g⟩ (yielded ops a.tmps)=true)
  (hx:pts T xs=some vs) (hv:vs.map (fun x=>(x.1,x.2.cells.toList))=vs') (hn:Nat.ble (n*sz) 1000=true) (hn0:Nat.beq (n*sz) 0=false) (hz:(List.range (n*sz)).map (fun i=>zero[i % zero.length]!)=z) (hpl:∀ i q,((List.range n).map fun i=>(i*sz,sz))[i]?=some q→(some (i*sz,sz):Option (Nat × Nat))=some q)
  (hf:Ce ((List.range n).map fun i=>(i*sz,sz)) z vs'=some cs) (hd:Nat.blt d N=true)
  (k:∀ b a' w',w0.heap.size≤b→St N D w0 F G0 G ((b,.cells cs.toArray e (0,0)) :: L) ((d,.slice (some ⟨b,0,none⟩) n n) :: T) a' w'→WL r P ops Q rest a' w'):WL r P ops Q (⟨some d,.buildSlice t n xs.toArray,ty,pos,aP,g⟩ :: rest) a w:=by
 refine fQ (v:=.slice (some ⟨w.heap.size,0,none⟩) n n) (w':=w.alloc (.cells cs.toArray e (0,0))) hw rfl ?_ (k _ _ _ H.hp.size (H.put hd _ (H.hp.alloc _)))
 obtain ⟨z0,hz0,hzc⟩:=ht.aeV w
 have h16:¬ n*sz > 2 ^ 24:=by have:=Nat.le_of_ble_eq_true hn;simp;omega
 have h0:¬ n*sz=0:=by intro e;rw [e] at hn0;cases hn0
 have Vs:=fill_eq (fun i=>some (i*sz,sz)) _ hpl vs vs' z cs hv hf
 have hz':(Array.range (n*sz)).map (fun x=>zero.toArray[x % zero.toArray.size]!)=z.toArray:=by
  rw [← hz];apply Array.ext';simp
 simp only [execOp,List.map_toArray,H.pts hx,Instr.buildSlice,dX,nO hs,mM,ht.CO,ah h16,ah h0,hz0,hzc,tX,hz',Vs,newRow,newObj,Sem.run]
 rfl
theorem Il {z:Int} (h1:-9223372036854775808≤z) (h2:z < 9223372036854775808):IntKind.i64.wrap z=z:=by
 unfold IntKind.wrap
 have e:(2:Int) ^ 64=18446744073709551616:=by decide
 have e':(2:Int) ^ (64 - 1)=9223372036854775808:=by decide
 simp only [IntKind.bits,IntKind.signed,tY,e,e',lN]
 split <;> omega
theorem RA {x y:Operand} {t yt:TypeId} {p q:Int} (z:Int) (H:St N D w0 F G0 G L T a w) (hw:Region.wanted ⟨some d,.binOp .add t x y yt,ty,pos,aP,g⟩ (yielded ops a.tmps)=true) (hx:ev T x=some (.int .i64 p)) (hy:ev T y=some (.int .i64 q)) (hz:p+q=z) (h1:-9223372036854775808≤z) (h2:z < 9223372036854775808) (hd:Nat.blt d N=true)
  (k:∀ a',St N D w0 F G0 G L ((d,.int .i64 z) :: T) a' w→WL r P ops Q rest a' w):WL r P ops Q (⟨some d,.binOp .add t x y yt,ty,pos,aP,g⟩ :: rest) a w :=
 fQ (v:=.int .i64 z) (w':=w) hw rfl (by simp [execOp,eqGuard,binOp,Op.intArith,H.ev hx,H.ev hy,dX,hz,Il h1 h2]) (k _ (H.put hd _ H.hp))
theorem lC {x y:Operand} {t yt:TypeId} {p q:Int} (z:Int) (H:St N D w0 F G0 G L T a w) (hw:Region.wanted ⟨some d,.binOp .sub t x y yt,ty,pos,aP,g⟩ (yielded ops a.tmps)=true) (hx:ev T x=some (.int .i64 p)) (hy:ev T y=some (.int .i64 q)) (hz:p - q=z) (h1:-9223372036854775808≤z) (h2:z < 9223372036854775808) (hd:Nat.blt d N=true)
  (k:∀ a',St N D w0 F G0 G L ((d,.int .i64 z) :: T) a' w→WL r P ops Q rest a' w):WL r P ops Q (⟨some d,.binOp .sub t x y yt,ty,pos,aP,g⟩ :: rest) a w :=
 fQ (v:=.int .i64 z) (w':=w) hw rfl (by simp [execOp,eqGuard,binOp,Op.intArith,H.ev hx,H.ev hy,dX,hz,Il h1 h2]) (k _ (H.put hd _ H.hp))
def LM:BinOp→Int→Int→Option Bool
 | .eql,x,y=>some (decide (x=y))
 | .neq,x,y=>some (decide (¬ x=y))
 | .lss,x,y=>some (decide (x < y))
 | .leq,x,y=>some (decide (x≤y))
 | .gtr,x,y=>some (decide (y < x))
 | .geq,x,y=>some (decide (y≤x))
 | _,_,_=>none
theorem atj {op:BinOp} {kd:IntKind} {x y:Int} {b:Bool} (h:LM op x y=some b) (t:TypeId) (X Y:Operand) (w:World):(do eqGuard op t X Y (.int kd x) (.int kd y);binOp op t (.int kd x) (.int kd y):Sem ak).run P w=.ok (.bool b) w:=by
 cases op <;> simp only [LM,nQ,reduceCtorEq] at h <;> subst h <;> simp [eqGuard,binOp,Op.intCmp,dX]
 ·rfl
 ·rfl
theorem Ej {op:BinOp} {x y:Operand} {t yt:TypeId} {kd:IntKind} {p q:Int} {b:Bool} (H:St N D w0 F G0 G L T a w) (hw:Region.wanted ⟨some d,.binOp op t x y yt,ty,pos,aP,g⟩ (yielded ops a.tmps)=true) (hx:ev T x=some (.int kd p)) (hy:ev T y=some (.int kd q)) (hb:LM op p q=some b) (hd:Nat.blt d N=true)
  (k:∀ a',St N D w0 F G0 G L ((d,.bool b) :: T) a' w→WL r P ops Q rest a' w):WL r P ops Q (⟨some d,.binOp op t x y yt,ty,pos,aP,g⟩ :: rest) a w:=by
 refine fQ (v:=.bool b) (w':=w) hw rfl ?_ (k _ (H.put hd _ H.hp))
 have h1:=atj (P:=P) (kd:=kd) hb t x y w
 simp only [execOp,H.ev hx,H.ev hy]
 rw [dX,h1]
 rfl
theorem XC {x:Operand} {t:TypeId} {b:Bool} (H:St N D w0 F G0 G L T a w) (hw:Region.wanted ⟨some d,.unOp .not t x,ty,pos,aP,g⟩ (yielded ops a.tmps)=true) (hx:ev T x=some (.bool b)) (hd:Nat.blt d N=true)
  (k:∀ a',St N D w0 F G0 G L ((d,.bool (!b)) :: T) a' w→WL r P ops Q rest a' w):WL r P ops Q (⟨some d,.unOp .not t x,ty,pos,aP,g⟩ :: rest) a w :=
 fQ (v:=.bool (!b)) (w':=w) hw rfl (by simp [execOp,Op.unary,H.ev hx,dX]) (k _ (H.put hd _ H.hp))
def xS (op:BinOp) (k:IntKind) (x y:Int):Int :=
 let a:=BitVec.ofInt k.bits x
 let b:=BitVec.ofInt k.bits y
 k.wrap (match op with|.and=>(a &&& b).toNat|.or=>(a ||| b).toNat|.xor=>(a ^^^ b).toNat|_=>(a &&& ~~~b).toNat)
theorem RB {op:BinOp} {x y:Operand} {t yt:TypeId} {kd:IntKind} {p q:Int} (hop:(match op with|.and|.or|.xor|.andNot=>true|_=>false)=true) (H:St N D w0 F G0 G L T a w) (hw:Region.wanted ⟨some d,.binOp op t x y yt,ty,pos,aP,g⟩ (yielded ops a.tmps)=true) (hx:ev T x=some (.int kd p)) (hy:ev T y=some (.int kd q)) (hd:Nat.blt d N=true)
  (k:∀ a',St N D w0 F G0 G L ((d,.int kd (xS op kd p q)) :: T) a' w→WL r P ops Q rest a' w):WL r P ops Q (⟨some d,.binOp op t x y yt,ty,pos,aP,g⟩ :: rest) a w:=by
 refine fQ (v:=.int kd (xS op kd p q)) (w':=w) hw rfl ?_ (k _ (H.put hd _ H.hp))
 cases op <;> simp only [lM] at hop <;> simp [execOp,eqGuard,binOp,Op.intBits,H.ev hx,H.ev hy,xS]
theorem atF {x y:Operand} {t yt:TypeId} {kd ky:IntKind} {p q:Int} (n:Nat) (H:St N D w0 F G0 G L T a w) (hw:Region.wanted ⟨some d,.binOp .shl t x y yt,ty,pos,aP,g⟩ (yielded ops a.tmps)=true) (hx:ev T x=some (.int kd p)) (hy:ev T y=some (.int ky q)) (hq:q=(n:Int)) (hn:n≤kd.bits) (hd:Nat.blt d N=true)
  (k:∀ a',St N D w0 F G0 G L ((d,.int kd (kd.wrap (p*2 ^ n))) :: T) a' w→WL r P ops Q rest a' w):WL r P ops Q (⟨some d,.binOp .shl t x y yt,ty,pos,aP,g⟩ :: rest) a w:=by
 subst hq
 refine fQ (v:=.int kd (kd.wrap (p*2 ^ n))) (w':=w) hw rfl ?_ (k _ (H.put hd _ H.hp))
 have h0:¬ ((n:Int) < 0):=by omega
 have h1:min n kd.bits=n:=by omega
 simp [execOp,eqGuard,binOp,Op.shift,H.ev hx,H.ev hy,h0,h1]
theorem XE {x y:Operand} {t yt:TypeId} {kd ky:IntKind} {p q:Int} (n:Nat) (H:St N D w0 F G0 G L T a w) (hw:Region.wanted ⟨some d,.binOp .shr t x y yt,ty,pos,aP,g⟩ (yielded ops a.tmps)=true) (hx:ev T x=some (.int kd p)) (hy:ev T y=some (.int ky q)) (hq:q=(n:Int)) (hn:n≤kd.bits) (hd:Nat.blt d N=true)
  (k:∀ a',St N D w0 F G0 G L ((d,.int kd (p.fdiv (2 ^ n))) :: T) a' w→WL r P ops Q rest a' w):WL r P ops Q (⟨some d,.binOp .shr t x y yt,ty,pos,aP,g⟩ :: rest) a w:=by
 subst hq
 refine fQ (v:=.int kd (p.fdiv (2 ^ n))) (w':=w) hw rfl ?_ (k _ (H.put hd _ H.hp))
 have h0:¬ ((n:Int) < 0):=by omega
 have h1:min n kd.bits=n:=by omega
 simp [execOp,eqGuard,binOp,Op.shift,H.ev hx,H.ev hy,h0,h1]
theorem FI {x:Operand} {t u:TypeId} {kd ks:IntKind} {p:Int} {su:TypeDesc} (z:Int) (hu:P.underlying u=some (.int kd)) (ht:P.underlying t=some su) (H:St N D w0 F G0 G L T a w) (hw:Region.wanted ⟨some d,.convert t u x,ty,pos,aP,g⟩ (yielded ops a.tmps)=true) (hx:ev T x=some (.int ks p)) (hz:kd.wrap p=z) (hd:Nat.blt d N=true)
  (k:∀ a',St N D w0 F G0 G L ((d,.int kd z) :: T) a' w→WL r P ops Q rest a' w):WL r P ops Q (⟨some d,.convert t u x,ty,pos,aP,g⟩ :: rest) a w:=by
 refine fQ (v:=.int kd z) (w':=w) hw rfl ?_ (k _ (H.put hd _ H.hp))
 simp [execOp,convert,nO hu,nO ht,H.ev hx,dX,Conv.intToInt,hz]
theorem qj {x y:Operand} {t:TypeId} {s:ByteArray} {kd:IntKind} {z:Int} (i:Nat) (ht:P.underlying t=some .string) (H:St N D w0 F G0 G L T a w) (hw:Region.wanted ⟨some d,.index t x y,ty,pos,aP,g⟩ (yielded ops a.tmps)=true) (hx:ev T x=some (.string s)) (hy:ev T y=some (.int kd z)) (hz:z=(i:Int)) (hi:i < s.size) (hd:Nat.blt d N=true)
  (k:∀ a',St N D w0 F G0 G L ((d,.int .u8 (s[i].toNat:Int)) :: T) a' w→WL r P ops Q rest a' w):WL r P ops Q (⟨some d,.index t x y,ty,pos,aP,g⟩ :: rest) a w:=by
 subst hz
 refine fQ (v:=.int .u8 (s[i].toNat:Int)) (w':=w) hw rfl ?_ (k _ (H.put hd _ H.hp))
 simp [execOp,Instr.index,asIntOf,nO ht,H.ev hx,H.ev hy,dX,hi]
theorem afa {x:Operand} {t e:TypeId} {A:Option Addr} {n c:Nat} (hs:P.underlying t=some (.slice e)) (H:St N D w0 F G0 G L T a w) (hw:Region.wanted ⟨some d,.call { callee:=.builtin .len,args:=#[x],argTypes:=#[t] },ty,pos,aP,g⟩ (yielded ops a.tmps)=true) (hx:ev T x=some (.slice A n c)) (hd:Nat.blt d N=true)
  (k:∀ a',St N D w0 F G0 G L ((d,.int .i64 n) :: T) a' w→WL r P ops Q rest a' w):WL r P ops Q (⟨some d,.call { callee:=.builtin .len,args:=#[x],argTypes:=#[t] },ty,pos,aP,g⟩ :: rest) a w :=
 fQ (v:=.int .i64 n) (w':=w) hw rfl (by simp [execOp,resolve,invoke,builtin,Builtin.len_,H.ev hx,dX,nO hs,goInt]) (k _ (H.put hd _ H.hp))
theorem Bt {x:Operand} {t:TypeId} {s:ByteArray} (hs:P.underlying t=some .string) (H:St N D w0 F G0 G L T a w) (hw:Region.wanted ⟨some d,.call { callee:=.builtin .len,args:=#[x],argTypes:=#[t] },ty,pos,aP,g⟩ (yielded ops a.tmps)=true) (hx:ev T x=some (.string s)) (hd:Nat.blt d N=true)
  (k:∀ a',St N D w0 F G0 G L ((d,.int .i64 s.size) :: T) a' w→WL r P ops Q rest a' w):WL r P ops Q (⟨some d,.call { callee:=.builtin .len,args:=#[x],argTypes:=#[t] },ty,pos,aP,g⟩ :: rest) a w :=
 fQ (v:=.int .i64 s.size) (w':=w) hw rfl (by simp [execOp,resolve,invoke,builtin,Builtin.len_,H.ev hx,dX,nO hs,goInt]) (k _ (H.put hd _ H.hp))
theorem FJ {x y:Operand} {t t':TypeId} {kd:IntKind} {p q:Int} (H:St N D w0 F G0 G L T a w) (hw:Region.wanted ⟨some d,.call { callee:=.builtin .max,args:=#[x,y],argTypes:=#[t,t'] },ty,pos,aP,g⟩ (yielded ops a.tmps)=true) (hx:ev T x=some (.int kd p)) (hy:ev T y=some (.int kd q)) (hd:Nat.blt d N=true)
  (k:∀ a',St N D w0 F G0 G L ((d,.int kd (max p q)) :: T) a' w→WL r P ops Q rest a' w):WL r P ops Q (⟨some d,.call { callee:=.builtin .max,args:=#[x,y],argTypes:=#[t,t'] },ty,pos,aP,g⟩ :: rest) a w:=by
 refine fQ (v:=.int kd (max p q)) (w':=w) hw rfl ?_ (k _ (H.put hd _ H.hp))
 have e:(if q > p then q else p)=max p q:=by omega
 simp [execOp,resolve,invoke,builtin,Builtin.max_,Builtin.max2,H.ev hx,H.ev hy,dX,e]
theorem RF {x y:Operand} {t t':TypeId} {kd:IntKind} {p q:Int} (H:St N D w0 F G0 G L T a w) (hw:Region.wanted ⟨some d,.call { callee:=.builtin .min,args:=#[x,y],argTypes:=#[t,t'] },ty,pos,aP,g⟩ (yielded ops a.tmps)=true) (hx:ev T x=some (.int kd p)) (hy:ev T y=some (.int kd q)) (hd:Nat.blt d N=true)
  (k:∀ a',St N D w0 F G0 G L ((d,.int kd (min p q)) :: T) a' w→WL r P ops Q rest a' w):WL r P ops Q (⟨some d,.call { callee:=.builtin .min,args:=#[x,y],argTypes:=#[t,t'] },ty,pos,aP,g⟩ :: rest) a w:=by
 refine fQ (v:=.int kd (min p q)) (w':=w) hw rfl ?_ (k _ (H.put hd _ H.hp))
 have e:(if q < p then q else p)=min p q:=by omega
 simp [execOp,resolve,invoke,builtin,Builtin.min_,Builtin.min2,H.ev hx,H.ev hy,dX,e]
def bB (w:World) (G:GH) (R:ak→GH→Prop):Ending→World→Prop:=fun e w'=>∃ v G',e=.returned v∧Below w.heap.size w w'∧Ext w.heap.size G G' w'∧R v G'
def Hold (G:GH) (w:World):Prop:=∀ k o,G k=some o→w.heap[k]?=some o
theorem s_call {f:FuncId} {xs:List Operand} {vs:List ak} {ts:Array TypeId} {R:ak→GH→Prop} (en:∀ args w,(callFunc f args).run P w=.ok (.enter f args) w) (H:St N D w0 F G0 G L T a w) (hw:Region.wanted ⟨some d,.call { callee:=.value (.func f),args:=xs.toArray,argTypes:=ts },ty,pos,aP,g⟩ (yielded ops a.tmps)=true)
  (hx:evs T xs=some vs) (hc:Calls P f vs.toArray w (bB w G R)) (hd:Nat.blt d N=true)
  (k:∀ v G' a' w',R v G'→(∀ k o,G k=some o→G' k=some o)→St N D w0 F G0 G' L ((d,v) :: T) a' w'→WL r P ops Q rest a' w'):WL r P ops Q (⟨some d,.call { callee:=.value (.func f),args:=xs.toArray,argTypes:=ts },ty,pos,aP,g⟩ :: rest) a w:=by
 refine Yi (nx:=.ok (.enter f vs.toArray) w) (R:=bB w G R) hw rfl ?_ hc ?_
 ·have h1:=H.evs hx
  simp [execOp,resolve,Act.eval,Deferred.ofValue,invoke,dX,h1,en]
 ·rintro e w' ⟨v,G',rfl,hb,hX,hR⟩
  exact ⟨v,rfl,k v G' _ w' hR hX.1 (H.put hd v (H.hp.Zn hb hX))⟩
theorem Dn {x y:Code} (h:∀ K:Act→World→Prop,(∀ a w,WP r P y Q a w→K a w)→WP r P x (Exit.then K Q) a w):WP r P (.seq x y) Q a w:=wpIn_seq_k h
theorem LH {id:Nat} {l:List Oper} (h:WL r P l.toArray Q l a w):WP r P (.region id l.toArray false) Q a w:=wpIn_region_lit h
theorem ahA {id:Nat} {l:List Oper} {y:Code} (h:∀ K:Act→World→Prop,(∀ a w,WP r P y Q a w→WL r P l.toArray (Exit.then K Q) [] a w)→WL r P l.toArray (Exit.then K Q) l a w):WP r P (.seq (.region id l.toArray false) y) Q a w:=Dn fun K hK=>LH (h K fun a w h=>aI (hK a w h))
theorem iE (h:Q .normal a w):WP r P .skip Q a w:=wpIn_skip h
theorem dw (h:Q .ret a w):WP r P .ret Q a w:=wpIn_ret h
theorem Au {id:Nat} (h:Q (.exit id) a w):WP r P (.exit id) Q a w:=wpIn_exit h
theorem LG {id:Nat} {c:Code} (h:WP r P c (Exit.inBlock id Q) a w):WP r P (.block id c) Q a w:=wpIn_block h
theorem Zx {c:Operand} {x y:Code} {b:Bool} (H:St N D w0 F G0 G L T a w) (hc:ev T c=some (.bool b)) (h1:b=true→WP r P x Q a w) (h0:b=false→WP r P y Q a w):WP r P (.cond c x y) Q a w :=
 wpIn_cond_split (H.ev hc) h1 h0
theorem Zy {c:Operand} {x y:Code} {b:Bool} (H:St N D w0 F G0 G L T a w) (hc:ev T c=some (.bool b)) (hb:b=true) (h1:WP r P x Q a w):WP r P (.cond c x y) Q a w :=
 wpIn_cond_true (by rw [H.ev hc,hb]) h1
theorem Tm {c:Operand} {x y:Code} {b:Bool} (H:St N D w0 F G0 G L T a w) (hc:ev T c=some (.bool b)) (hb:b=false) (h1:WP r P y Q a w):WP r P (.cond c x y) Q a w :=
 wpIn_cond_false (by rw [H.ev hc,hb]) h1
theorem ZC {ι:Type} {c:Code} (I:ι→Act→World→Prop) (m:ι→Nat) (i0:ι) (h0:I i0 a w)
  (round:∀ i a w,I i a w→WP r P c (Exit.then (fun a' w'=>∃ i',I i' a' w'∧m i' < m i) Q) a w):WP r P (.loop c) Q a w:=by
 intro b k cs hro hb hr
 have key:∀ j i a w,m i=j→I i a w →
   ∃ e a' w',Q e a' w'∧ArrivesIn (Machine.fenced P (FW r)) P (lone (b.atR a (.code c :: .inLoop c :: k)) cs w) b k cs e a' w':=by
  intro j
  induction j using Nat.strongRecOn with
  | _ j ih =>
   intro i a w hn hI
   obtain ⟨e,a₁,w₁,hq,harr⟩:=round i a w hI b (.inLoop c :: k) cs hro hb hr
   cases e with
   | normal =>
    obtain ⟨i',hI₁,hlt⟩:=hq
    obtain ⟨e₂,a₂,w₂,hq₂,harr₂⟩:=ih (m i') (hn ▸ hlt) i' a₁ w₁ rfl hI₁
    exact ⟨e₂,a₂,w₂,hq₂,.of_steps (StepsIn.trans harr (.one (fenced_calm hb hr rfl) stepR_inLoop)) harr₂⟩
   | exit id=>exact ⟨_,a₁,w₁,hq,.pass (x:=.inLoop c) rfl (fun _ _=>.inl (by simp)) harr⟩
   | goto l=>exact ⟨_,a₁,w₁,hq,.pass (x:=.inLoop c) rfl (fun _ _=>.inl (by simp)) harr⟩
   | ret=>exact ⟨_,a₁,w₁,hq,.pass (x:=.inLoop c) rfl (fun _ _=>.inl (by simp)) harr⟩
   | panic ch=>exact ⟨_,a₁,w₁,hq,.pass (x:=.inLoop c) rfl (fun _ _=>.inl (by simp)) harr⟩
   | outgrown=>exact ⟨_,a₁,w₁,hq,.pass (x:=.inLoop c) rfl (fun _ _=>.inl (by simp)) harr⟩
 obtain ⟨e,a',w',hq,harr⟩:=key _ i0 a w rfl h0
 exact ⟨e,a',w',hq,.of_steps (.one (fenced_calm hb hr rfl) stepR_loop) harr⟩
theorem dD {ι:Type} {c:Code} {Tc:List (Nat × ak)} {Lc:List (Nat × Obj)} (Tv:ι→List (Nat × ak)) (Lv:ι→List (Nat × Obj)) (Gv:ι→GH) (Pr:ι→Prop) (m:ι→Nat) (i0:ι)
  (H:St N D w0 F G0 (Gv i0) (Lc++Lv i0) (Tv i0++Tc) a w) (hP:Pr i0)
  (round:∀ i a w,Pr i→St N D w0 F G0 (Gv i) (Lc++Lv i) (Tv i++Tc) a w →
   WP r P c (Exit.then (fun a' w'=>∃ i',(St N D w0 F G0 (Gv i') (Lc++Lv i') (Tv i'++Tc) a' w'∧Pr i')∧m i' < m i) Q) a w):WP r P (.loop c) Q a w :=
 ZC (fun i a w=>St N D w0 F G0 (Gv i) (Lc++Lv i) (Tv i++Tc) a w∧Pr i) m i0 ⟨H,hP⟩ fun i a w hI=>round i a w hI.2 hI.1
theorem oQ {ι:Type} {x y:Code} {Tc:List (Nat × ak)} {Lc Lr:List (Nat × Obj)} {Gh:GH} (Tv:ι→List (Nat × ak)) (Lv:ι→List (Nat × Obj)) (Gv:ι→GH) (Pr:ι→Prop)
  (_:St N D w0 F G0 Gh (Lc++Lr) Tc a w) (h1:WP r P x (Exit.then (fun a w=>∃ i,St N D w0 F G0 (Gv i) (Lc++Lv i) (Tv i++Tc) a w∧Pr i) Q) a w)
  (h2:∀ i a w,Pr i→St N D w0 F G0 (Gv i) (Lc++Lv i) (Tv i++Tc) a w→WP r P y Q a w):WP r P (.seq x y) Q a w :=
 wpIn_seq (wpIn_mono h1 fun e a w h=>by
  cases e with
  | normal=>obtain ⟨i,H,hP⟩:=h;exact h2 i a w hP H
  | _=>exact h)
theorem bR {ι:Type} {Tc:List (Nat × ak)} {Lc:List (Nat × Obj)} {Tv:ι→List (Nat × ak)} {Lv:ι→List (Nat × Obj)} {Gv:ι→GH} {Pr:ι→Prop} {m:ι→Nat} {i:ι} (i':ι)
  (H:St N D w0 F G0 (Gv i') (Lc++Lv i') (Tv i'++Tc) a w) (hP:Pr i') (hm:m i' < m i) :
  ∃ i',(St N D w0 F G0 (Gv i') (Lc++Lv i') (Tv i'++Tc) a w∧Pr i')∧m i' < m i:=⟨i',⟨H,hP⟩,hm⟩
def GJ:Nat→List ak→List (Nat × ak)
 | _,[]=>[]
 | i,v :: vs=>(i,v) :: GJ (i+1) vs
theorem enters {f:FuncId} {fn:Func} {c:Code} (hf:P.funcs[f]?=some fn) (hb:fn.body=some c) (hname:(fn.name == "runtime.NumGoroutine")=false) (args:Array ak) (w:World):(callFunc f args).run P w=.ok (.enter f args) w:=by
 have h1:fn.name ≠ "runtime.NumGoroutine":=by simpa using hname
 simp [callFunc,hf,h1,hb,mark]
theorem enter {f:FuncId} {fn:Func} {c:Code} {vs:List ak} {R:Ending→World→Prop} (hf:P.funcs[f]?=some fn) (hb:fn.body=some c) (hN:fn.ntmps=N) (hle:Nat.ble vs.length N=true)
  (hT:GJ 0 vs=T) (hG:Hold G w) (hF:∀ k,F k→k < w.heap.size) (hL:∀ p∈L,w.heap[p.1]?=some p.2) (hLG:∀ p∈L,G p.1=none) (hLF:∀ p∈L,¬ F p.1) (hnd:L.Pairwise fun p q=>p.1≠q.1)
  (h:∀ a,St N [] w F G G L T a w→WP none P c (bodyPostM (FW none) 0 P fn R) a w):Calls P f vs.toArray w R:=by
 refine ahB (r:=none) (n:=0) (callsIn_of_wp_marks hf hb trivial (h _ ⟨?_,?_,rfl,⟨rfl,rfl,rfl,bX _,hF,fun _ _=>rfl,hG,fun _ _ h=>h,fun _ _ h=>.inl h,hL,hLG,hLF,hnd⟩⟩) rfl)
 ·have:=Nat.le_of_ble_eq_true hle
  simp [hN];omega
 ·intro t v ht
  have hlen:t < vs.length∧vs[t]?=some v:=by
   subst hT
   have key:∀ (vs:List ak) (s:Nat),lk (GJ s vs) t=some v→s≤t∧vs[t - s]?=some v:=by
    intro vs
    induction vs with
    | nil=>intro s h;simp [GJ,lk] at h
    | cons u vs ih =>
     intro s h
     simp only [GJ] at h
     by_cases e:s=t
     ·subst e;rw [yF] at h;simpa using h
     ·rw [xw e] at h
      obtain ⟨h1,h2⟩:=ih (s+1) h
      refine ⟨by omega,?_⟩
      have:t - s=(t - (s+1))+1:=by omega
      rw [this];simpa using h2
   have:=key vs 0 ht
   simp only [eG,Nat.sub_zero,true_and] at this
   exact ⟨(jr.1 this).1,this⟩
  rw [Array.getElem?_append_left (by simpa using hlen.1)]
  simpa using hlen.2
def Kq (tmps:Array ak):ResultVar→Sem ak
 | .tmp t=>pure (tmps.getD t undef)
 | .cell a t=>do loadVar t (← asAddr (tmps.getD a undef))
def RV (P:Program) (w:World) (tmps:Array ak) (rv:ResultVar) (v:ak):Prop:=(Kq tmps rv).run P w=.ok v w
theorem bG (H:St N D w0 F G0 G L T a w) {t:Nat} {v:ak} (h:lk T t=some v):RV P w a.tmps (.tmp t) v:=by
 have:=H.ev (x:=.tmp t) h
 simp only [Act.eval] at this
 simp [RV,Kq,this]
theorem xD {t:TypeId} {sz bytes:Nat} {zero:List ak} (ht:Ty P t sz bytes zero true) (H:St N D w0 F G0 G L T a w) {s b o:Nat} {cs:List ak} (h:lk T s=some (.pointer (some ⟨b,o,none⟩))) (hl:cs.length=sz) (hc:∀ j v,cs[j]?=some v→w.cell? ⟨b,o+j,none⟩=some v) :
  RV P w a.tmps (.cell s t) (.agg cs.toArray):=by
 have:=H.ev (x:=.tmp s) h
 simp only [Act.eval] at this
 have h1:=run_loadCells (P:=P) b w cs o 0 #[] (fun j v hj=>by simpa using hc j v hj)
 simp only [Array.empty_append,hl] at h1
 simp [RV,Kq,this,asAddr,loadVar,dX,ht.Ru,ht.CO,loadCells,h1]
theorem Bq {t:TypeId} {sz bytes:Nat} {zero:List ak} (ht:Ty P t sz bytes zero false) (H:St N D w0 F G0 G L T a w) {s b o:Nat} {v:ak} (h:lk T s=some (.pointer (some ⟨b,o,none⟩))) (hc:w.cell? ⟨b,o,none⟩=some v) :
  RV P w a.tmps (.cell s t) v:=by
 have:=H.ev (x:=.tmp s) h
 simp only [Act.eval] at this
 simp only [RV,Kq,this,asAddr,loadVar,dX,ht.Ru,mM,tX,lM,if_false,Xv hc]
inductive EF (P:Program) (w:World) (tmps:Array ak):List ResultVar→List ak→Prop
 | nil:EF P w tmps [] []
 | cons {rv rs v vs}:RV P w tmps rv v→EF P w tmps rs vs→EF P w tmps (rv :: rs) (v :: vs)
def WV:List ak→ak
 | [v]=>v
 | vs=>.tuple vs.toArray
theorem atm {fn:Func} {rs:List ResultVar} {vs:List ak} {tmps:Array ak} (hr:fn.results=rs.toArray) (h:EF P w tmps rs vs):(results fn tmps).run P w=.ok (WV vs) w:=by
 have hm:∀ {rs:List ResultVar} {vs:List ak},EF P w tmps rs vs→(rs.mapM (Kq tmps)).run P w=.ok vs w:=by
  intro rs vs h
  induction h with
  | nil=>simp
  | cons h1 _ ih =>
   unfold RV at h1
   simp only [List.mapM_cons,dX,h1,mM,ih,tX]
 have hm':=hm h
 have hres:results fn tmps=(do let vs ← fn.results.mapM (Kq tmps);pure (if h:vs.size=1 then vs[0] else .tuple vs)):=rfl
 rw [hres,hr,Array.mapM_eq_mapM_toList]
 simp only [map_eq_pure_bind,dX,hm',mM,tX]
 match vs with
 | []=>rfl
 | [v]=>rfl
 | v :: u :: vs=>simp [WV]
theorem leave {fn:Func} {rs:List ResultVar} {vs:List ak} {R:Ending→World→Prop} (v:ak) (H:St N [] w0 F G0 G L T a w) (hr:fn.results=rs.toArray) (h:EF P w a.tmps rs vs) (hv:WV vs=v) (hR:R (.returned v) w) :
  bodyPostM (FW none) 0 P fn R .ret a w∧bodyPostM (FW none) 0 P fn R .normal a w:=by
 subst hv
 have h1:LeavesInM (FW none) 0 P fn a.tmps R a.defers .returning w:=by
  rw [H.uz]
  exact ⟨_,atm hr h,hR⟩
 exact ⟨h1,h1⟩
theorem leave0 {fn:Func} {R:Ending→World→Prop} (H:St N [] w0 F G0 G L T a w) (hr:fn.results=#[]) (hR:R (.returned (.tuple #[])) w) :
  bodyPostM (FW none) 0 P fn R .ret a w∧bodyPostM (FW none) 0 P fn R .normal a w:=leave (rs:=[]) _ H hr .nil rfl hR
theorem leave1 {fn:Func} {rs:List ResultVar} {v:ak} {R:Ending→World→Prop} (H:St N [] w0 F G0 G L T a w) (hr:fn.results=rs.toArray) (h:EF P w a.tmps rs [v]) (hR:R (.returned v) w) :
  bodyPostM (FW none) 0 P fn R .ret a w∧bodyPostM (FW none) 0 P fn R .normal a w:=leave _ H hr h rfl hR
theorem gu {fn:Func} {rs:List ResultVar} {v u:ak} {vs:List ak} {R:Ending→World→Prop} (H:St N [] w0 F G0 G L T a w) (hr:fn.results=rs.toArray) (h:EF P w a.tmps rs (v :: u :: vs)) (hR:R (.returned (.tuple (v :: u :: vs).toArray)) w) :
  bodyPostM (FW none) 0 P fn R .ret a w∧bodyPostM (FW none) 0 P fn R .normal a w:=leave _ H hr h rfl hR
theorem Hp.ret {R:ak→GH→Prop} {v:ak} (h:Hp w0 (fun k=>k < w0.heap.size) G0 G L w) (hR:R v G):bB w0 G0 R (.returned v) w :=
 ⟨v,G,rfl,⟨h.os,h.tape,h.output,h.size,h.fr⟩,⟨h.gm,fun k o hk=>(h.gx k o hk).imp id (fun hn=>Nat.le_of_not_lt hn),h.ro⟩,hR⟩
end steps
end
section
open Go.RowKit
abbrev OL:=List (Nat × Obj)
structure fM (G:GH) (L:OL) (w:World):Prop where
 ro:Hold G w
 own:∀ p∈L,w.heap[p.1]?=some p.2
 sep:∀ p∈L,G p.1=none
 nd:L.Pairwise fun p q=>p.1≠q.1
structure Change (w w':World) (G G':GH) (L L':OL):Prop where
 os:w'.os=w.os
 tape:w'.tape=w.tape
 output:w'.output=w.output
 size:w.heap.size≤w'.heap.size
 fr:∀ k,k < w.heap.size→(∀ p∈L,p.1≠k)→w'.heap[k]?=w.heap[k]?
 gm:∀ k o,G k=some o→G' k=some o
 gx:∀ k o,G' k=some o→G k=some o∨w.heap.size≤k∨∃ p∈L,p.1=k
 owns:fM G' L' w'
 lx:∀ p∈L',w.heap.size≤p.1∨∃ q∈L,q.1=p.1
def Fr (w:World) (L0:OL):Nat→Prop:=fun k=>k < w.heap.size∧∀ p∈L0,p.1≠k
section
variable {N:Nat} {D:List Deferred} {w0 w w':World} {F:Nat→Prop} {G0 G G':GH} {L L' Li L0:OL} {T:List (Nat × ak)} {a:Act}
theorem Hp.owns (h:Hp w0 F G0 G (Li++L) w):fM G L w :=
 ⟨h.ro,fun p hp=>h.own p (List.mem_append_right _ hp),fun p hp=>h.uU p (List.mem_append_right _ hp),(List.pairwise_append.1 h.nd).2.1⟩
theorem Hp.change (h:Hp w0 F G0 G (Li++L) w) (hc:Change w w' G G' L L'):Hp w0 F G0 G' (Li++L') w':=by
 have hnd:=List.pairwise_append.1 h.nd
 have UJ:∀ k,F k→k < w.heap.size:=fun k hk=>Nat.lt_of_lt_of_le (h.wR k hk) h.size
 have Cn:∀ p∈Li,p.1 < w.heap.size∧∀ q∈L,q.1≠p.1:=fun p hp=>⟨lt_of_heap (h.own p (List.mem_append_left _ hp)),fun q hq e=>hnd.2.2 p hp q hq e.symm⟩
 refine ⟨hc.os.trans h.os,hc.tape.trans h.tape,hc.output.trans h.output,Nat.le_trans h.size hc.size,h.wR,fun k hk=>?_,hc.owns.ro,fun k o hk=>hc.gm k o (h.gm k o hk),fun k o hk=>?_,fun p hp=>?_,fun p hp=>?_,fun p hp=>?_,?_⟩
 ·exact (hc.fr k (UJ k hk) fun p hp e=>h.uT p (List.mem_append_right _ hp) (e ▸ hk)).trans (h.fr k hk)
 ·rcases hc.gx k o hk with hk|hk|⟨p,hp,rfl⟩
  ·exact h.gx k o hk
  ·exact .inr fun hf=>absurd (UJ k hf) (by omega)
  ·exact .inr (h.uT p (List.mem_append_right _ hp))
 ·rcases ng.1 hp with hp|hp
  ·exact (hc.fr _ (Cn p hp).1 (Cn p hp).2).trans (h.own p (List.mem_append_left _ hp))
  ·exact hc.owns.own p hp
 ·rcases ng.1 hp with hp|hp
  ·cases hg:G' p.1 with
   | none=>rfl
   | some o =>
    rcases hc.gx _ o hg with hk|hk|⟨q,hq,e⟩
    ·rw [h.uU p (List.mem_append_left _ hp)] at hk;cases hk
    ·exact absurd (Cn p hp).1 (by omega)
    ·exact absurd e ((Cn p hp).2 q hq)
  ·exact hc.owns.sep p hp
 ·rcases ng.1 hp with hp|hp
  ·exact h.uT p (List.mem_append_left _ hp)
  ·rcases hc.lx p hp with hk|⟨q,hq,e⟩
   ·exact fun hf=>absurd (UJ _ hf) (by omega)
   ·exact e ▸ h.uT q (List.mem_append_right _ hq)
 ·refine List.pairwise_append.2 ⟨hnd.1,hc.owns.nd,fun p hp q hq e=>?_⟩
  rcases hc.lx q hq with hk|⟨q',hq',e'⟩
  ·have:=(Cn p hp).1;omega
  ·exact (Cn p hp).2 q' hq' (e'.trans e.symm)
theorem Hp.afA (h:Hp w0 (Fr w0 L0) G0 G L w):Change w0 w G0 G L0 L:=by
 have hn:∀ k,¬ Fr w0 L0 k→w0.heap.size≤k∨∃ p∈L0,p.1=k:=by
  intro k hk
  by_cases hlt:k < w0.heap.size
  ·right
   apply Classical.byContradiction
   intro hno
   exact hk ⟨hlt,fun p hp e=>hno ⟨p,hp,e⟩⟩
  ·exact .inl (by omega)
 exact ⟨h.os,h.tape,h.output,h.size,fun k h1 h2=>h.fr k ⟨h1,h2⟩,h.gm,fun k o hk=>(h.gx k o hk).imp id (hn k),⟨h.ro,h.own,h.uU,h.nd⟩,fun p hp=>hn _ (h.uT p hp)⟩
theorem fM.hp (h:fM G L w):Hp w (Fr w L) G G L w :=
 ⟨rfl,rfl,rfl,bX _,fun _ hk=>hk.1,fun _ _=>rfl,h.ro,fun _ _ h=>h,fun _ _ h=>.inl h,h.own,h.sep,fun p hp hf=>hf.2 p hp rfl,h.nd⟩
theorem Change.trans {w2:World} {G2:GH} {L2:OL} (h1:Change w w' G G' L L') (h2:Change w' w2 G' G2 L' L2) (hG:Hold G w) (hL:∀ p∈L,p.1 < w.heap.size):Change w w2 G G2 L L2:=by
 refine ⟨h2.os.trans h1.os,h2.tape.trans h1.tape,h2.output.trans h1.output,Nat.le_trans h1.size h2.size,fun k hk hn=>?_,fun k o hk=>h2.gm k o (h1.gm k o hk),fun k o hk=>?_,h2.owns,fun p hp=>?_⟩
 ·refine (h2.fr k (Nat.lt_of_lt_of_le hk h1.size) fun p hp e=>?_).trans (h1.fr k hk hn)
  rcases h1.lx p hp with hk'|⟨q,hq,e'⟩
  ·omega
  ·exact hn q hq (e'.trans e)
 ·rcases h2.gx k o hk with hk|hk|⟨p,hp,rfl⟩
  ·exact h1.gx k o hk
  ·exact .inr (.inl (Nat.le_trans h1.size hk))
  ·rcases h1.lx p hp with hk'|⟨q,hq,e'⟩
   ·exact .inr (.inl hk')
   ·exact .inr (.inr ⟨q,hq,e'⟩)
 ·rcases h2.lx p hp with hk|⟨q,hq,e⟩
  ·exact .inl (Nat.le_trans h1.size hk)
  ·rcases h1.lx q hq with hk'|⟨q',hq',e'⟩
   ·exact .inl (e ▸ hk')
   ·exact .inr ⟨q',hq',e'.trans e⟩
theorem Hp.perm (h:Hp w0 F G0 G L w) (hp:L.Perm L'):Hp w0 F G0 G L' w :=
 ⟨h.os,h.tape,h.output,h.size,h.wR,h.fr,h.ro,h.gm,h.gx,fun p hq=>h.own p (hp.mem_iff.2 hq),fun p hq=>h.uU p (hp.mem_iff.2 hq),fun p hq=>h.uT p (hp.mem_iff.2 hq),(hp.pairwise_iff (fun {x y} (h:x.1≠y.1) e=>h e.symm)).1 h.nd⟩
theorem St.perm (h:St N D w0 F G0 G L T a w) (hp:L.Perm L'):St N D w0 F G0 G L' T a w:=⟨h.nu,h.get,h.uz,h.hp.perm hp⟩
def fB (w:World) (G:GH) (L:OL) (R:ak→GH→OL→Prop):Ending→World→Prop:=fun e w'=>∃ v G' L',e=.returned v∧Change w w' G G' L L'∧R v G' L'
theorem Hp.dO {R:ak→GH→OL→Prop} {v:ak} (h:Hp w0 (Fr w0 L0) G0 G L w) (hR:R v G L):fB w0 G0 L0 R (.returned v) w:=⟨v,G,L,rfl,h.afA,hR⟩
end
section steps
variable {N:Nat} {D:List Deferred} {w0:World} {F:Nat→Prop} {G0 G:GH} {L Li L0:OL} {T:List (Nat × ak)}
variable {r:Option Nat} {P:Program} {ops:Array Oper} {Q:Exit→Act→World→Prop} {rest:List Oper} {a:Act} {w:World}
variable {d:Nat} {ty:TypeId} {pos:String} {aP:Array Edge} {g:Option (Nat × Bool)}
theorem jM {f:FuncId} {caps args:List ak} {R:Ending→World→Prop} (en:∀ args w,(callFunc f args).run P w=.ok (.enter f args) w) (h:Calls P f (args++caps).toArray w R):wD P (.func (.func f) #[] caps.toArray) args w R:=by
 refine ⟨?_⟩
 have e:(do let d ← Deferred.ofValue (.func (.func f) #[] caps.toArray) args.toArray;invoke d.target d.args:Sem Next).run P w=.ok (.enter f (args++caps).toArray) w:=by
  simp [Deferred.ofValue,dX,invoke,en]
 rw [e]
 exact h
theorem tL {x:Operand} {fv:ak} {xs:List Operand} {vs:List ak} {ts:Array TypeId} {R:ak→GH→OL→Prop} (H:St N D w0 F G0 G (Li++L) T a w) (hw:Region.wanted ⟨some d,.call { callee:=.value x,args:=xs.toArray,argTypes:=ts },ty,pos,aP,g⟩ (yielded ops a.tmps)=true)
  (hf:ev T x=some fv) (hx:evs T xs=some vs) (hc:wD P fv vs w (fB w G L R)) (hd:Nat.blt d N=true)
  (k:∀ v G' L' a' w',R v G' L'→(∀ k o,G k=some o→G' k=some o)→St N D w0 F G0 G' (Li++L') ((d,v) :: T) a' w'→WL r P ops Q rest a' w'):WL r P ops Q (⟨some d,.call { callee:=.value x,args:=xs.toArray,argTypes:=ts },ty,pos,aP,g⟩ :: rest) a w:=by
 refine Yi (nx:=_) (R:=fB w G L R) hw rfl rfl ?_ ?_
 ·have h1:=H.evs hx
  have e:(execOp a.eval ⟨some d,.call { callee:=.value x,args:=xs.toArray,argTypes:=ts },ty,pos,aP,g⟩)=(do let d ← Deferred.ofValue fv vs.toArray;invoke d.target d.args:Sem Next):=by
   simp only [execOp,resolve,H.ev hf,List.map_toArray,h1]
  rw [e]
  exact hc.go
 ·rintro e w' ⟨v,G',L',rfl,hb,hR⟩
  exact ⟨v,rfl,k v G' L' _ w' hR hb.gm (H.put hd v (H.hp.change hb))⟩
theorem fu {f:FuncId} {xs:List Operand} {vs:List ak} {ts:Array TypeId} {R:ak→GH→OL→Prop} (en:∀ args w,(callFunc f args).run P w=.ok (.enter f args) w) (H:St N D w0 F G0 G (Li++L) T a w) (hw:Region.wanted ⟨some d,.call { callee:=.value (.func f),args:=xs.toArray,argTypes:=ts },ty,pos,aP,g⟩ (yielded ops a.tmps)=true)
  (hx:evs T xs=some vs) (hc:Calls P f vs.toArray w (fB w G L R)) (hd:Nat.blt d N=true)
  (k:∀ v G' L' a' w',R v G' L'→(∀ k o,G k=some o→G' k=some o)→St N D w0 F G0 G' (Li++L') ((d,v) :: T) a' w'→WL r P ops Q rest a' w'):WL r P ops Q (⟨some d,.call { callee:=.value (.func f),args:=xs.toArray,argTypes:=ts },ty,pos,aP,g⟩ :: rest) a w:=by
 refine tL (fv:=.func (.func f) #[] #[]) H hw rfl hx ?_ hd k
 have h:=jM (caps:=[]) (args:=vs) en (by simpa using hc)
 exact h
abbrev AP:=List ak→GH→Prop
def xK (xs:List AP) (k:Nat) (args:List ak) (g:GH):Prop:=∃ p,xs[k]?=some p∧p args g
def Ev (P:Program) (fv:ak) (Gi:GH) (xs:List AP) (J:Nat→GH→OL→Prop) (Jx:GH→OL→Prop):Prop :=
 ∀ k args G L w,xK xs k args G→(∀ b o,Gi b=some o→G b=some o)→J k G L→fM G L w →
  wD P fv args w (fB w G L fun v G' L'=>∃ b,v=.bool b∧(b=true→J (k+1) G' L')∧(b=false→Jx G' L'))
def EB (J:Nat→GH→OL→Prop):Prop:=∀ k (G G':GH) L,(∀ b o,G b=some o→G' b=some o)→J k G L→J k G' L
def GD (J:GH→OL→Prop):Prop:=∀ (G G':GH) L,(∀ b o,G b=some o→G' b=some o)→J G L→J G' L
def Iter (P:Program) (Gi:GH) (gv:ak) (xs:List AP):Prop :=
 ∀ (J:Nat→GH→OL→Prop) (Jx:GH→OL→Prop) (fv:ak) (G:GH) (L:OL) (w:World),fv.cells=#[fv]→(∀ b o,Gi b=some o→G b=some o)→EB J→GD Jx→J 0 G L→fM G L w→Ev P fv G xs J Jx →
  wD P gv [fv] w (fB w G L fun _ G' L'=>J xs.length G' L'∨Jx G' L')
theorem Iter.mono {Gi EA:GH} {gv:ak} {xs:List AP} (h:Iter P Gi gv xs) (hm:∀ b o,Gi b=some o→EA b=some o):Iter P EA gv xs :=
 fun J Jx fv G L w h0 h1=>h J Jx fv G L w h0 fun b o hb=>h1 b o (hm b o hb)
def uj:List Nat→List ak→List (Nat × ak)→List (Nat × ak)
 | p :: ps,v :: vs,T=>uj ps vs ((p,v) :: T)
 | _,_,T=>T
theorem afs:∀ (ps:List Nat) (vs:List ak) (T:List (Nat × ak)) (tm:Array ak),tm.size=N→(∀ t v,lk T t=some v→tm[t]?=some v)→ps.all (Nat.blt · N)=true →
  ((ps.zip vs).foldl (fun t (x:Nat × ak)=>t.setIfInBounds x.1 x.2) tm).size=N∧∀ t v,lk (uj ps vs T) t=some v→((ps.zip vs).foldl (fun t (x:Nat × ak)=>t.setIfInBounds x.1 x.2) tm)[t]?=some v
 | [],_,T,tm,h1,h2,_=>⟨h1,by simpa [uj] using h2⟩
 | p :: ps,[],T,tm,h1,h2,_=>⟨h1,by simpa [uj] using h2⟩
 | p :: ps,v :: vs,T,tm,h1,h2,h3=>by
  simp only [List.all_cons,nk] at h3
  have hp:p < tm.size:=by rw [h1];exact Eq.mp Nat.blt_eq h3.1
  simp only [List.zip_cons_cons,List.foldl_cons,uj]
  refine afs ps vs _ _ (by simpa using h1) (fun t u ht=>?_) h3.2
  rw [Array.getElem?_setIfInBounds]
  by_cases e:p=t
  ·subst e;rw [yF] at ht;simp [hp];simpa using ht
  ·rw [xw e] at ht;simp [e];exact h2 t u ht
structure Rec where
 fn:FuncId
 tmps:Array ak
 params:Array Tmp
 assign:Code
 body:Code
 defers:Nat
def Rec.at (q:Rec) (s:LoopState) (p:Option Code):Obj:=.loop { state:=s,pending:=p,fn:=q.fn,tmps:=q.tmps,params:=q.params,assign:=q.assign,body:=q.body,defers:=q.defers }
def Yv (w1:World) (G:GH) (L:OL) (Jn:GH→OL→Prop) (Jx:GH→OL→Prop):Ending→World→Prop:=fB w1 G L fun v G' L'=>∃ b,v=.bool b∧(b=true→Jn G' L')∧(b=false→Jx G' L')
theorem FR {b:Nat} {o:Obj} (o':Obj) (h:w.heap[b]?=some o):xP b o' w (w.putObj b o') :=
 ⟨rfl,rfl,rfl,World.putObj_size,World.putObj_heap_same (lt_of_heap h),fun _ hk=>World.putObj_heap_other hk⟩
theorem Zw {l:Nat} {q:Rec} {c:Code} {R:Ending→World→Prop} (H:St N D w0 F G0 G ((l,q.at .ready none) :: L) T a w)
  (k:∀ w',St N D w0 F G0 G ((l,q.at .busy none) :: L) T a w'→WP (some l) P c (roundPost P l R) a w') :
  ∃ w₂,(Instr.beginRound l).run P w=.ok () w₂∧c.wpIn (FW (some l)) 0 P (roundPost P l R) a w₂:=by
 have hl:=H.hp.own _ (gP)
 refine ⟨_,run_beginRound hl rfl,k _ (H.move ?_)⟩
 exact H.hp.upd (i:=0) rfl (FR _ hl)
theorem Ko {l:Nat} {q:Rec} {w1:World} {G1:GH} {L1:OL} {Jn Jx:GH→OL→Prop} (jump:Option Code) (H:St N D w1 (Fr w1 L1) G1 G ((l,q.at .busy none) :: L) T a w)
  (h:match jump with|none=>Jn G ((l,q.at .ready none) :: L)|some c=>Jx G ((l,q.at .done (some c)) :: L)) :
  ∃ v w',(Instr.endRound l jump).run P w=.ok v w'∧Yv w1 G1 L1 Jn Jx (.returned v) w':=by
 have hl:=H.hp.own _ (gP)
 refine ⟨_,_,run_endRound jump hl,?_⟩
 cases jump with
 | none=>exact Hp.dO (H.hp.upd (i:=0) rfl (FR _ hl)) ⟨true,rfl,fun _=>h,fun e=>by cases e⟩
 | some c=>exact Hp.dO (H.hp.upd (i:=0) rfl (FR _ hl)) ⟨false,rfl,fun e=>(by cases e),fun _=>h⟩
def Jr (l:Nat) (q:Rec) (bk:OL) (J:GH→OL→Prop):GH→OL→Prop:=fun G L=>∃ Lu,L=(l,q.at .ready none) :: (bk++Lu)∧J G Lu
def N9 (l:Nat) (q:Rec) (bk:OL) (Jx:Code→GH→OL→Prop):GH→OL→Prop:=fun G L=>∃ c Lu,L=(l,q.at .done (some c)) :: (bk++Lu)∧Jx c G Lu
def SL (P:Program) (N:Nat) (ps:List Nat) (assign body:Code) (T:List (Nat × ak)) (G:GH) (J:Nat→GH→OL→Prop) (Jx:Code→GH→OL→Prop) (xs:List AP):Prop :=
 ∀ (l:Nat) (q:Rec) (bk:OL) (k:Nat) (args:List ak) (G1:GH) (L1:OL) (w1:World) (a1:Act),xK xs k args G1→(∀ b o,G b=some o→G1 b=some o)→J k G1 L1 →
  St N [] w1 (Fr w1 ((l,q.at .ready none) :: (bk++L1))) G1 G1 ((l,q.at .ready none) :: (bk++L1)) (uj ps args T) a1 w1 →
  WP (some l) P assign (Exit.then (fun a2 w2=>∃ w3,(Instr.beginRound l).run P w2=.ok () w3∧body.wpIn (FW (some l)) 0 P (roundPost P l (Yv w1 G1 ((l,q.at .ready none) :: (bk++L1)) (Jr l q bk (J (k+1))) (N9 l q bk Jx))) a2 w3) (fun _ _ _=>False)) a1 w1
theorem ZE {fn:FuncId} {tm:Array ak} {ps:List Nat} {assign body:Code} {df l:Nat} {bk:OL} {J:Nat→GH→OL→Prop} {Jx:Code→GH→OL→Prop} {xs:List AP} (h1:tm.size=N) (h2:∀ t v,lk T t=some v→tm[t]?=some v)
  (hps:ps.all (Nat.blt · N)=true) (hlen:∀ k args g,xK xs k args g→args.length=ps.length) (hr:SL P N ps assign body T G J Jx xs) :
  Ev P (.func (.yield l) #[] #[]) G xs (fun k=>Jr l ⟨fn,tm,ps.toArray,assign,body,df⟩ bk (J k)) (N9 l ⟨fn,tm,ps.toArray,assign,body,df⟩ bk Jx):=by
 intro k args G1 L1 w1 hk hm hJ ho
 obtain ⟨Lu,rfl,hJ⟩:=hJ
 have hl:=ho.own _ (gP)
 have hargs:args.toArray.size=ps.toArray.size:=by simpa using hlen k args _ hk
 have hy:=run_yield (P:=P) (args:=args.toArray) hl hargs
 have hz:(ps.toArray.zip args.toArray).foldl (fun tmps (x:Nat × ak)=>tmps.setIfInBounds x.1 x.2) tm=(ps.zip args).foldl (fun t (x:Nat × ak)=>t.setIfInBounds x.1 x.2) tm:=by
  simp [List.zip_toArray]
 obtain ⟨z1,z2⟩:=afs ps args T tm h1 h2 hps
 refine ⟨?_⟩
 have e:(do let d ← Deferred.ofValue (.func (.yield l) #[] #[]) args.toArray;invoke d.target d.args:Sem Next).run P w1=.ok (.round l fn ((ps.zip args).foldl (fun t (x:Nat × ak)=>t.setIfInBounds x.1 x.2) tm) assign body) w1:=by
  simp only [Deferred.ofValue,pure_bind,invoke,Array.empty_append]
  rw [← hz]
  exact hy
 rw [e]
 refine roundIn_of_wpIn (F:=FW none) trivial ?_
 exact hr l _ bk k args G1 Lu w1 { tmps:=_,defers:=[] } hk hm hJ ⟨z1,z2,rfl,ho.hp⟩
theorem ahx {AB:Operand} {ps:List Nat} {assign body:Code} {gf:FuncId} {caps:List ak} {xs:List AP} {Gi:GH}
  (H:St N D w0 F G0 G L T a w) (hg:ev T AB=some (.func (.func gf) #[] caps.toArray)) (en:∀ args w,(callFunc gf args).run P w=.ok (.enter gf args) w) (hit:Iter P Gi (.func (.func gf) #[] caps.toArray) xs) (hGi:∀ b o,Gi b=some o→G b=some o)
  (hps:ps.all (Nat.blt · N)=true) (hlen:∀ k args g,xK xs k args g→args.length=ps.length)
  (J:Nat→GH→OL→Prop) (Jx:Code→GH→OL→Prop) (lT:EB J) (hJx:∀ c,GD (Jx c)) (h0:J 0 G L) (VW:SL P N ps assign body T G J Jx xs)
  (hdone:∀ Dk G1 L1 a1 w1,(∀ b o,G b=some o→G1 b=some o)→J xs.length G1 L1→St N ({ target:=.collected Dk,args:=#[] } :: D) w0 F G0 G1 ((Dk,.deferred (some [])) :: L1) T a1 w1→Q .normal a1 w1)
  (hstop:∀ Dk c G1 L1 a1 w1,(∀ b o,G b=some o→G1 b=some o)→Jx c G1 L1→St N ({ target:=.collected Dk,args:=#[] } :: D) w0 F G0 G1 ((Dk,.deferred (some [])) :: L1) T a1 w1→WP none P c Q a1 w1) :
  WP none P (.rangeFunc AB ps.toArray assign body) Q a w:=by
 refine wpIn_rangeFunc ?_
 intro fn _
 have hev:=H.ev hg
 let q:Rec:=⟨fn,a.tmps,ps.toArray,assign,body,w.heap.size⟩
 obtain ⟨W1,hW1⟩:∃ W1,W1=(w.alloc (.deferred (some []))).alloc (q.at .ready none):=⟨_,rfl⟩
 have H1:Hp w0 F G0 G ((w.heap.size+1,q.at .ready none) :: (w.heap.size,.deferred (some [])) :: L) W1:=by
  have:=(H.hp.alloc (.deferred (some []))).alloc (q.at .ready none)
  rw [World.size_alloc] at this
  rw [hW1];exact this
 refine ⟨w.heap.size+1,[{ target:=.collected w.heap.size,args:=#[] }],W1,{ target:=.fn (.func gf) caps.toArray,args:=#[.func (.yield (w.heap.size+1)) #[] #[]] },W1,gf,
  #[.func (.yield (w.heap.size+1)) #[] #[]]++caps.toArray,W1,by rw [hW1];exact run_enterLoop_outer fn a.tmps ps.toArray assign body,?_,fun _ _=>trivial,?_,NZ none,?_⟩
 ·simp only [resolve,rangeCall,hev]
  simp [Deferred.ofValue,Act.eval]
 ·simp [invoke,en]
 ·have hcv:=hit (fun k=>Jr (w.heap.size+1) q [(w.heap.size,.deferred (some []))] (J k)) (N9 (w.heap.size+1) q [(w.heap.size,.deferred (some []))] Jx) (.func (.yield (w.heap.size+1)) #[] #[]) G
   ((w.heap.size+1,q.at .ready none) :: (w.heap.size,.deferred (some [])) :: L) W1 rfl hGi (fun k G G' L hm ⟨Lu,e,h⟩=>⟨Lu,e,lT k G G' Lu hm h⟩) (fun G G' L hm ⟨c,Lu,e,h⟩=>⟨c,Lu,e,hJx c G G' Lu hm h⟩) ⟨L,rfl,h0⟩ (Hp.owns (Li:=[]) H1) (ZE H.nu H.get hps hlen VW)
  replace hcv:=hcv.go
  have e:(do let d ← Deferred.ofValue (.func (.func gf) #[] caps.toArray) [Value.func (.yield (w.heap.size+1)) #[] #[]].toArray;invoke d.target d.args:Sem Next).run P W1=.ok (.enter gf (#[.func (.yield (w.heap.size+1)) #[] #[]]++caps.toArray)) W1:=by
   simp [Deferred.ofValue,invoke,en]
  rw [e] at hcv
  refine (Tn hcv).mono ?_
  rintro e w2 ⟨v,G2,L2,rfl,hch,hJ⟩
  have H2:=Hp.change (Li:=[]) H1 hch
  rcases hJ with ⟨Lu,rfl,hJ⟩|⟨c,Lu,rfl,hJ⟩
  ·have hl:=H2.own _ (gP)
   have H3:=(H2.upd (i:=0) rfl (FR (q.at .exhausted none) hl)).drop (BO _ _)
   exact ⟨none,_,run_endLoop hl (by simp),hdone _ G2 Lu _ _ hch.gm hJ ⟨H.nu,H.get,by simp [H.uz],H3⟩⟩
  ·have hl:=H2.own _ (gP)
   have H3:=(H2.upd (i:=0) rfl (FR (q.at .exhausted (some c)) hl)).drop (BO _ _)
   exact ⟨some c,_,run_endLoop hl (by simp),hstop _ c G2 Lu _ _ hch.gm hJ ⟨H.nu,H.get,by simp [H.uz],H3⟩⟩
theorem Bl {fn:Func} {R:Ending→World→Prop} {b:Nat} (H:St N ({ target:=.collected b,args:=#[] } :: D) w0 F G0 G L T a w) (i:Nat) (hi:L[i]?=some (b,.deferred (some [])))
  (k:∀ a' w',St N D w0 F G0 G (L.eraseIdx i) T a' w'→bodyPostM (FW none) 0 P fn R .ret a' w'):bodyPostM (FW none) 0 P fn R .ret a w∧bodyPostM (FW none) 0 P fn R .normal a w:=by
 have hb:=H.hp.own _ (mg hi)
 have H2:=(H.hp.upd hi (FR (.deferred none) hb)).drop (L':=L.eraseIdx i) (by
  have h1:(L.set i (b,.deferred none)).eraseIdx i=L.eraseIdx i:=by
   apply List.ext_getElem?
   intro j
   simp only [List.getElem?_eraseIdx,List.getElem?_set]
   split <;> split <;> first|rfl|omega
  rw [← h1];exact List.eraseIdx_sublist _ _)
 have hk:=k { a with defers:=D } _ ⟨H.nu,H.get,rfl,H2⟩
 have h1:LeavesInM (FW none) 0 P fn a.tmps R a.defers .returning w:=by
  rw [H.uz]
  exact ⟨by simp,.inl ⟨b,_,rfl,run_takeDeferred hb,hk⟩⟩
 exact ⟨h1,h1⟩
theorem St.giveUp {b:Nat} {o:Obj} (h:St N D w0 F G0 G L T a w) (i:Nat) (hi:L[i]?=some (b,o)):St N D w0 F G0 (G.add b o) (L.eraseIdx i) T a w:=⟨h.nu,h.get,h.uz,h.hp.giveUp i hi⟩
theorem St.abq {b:Nat} {o:Obj} (h:St N D w0 F G0 G L T a w) (i:Nat) (hi:L[i]?=some (b,o)):G b=none:=h.hp.uU _ (mg hi)
theorem iM {f:FuncId} {fn:Func} {c:Code} {vs:List ak} {R:Ending→World→Prop} (hf:P.funcs[f]?=some fn) (hb:fn.body=some c) (hN:fn.ntmps=N) (hle:Nat.ble vs.length N=true)
  (hT:GJ 0 vs=T) (ho:fM G L w) (h:∀ a,St N [] w (Fr w L) G G L T a w→WP none P c (bodyPostM (FW none) 0 P fn R) a w):Calls P f vs.toArray w R :=
 enter hf hb hN hle hT ho.ro (fun _ hk=>hk.1) ho.own ho.sep (fun p hp hf=>hf.2 p hp rfl) ho.nd h
end steps
end
section
open Go.RowKit
inductive Dat where
 | lf (v:ak)
 | sl (sz:Nat) (rows:List (List Dat))
mutual
def ay (G:GH):Dat→ak→Prop
 | .lf u,v=>v=u∧Value.oneCell' u=true
 | .sl sz rows,v=>∃ A c,v=.slice A rows.length c∧rows.length≤c∧c≤maxLen∧(rows≠[]→∃ b o,A=some ⟨b,o,none⟩∧mY G sz b o rows)
def mY (G:GH) (sz b:Nat):Nat→List (List Dat)→Prop
 | _,[]=>True
 | o,r :: rs=>(∃ cs,cs.length=sz∧(∀ j v,cs[j]?=some v→aC G b (o+j)=some v)∧aZ G r cs)∧mY G sz b (o+sz) rs
def aZ (G:GH):List Dat→List ak→Prop
 | [],cs=>cs=[]
 | d :: ds,cs=>∃ v vs,cs=v :: vs∧ay G d v∧aZ G ds vs
end
theorem aD {G G':GH} (hm:∀ k o,G k=some o→G' k=some o) {b o:Nat} {v:ak} (h:aC G b o=some v):aC G' b o=some v:=by
 unfold aC at h ⊢
 cases hg:G b with
 | none=>rw [hg] at h;cases h
 | some ob=>rw [hg] at h;rw [hm b ob hg];exact h
mutual
theorem ay.mono {G G':GH} (hm:∀ k o,G k=some o→G' k=some o):∀ {d:Dat} {v:ak},ay G d v→ay G' d v
 | .lf u,v,h=>by simpa [ay] using h
 | .sl sz rows,v,h=>by
  simp only [ay] at h ⊢
  obtain ⟨A,c,h1,h2,h3,h4⟩:=h
  exact ⟨A,c,h1,h2,h3,fun hn=>let ⟨b,o,e,hr⟩:=h4 hn;⟨b,o,e,mY.mono hm hr⟩⟩
theorem mY.mono {G G':GH} (hm:∀ k o,G k=some o→G' k=some o) {sz b:Nat}:∀ {rows:List (List Dat)} {o:Nat},mY G sz b o rows→mY G' sz b o rows
 | [],o,_=>by simp [mY]
 | r :: rs,o,h=>by
  simp only [mY] at h ⊢
  obtain ⟨⟨cs,h1,h2,h3⟩,h4⟩:=h
  exact ⟨⟨cs,h1,fun j v hj=>aD hm (h2 j v hj),aZ.mono hm h3⟩,mY.mono hm h4⟩
theorem aZ.mono {G G':GH} (hm:∀ k o,G k=some o→G' k=some o):∀ {ds:List Dat} {cs:List ak},aZ G ds cs→aZ G' ds cs
 | [],cs,h=>by simpa [aZ] using h
 | d :: ds,cs,h=>by
  simp only [aZ] at h ⊢
  obtain ⟨v,vs,h1,h2,h3⟩:=h
  exact ⟨v,vs,h1,ay.mono hm h2,aZ.mono hm h3⟩
end
theorem mY.get {G:GH} {sz b:Nat}:∀ {rows:List (List Dat)} {o k:Nat} {r:List Dat},mY G sz b o rows→rows[k]?=some r→∃ cs,cs.length=sz∧(∀ j v,cs[j]?=some v→aC G b (o+k*sz+j)=some v)∧aZ G r cs
 | [],_,_,_,_,h=>by simp at h
 | r :: rs,o,0,q,h,hk=>by
  simp only [BN,nQ] at hk
  subst hk
  simp only [mY] at h
  simpa using h.1
 | r :: rs,o,k+1,q,h,hk=>by
  simp only [List.getElem?_cons_succ] at hk
  simp only [mY] at h
  obtain ⟨cs,h1,h2,h3⟩:=mY.get h.2 hk
  exact ⟨cs,h1,fun j v hj=>by rw [← h2 j v hj];congr 1;rw [Nat.succ_mul];omega,h3⟩
theorem ay.slice {G:GH} {sz:Nat} {rows:List (List Dat)} {v:ak} (h:ay G (.sl sz rows) v):∃ A c,v=.slice A rows.length c∧rows.length≤c∧c≤maxLen ∧
  ∀ k r,rows[k]?=some r→∃ b o cs,A=some ⟨b,o,none⟩∧cs.length=sz∧(∀ j u,cs[j]?=some u→aC G b (o+k*sz+j)=some u)∧aZ G r cs:=by
 simp only [ay] at h
 obtain ⟨A,c,h1,h2,h3,h4⟩:=h
 refine ⟨A,c,h1,h2,h3,fun k r hk=>?_⟩
 obtain ⟨b,o,e,hr⟩:=h4 (by rintro rfl;simp at hk)
 obtain ⟨cs,g1,g2,g3⟩:=hr.get hk
 exact ⟨b,o,cs,e,g1,g2,g3⟩
theorem mY.mk {G:GH} {sz b:Nat}:∀ {rows:List (List Dat)} {o:Nat},(∀ k r,rows[k]?=some r→∃ cs,cs.length=sz∧(∀ j u,cs[j]?=some u→aC G b (o+k*sz+j)=some u)∧aZ G r cs)→mY G sz b o rows
 | [],o,_=>by simp [mY]
 | r :: rs,o,h=>by
  simp only [mY]
  refine ⟨by simpa using h 0 r rfl,mY.mk fun k q hk=>?_⟩
  obtain ⟨cs,h1,h2,h3⟩:=h (k+1) q (by simpa using hk)
  exact ⟨cs,h1,fun j v hj=>by rw [← h2 j v hj];congr 1;rw [Nat.succ_mul];omega,h3⟩
abbrev vi (n:Int):ak:=.int .i64 n
structure gB where
 key:Int
 value:Int
structure iK where
 rev:Int
 move:Int
structure iO where
 rev:Int
 key:Int
 before:Int
 had:Bool
structure yO where
 ins:Int
 move:Int
 bg:List iK
 layers:List iO
structure cu where
 props:List gB
 marks:yO
mutual
inductive av where
 | mk (kind code id:Int) (text:ByteArray) (head:cu) (flow:List av) (rows:List aS)
inductive aS where
 | mk (head:cu) (cells:List aR)
inductive aR where
 | mk (id:Int) (head:cu) (flow:List av)
end
namespace av
def kind:av→Int|.mk k _ _ _ _ _ _=>k
def code:av→Int|.mk _ c _ _ _ _ _=>c
def id:av→Int|.mk _ _ i _ _ _ _=>i
def text:av→ByteArray|.mk _ _ _ t _ _ _=>t
def head:av→cu|.mk _ _ _ _ h _ _=>h
def flow:av→List av|.mk _ _ _ _ _ f _=>f
def rows:av→List aS|.mk _ _ _ _ _ _ r=>r
end av
namespace aS
def head:aS→cu|.mk h _=>h
def cells:aS→List aR|.mk _ c=>c
end aS
namespace aR
def id:aR→Int|.mk i _ _=>i
def head:aR→cu|.mk _ h _=>h
def flow:aR→List av|.mk _ _ f=>f
end aR
abbrev li (n:Int):Dat:=.lf (.int .i64 n)
def gB.dat (p:gB):List Dat:=[li p.key,li p.value]
def iK.dat (p:iK):List Dat:=[li p.rev,li p.move]
def iO.dat (p:iO):List Dat:=[li p.rev,li p.key,li p.before,.lf (.bool p.had)]
def yO.dat (m:yO):List Dat:=[li m.ins,li m.move,.sl 2 (m.bg.map iK.dat),.sl 4 (m.layers.map iO.dat)]
def cu.dat (h:cu):List Dat:=.sl 2 (h.props.map gB.dat) :: h.marks.dat
mutual
def av.dat:av→List Dat
 | .mk k c i t h f r=>li k :: li c :: li i :: .lf (.string t) :: (h.dat++[.sl 11 (Jo f),.sl 6 (LV r)])
def aS.dat:aS→List Dat
 | .mk h cs=>h.dat++[.sl 7 (LU cs)]
def aR.dat:aR→List Dat
 | .mk i h f=>li i :: (h.dat++[.sl 11 (Jo f)])
def Jo:List av→List (List Dat)
 | []=>[]
 | x :: r=>x.dat :: Jo r
def LV:List aS→List (List Dat)
 | []=>[]
 | x :: r=>x.dat :: LV r
def LU:List aR→List (List Dat)
 | []=>[]
 | x :: r=>x.dat :: LU r
end
theorem TH:∀ l:List av,Jo l=l.map av.dat
 | []=>by simp [Jo]
 | x :: r=>by simp [Jo,TH r]
theorem Z5:∀ l:List aS,LV l=l.map aS.dat
 | []=>by simp [LV]
 | x :: r=>by simp [LV,Z5 r]
theorem Z4:∀ l:List aR,LU l=l.map aR.dat
 | []=>by simp [LU]
 | x :: r=>by simp [LU,Z4 r]
theorem av.qQ (x:av):x.dat=li x.kind :: li x.code :: li x.id :: .lf (.string x.text) :: (x.head.dat++[.sl 11 (x.flow.map av.dat),.sl 6 (x.rows.map aS.dat)]):=by
 cases x;simp [av.dat,av.kind,av.code,av.id,av.text,av.head,av.flow,av.rows,TH,Z5]
theorem aS.qQ (x:aS):x.dat=x.head.dat++[.sl 7 (x.cells.map aR.dat)]:=by
 cases x;simp [aS.dat,aS.head,aS.cells,Z4]
theorem aR.qQ (x:aR):x.dat=li x.id :: (x.head.dat++[.sl 11 (x.flow.map av.dat)]):=by
 cases x;simp [aR.dat,aR.id,aR.head,aR.flow,TH]
structure gW (G:GH) (x:cu) (p d l:ak):Prop where
 props:ay G (.sl 2 (x.props.map gB.dat)) p
 bg:ay G (.sl 2 (x.marks.bg.map iK.dat)) d
 layers:ay G (.sl 4 (x.marks.layers.map iO.dat)) l
theorem gW.mono {G G':GH} (hm:∀ k o,G k=some o→G' k=some o) {x:cu} {p d l:ak} (h:gW G x p d l):gW G' x p d l:=⟨h.props.mono hm,h.bg.mono hm,h.layers.mono hm⟩
theorem ay.form {G:GH} {sz:Nat} {rows:List (List Dat)} {v:ak} (h:ay G (.sl sz rows) v):∃ A n c,v=.slice A n c:=by
 obtain ⟨A,c,h,_⟩:=h.slice
 exact ⟨A,_,c,h⟩
theorem aZ.item {G:GH} {x:av} {cs:List ak} (h:aZ G x.dat cs):∃ pA pn pc dA dn dc lA ln lc fA fn fc rA rn rc,cs=[vi x.kind,vi x.code,vi x.id,.string x.text,.slice pA pn pc,vi x.head.marks.ins,vi x.head.marks.move,.slice dA dn dc,.slice lA ln lc,.slice fA fn fc,.slice rA rn rc] ∧
  gW G x.head (.slice pA pn pc) (.slice dA dn dc) (.slice lA ln lc)∧ay G (.sl 11 (x.flow.map av.dat)) (.slice fA fn fc)∧ay G (.sl 6 (x.rows.map aS.dat)) (.slice rA rn rc):=by
 rw [av.qQ] at h
 simp only [cu.dat,yO.dat,kr,jv,aZ] at h
 obtain ⟨v1,_,rfl,h1,v2,_,rfl,h2,v3,_,rfl,h3,v4,_,rfl,h4,p,_,rfl,hp,v5,_,rfl,h5,v6,_,rfl,h6,d,_,rfl,hd,l,_,rfl,hl,f,_,rfl,hf,r,_,rfl,hr,rfl⟩:=h
 obtain ⟨pA,pn,pc,rfl⟩:=hp.form
 obtain ⟨dA,dn,dc,rfl⟩:=hd.form
 obtain ⟨lA,ln,lc,rfl⟩:=hl.form
 obtain ⟨fA,fn,fc,rfl⟩:=hf.form
 obtain ⟨rA,rn,rc,rfl⟩:=hr.form
 simp only [ay] at h1 h2 h3 h4 h5 h6
 obtain ⟨rfl,-⟩:=h1;obtain ⟨rfl,-⟩:=h2;obtain ⟨rfl,-⟩:=h3;obtain ⟨rfl,-⟩:=h4;obtain ⟨rfl,-⟩:=h5;obtain ⟨rfl,-⟩:=h6
 exact ⟨pA,pn,pc,dA,dn,dc,lA,ln,lc,fA,fn,fc,rA,rn,rc,rfl,⟨hp,hd,hl⟩,hf,hr⟩
theorem aZ.row {G:GH} {x:aS} {cs:List ak} (h:aZ G x.dat cs):∃ pA pn pc dA dn dc lA ln lc cA cn cc,cs=[.slice pA pn pc,vi x.head.marks.ins,vi x.head.marks.move,.slice dA dn dc,.slice lA ln lc,.slice cA cn cc]∧gW G x.head (.slice pA pn pc) (.slice dA dn dc) (.slice lA ln lc)∧ay G (.sl 7 (x.cells.map aR.dat)) (.slice cA cn cc):=by
 rw [aS.qQ] at h
 simp only [cu.dat,yO.dat,kr,jv,aZ] at h
 obtain ⟨p,_,rfl,hp,v5,_,rfl,h5,v6,_,rfl,h6,d,_,rfl,hd,l,_,rfl,hl,f,_,rfl,hf,rfl⟩:=h
 obtain ⟨pA,pn,pc,rfl⟩:=hp.form
 obtain ⟨dA,dn,dc,rfl⟩:=hd.form
 obtain ⟨lA,ln,lc,rfl⟩:=hl.form
 obtain ⟨fA,fn,fc,rfl⟩:=hf.form
 simp only [ay] at h5 h6
 obtain ⟨rfl,-⟩:=h5;obtain ⟨rfl,-⟩:=h6
 exact ⟨pA,pn,pc,dA,dn,dc,lA,ln,lc,fA,fn,fc,rfl,⟨hp,hd,hl⟩,hf⟩
theorem aZ.cell {G:GH} {x:aR} {cs:List ak} (h:aZ G x.dat cs):∃ pA pn pc dA dn dc lA ln lc fA fn fc,cs=[vi x.id,.slice pA pn pc,vi x.head.marks.ins,vi x.head.marks.move,.slice dA dn dc,.slice lA ln lc,.slice fA fn fc]∧gW G x.head (.slice pA pn pc) (.slice dA dn dc) (.slice lA ln lc)∧ay G (.sl 11 (x.flow.map av.dat)) (.slice fA fn fc):=by
 rw [aR.qQ] at h
 simp only [cu.dat,yO.dat,kr,jv,aZ] at h
 obtain ⟨v1,_,rfl,h1,p,_,rfl,hp,v5,_,rfl,h5,v6,_,rfl,h6,d,_,rfl,hd,l,_,rfl,hl,f,_,rfl,hf,rfl⟩:=h
 obtain ⟨pA,pn,pc,rfl⟩:=hp.form
 obtain ⟨dA,dn,dc,rfl⟩:=hd.form
 obtain ⟨lA,ln,lc,rfl⟩:=hl.form
 obtain ⟨fA,fn,fc,rfl⟩:=hf.form
 simp only [ay] at h1 h5 h6
 obtain ⟨rfl,-⟩:=h1;obtain ⟨rfl,-⟩:=h5;obtain ⟨rfl,-⟩:=h6
 exact ⟨pA,pn,pc,dA,dn,dc,lA,ln,lc,fA,fn,fc,rfl,⟨hp,hd,hl⟩,hf⟩
theorem ay.one {G:GH}:∀ {d:Dat} {v:ak},ay G d v→Value.oneCell' v=true
 | .lf u,v,h=>by simp only [ay] at h;rw [h.1];exact h.2
 | .sl sz rows,v,h=>by obtain ⟨A,n,c,rfl⟩:=h.form;rfl
theorem aZ.one {G:GH}:∀ {ds:List Dat} {cs:List ak},aZ G ds cs→cs.all Value.oneCell'=true
 | [],cs,h=>by simp only [aZ] at h;subst h;rfl
 | d :: ds,cs,h=>by
  simp only [aZ] at h
  obtain ⟨v,vs,rfl,h1,h2⟩:=h
  simp only [List.all_cons,h1.one,h2.one,Bool.and_self]
theorem aZ.length {G:GH}:∀ {ds:List Dat} {cs:List ak},aZ G ds cs→cs.length=ds.length
 | [],cs,h=>by simp only [aZ] at h;subst h;rfl
 | d :: ds,cs,h=>by
  simp only [aZ] at h
  obtain ⟨v,vs,rfl,h1,h2⟩:=h
  simp [h2.length]
theorem aZ.mkItem {G:GH} {x:av} {p d l f r:ak} (hh:gW G x.head p d l) (hf:ay G (.sl 11 (x.flow.map av.dat)) f) (hr:ay G (.sl 6 (x.rows.map aS.dat)) r) :
  aZ G x.dat [vi x.kind,vi x.code,vi x.id,.string x.text,p,vi x.head.marks.ins,vi x.head.marks.move,d,l,f,r]:=by
 rw [av.qQ]
 simp only [cu.dat,yO.dat,kr,jv,aZ]
 exact ⟨_,_,rfl,by simp [ay,Value.oneCell'],_,_,rfl,by simp [ay,Value.oneCell'],_,_,rfl,by simp [ay,Value.oneCell'],_,_,rfl,by simp [ay,Value.oneCell'],_,_,rfl,hh.props,_,_,rfl,by simp [ay,Value.oneCell'],_,_,rfl,by simp [ay,Value.oneCell'],_,_,rfl,hh.bg,_,_,rfl,hh.layers,_,_,rfl,hf,_,_,rfl,hr,rfl⟩
theorem aZ.QU {G:GH} {x:aS} {p d l c:ak} (hh:gW G x.head p d l) (hc:ay G (.sl 7 (x.cells.map aR.dat)) c) :
  aZ G x.dat [p,vi x.head.marks.ins,vi x.head.marks.move,d,l,c]:=by
 rw [aS.qQ]
 simp only [cu.dat,yO.dat,kr,jv,aZ]
 exact ⟨_,_,rfl,hh.props,_,_,rfl,by simp [ay,Value.oneCell'],_,_,rfl,by simp [ay,Value.oneCell'],_,_,rfl,hh.bg,_,_,rfl,hh.layers,_,_,rfl,hc,rfl⟩
theorem aZ.Ke {G:GH} {x:aR} {p d l f:ak} (hh:gW G x.head p d l) (hf:ay G (.sl 11 (x.flow.map av.dat)) f) :
  aZ G x.dat [vi x.id,p,vi x.head.marks.ins,vi x.head.marks.move,d,l,f]:=by
 rw [aR.qQ]
 simp only [cu.dat,yO.dat,kr,jv,aZ]
 exact ⟨_,_,rfl,by simp [ay,Value.oneCell'],_,_,rfl,hh.props,_,_,rfl,by simp [ay,Value.oneCell'],_,_,rfl,by simp [ay,Value.oneCell'],_,_,rfl,hh.bg,_,_,rfl,hh.layers,_,_,rfl,hf,rfl⟩
mutual
def nP:Dat→Nat
 | .lf v=>(match v with|.string s=>s.size|_=>0)+1
 | .sl _ rows=>1+dY rows
def dY:List (List Dat)→Nat
 | []=>0
 | r :: rs=>1+bM r+dY rs
def bM:List Dat→Nat
 | []=>0
 | d :: ds=>nP d+bM ds
end
theorem NH (a b:List (List Dat)):dY (a++b)=dY a+dY b:=by
 induction a with
 | nil=>simp [dY]
 | cons x a ih=>simp only [kr,dY,ih];omega
theorem XT (a b:List Dat):bM (a++b)=bM a+bM b:=by
 induction a with
 | nil=>simp [bM]
 | cons x a ih=>simp only [kr,bM,ih];omega
theorem lK:∀ rows:List (List Dat),rows.length≤dY rows
 | []=>bX _
 | r :: rs=>by have:=lK rs;simp only [jS,dY];omega
theorem RL:∀ {rows:List (List Dat)} {k:Nat} {r:List Dat},rows[k]?=some r→bM r < dY rows
 | [],_,_,h=>by simp at h
 | q :: rs,0,r,h=>by simp only [BN,nQ] at h;subst h;simp only [dY];omega
 | q :: rs,k+1,r,h=>by have:=RL (rows:=rs) (k:=k) (r:=r) (by simpa using h);simp only [dY];omega
abbrev aX (l:List av):Nat:=dY (l.map av.dat)
abbrev eD (l:List aS):Nat:=dY (l.map aS.dat)
abbrev gH (l:List aR):Nat:=dY (l.map aR.dat)
abbrev oN (h:cu):Nat:=bM h.dat
theorem BF (h:cu):oN h=dY (h.props.map gB.dat)+dY (h.marks.bg.map iK.dat)+dY (h.marks.layers.map iO.dat)+5:=by
 simp only [oN,cu.dat,yO.dat,bM,nP];omega
theorem pU (x:av):bM x.dat=x.text.size+oN x.head+aX x.flow+eD x.rows+6:=by
 rw [av.qQ];simp only [bM,nP,XT,oN,aX,eD,gH];omega
theorem tO (x:aS):bM x.dat=oN x.head+gH x.cells+1:=by
 rw [aS.qQ];simp only [bM,nP,XT,oN,aX,eD,gH];omega
theorem uZ (x:aR):bM x.dat=oN x.head+aX x.flow+2:=by
 rw [aR.qQ];simp only [bM,nP,XT,oN,aX,eD,gH];omega
theorem KE {l:List av} {k:Nat} (h:k < l.length):l[k].text.size+oN l[k].head+aX l[k].flow+eD l[k].rows+6 < aX l:=by
 rw [← pU];exact RL (k:=k) (by simp [h])
theorem I6 {l:List aS} {k:Nat} (h:k < l.length):oN l[k].head+gH l[k].cells+1 < eD l:=by
 rw [← tO];exact RL (k:=k) (by simp [h])
theorem KD {l:List aR} {k:Nat} (h:k < l.length):oN l[k].head+aX l[k].flow+2 < gH l:=by
 rw [← uZ];exact RL (k:=k) (by simp [h])
theorem BG (l:List av):l.length≤aX l:=by have:=lK (l.map av.dat);simpa using this
theorem BH (l:List aS):l.length≤eD l:=by have:=lK (l.map aS.dat);simpa using this
theorem BD (l:List aR):l.length≤gH l:=by have:=lK (l.map aR.dat);simpa using this
theorem RN {r:List Dat}:∀ {rows:List (List Dat)},r∈rows→bM r < dY rows
 | [],h=>by cases h
 | q :: rs,h=>by
  rcases kZ.1 h with rfl|h
  ·simp only [dY];omega
  ·have:=RN h;simp only [dY];omega
theorem I5 {x:av} {l:List av} (h:x∈l):bM x.dat < aX l:=RN (List.mem_map_of_mem h)
theorem Sk {x:aS} {l:List aS} (h:x∈l):bM x.dat < eD l:=RN (List.mem_map_of_mem h)
theorem Sj {x:aR} {l:List aR} (h:x∈l):bM x.dat < gH l:=RN (List.mem_map_of_mem h)
end
section
open Go.RowKit
def yT (l:List Oper) (i:Nat):List Nat:=match l[i]? with|some o=>(o.after.toList.filter (Region.binds .any)).map (·.on)|none=>[]
def fH (l:List Oper) (i:Nat):Option Nat:=(l[i]?).bind (·.dst)
def EP (l:List Oper) (dH:List (List Nat)):Bool :=
 (List.range l.length).all fun i=>(yT l i).all (fun j=>Nat.blt j i) && (dH.getD i []).all fun j=>(yT l i).contains j || (yT l i).any fun k=>Nat.blt k i && (dH.getD k []).contains j
def gy (S:Nat→Bool) (i:Nat):Nat→Bool:=fun j=>if j=i then true else S j
section
variable {r:Option Nat} {P:Program} {Q:Exit→Act→World→Prop} {l:List Oper} {dH:List (List Nat)} {a:Act} {w:World}
theorem ZO (hk:EP l dH=true) {S:Nat→Bool} (hd:∀ i,S i=true→∀ j∈yT l i,S j=true):∀ i,i < l.length→(∀ j∈yT l i,S j=true)→∀ j∈dH.getD i [],S j=true:=by
 intro i
 induction i using Nat.strongRecOn with
 | _ i ih =>
  intro hi hdi j hj
  have h1:=mZ.1 hk i (vw.2 hi)
  simp only [nk,mZ] at h1
  have h2:=h1.2 j hj
  simp only [Bool.or_eq_true,Aq,List.any_eq_true,nk] at h2
  rcases h2 with h2|⟨k,hk1,hk2,hk3⟩
  ·exact hdi j h2
  ·have hlt:k < i:=Eq.mp Nat.blt_eq hk2
   exact ih k hlt (by omega) (hd k (hdi k hk1)) j hk3
theorem avD {ops:Array Oper} {i:Nat} {o:Oper} {K:Act→World→Prop} (ho:ops[i]?=some o) (h:WL r P ops (fun e a' w'=>e=.normal∧K a' w') [o] a w):wpOpIn (FW r) 0 P ops Q i K a w:=by
 unfold wpOpIn
 simp only [ho]
 have h':wpListIn (FW r) 0 P ops (fun e a' w'=>e=.normal∧K a' w') [o] a w:=h
 unfold wpListIn at h'
 by_cases hw:Region.wanted o (yielded ops a.tmps)=true
 ·rw [au hw] at h' ⊢
  refine ⟨fun _ _=>trivial,?_⟩
  have h2:=h'.2
  generalize (o.semAt (FW r).round a.eval).run P w=res at h2 ⊢
  cases res with
  | ok x w1 =>
   cases x with
   | value v=>exact h2.2
   | skip=>exact h2.2
   | defer d=>exact h2.2
   | enter f args=>exact ⟨h2.1,h2.2.mono fun e w2 he=>by
     cases e with
     | returned v=>exact he.2
     | panicked ch=>exact absurd he.1 (by simp)
     | outgrown=>obtain ⟨_,_,h3,_⟩:=he;exact absurd h3 (by simp)⟩
   | row Xz args=>exact ⟨h2.1,h2.2.mono fun v w2 he=>he.2⟩
   | round l f t Tg b=>exact ⟨h2.1,h2.2.mono fun e w2 he=>by
     cases e with
     | returned v=>exact he.2
     | panicked ch=>exact absurd he.1 (by simp)
     | outgrown=>obtain ⟨_,_,h3,_⟩:=he;exact absurd h3 (by simp)⟩
   | _=>exact h2.elim
  | halt x w1 =>
   cases x with
   | panic v=>exact absurd h2.1 (by simp)
   | _=>exact h2.elim
 ·rw [ah hw] at h' ⊢
  exact ⟨fun _ _=>trivial,h'.2.2⟩
theorem count_set {L:List Bool}:∀ {i:Nat},L[i]?=some false→(L.set i true).count false+1=L.count false:=by
 induction L with
 | nil=>intro i h;simp at h
 | cons b L ih =>
  intro i h
  cases i with
  | zero=>simp at h;subst h;simp
  | succ i =>
   simp only [List.getElem?_cons_succ] at h
   have:=ih h
   simp only [List.set_cons_succ,List.count_cons]
   omega
theorem Zz {id:Nat} (hm:P.follows .mixedOrders=true) (dH:List (List Nat)) (hk:EP l dH=true) (X:(Nat→Bool)→Act→World→Prop) (h0:X (fun _=>false) a w.drew)
  (hstep:∀ i o S a w,l[i]?=some o→X S a w→S i=false→(∀ j∈dH.getD i [],S j=true)→(∀ j,j < l.length→i∈dH.getD j []→S j=false)→WL r P l.toArray (fun e a' w'=>e=.normal∧X (gy S i) a' w') [o] a w)
  (hend:∀ S a w,(∀ i,i < l.length→S i=true)→X S a w→Q .normal a w):WP r P (.region id l.toArray true) Q a w:=by
 have key:∀ (fuel:Nat) (listed:Array Bool) (S:Nat→Bool) (a:Act) (w:World),listed.size=l.length→(∀ i,i < l.length→listed[i]?=some (S i))→listed.toList.count false≤fuel→(∀ i,i < l.length→S i=true→∀ j∈yT l i,S j=true)→(∀ i,l.length≤i→S i=false)→X S a w →
   wpAnyIn (FW r) 0 P .any l.toArray Q fuel listed a w:=by
  intro fuel
  induction fuel with
  | zero =>
   intro listed S a w hsz hS hc hdn hbig hX
   have hall:∀ i,i < l.length→S i=true:=by
    intro i hi
    cases dh:S i with
    | true=>rfl
    | false =>
     have h1:=hS i hi
     rw [dh] at h1
     have:false∈listed.toList:=mg (by simpa using h1)
     have:=List.count_pos_iff.2 this
     omega
   refine ⟨?_,hend S a w hall hX⟩
   apply List.eq_nil_iff_forall_not_mem.2
   intro i hi
   obtain ⟨h1,o,ho,-⟩:=mem_ready.1 hi
   have hil:i < l.length:=by simpa using (Array.getElem?_eq_some_iff.1 ho).1
   have h2:=hS i hil
   rw [hall i hil] at h2
   rw [Array.getD_eq_getD_getElem?,h2] at h1
   cases h1
  | succ fuel ih =>
   intro listed S a w hsz hS hc hdn hbig hX
   have hget:∀ i d,i < l.length→listed.getD i d=S i:=fun i d hi=>by rw [Array.getD_eq_getD_getElem?,hS i hi];rfl
   refine ⟨fun hnil=>?_,fun i hi=>?_⟩
   ·by_cases hall:∀ i,i < l.length→S i=true
    ·exact hend S a w hall hX
    ·exfalso
     have hex:∃ i,i < l.length∧S i=false:=by
      apply Classical.byContradiction
      intro hno
      apply hall
      intro i hi
      cases dh:S i with
      | true=>rfl
      | false=>exact absurd ⟨i,hi,dh⟩ hno
     obtain ⟨i,hi,dh,hmin⟩:∃ i,i < l.length∧S i=false∧∀ j,j < i→S j=true:=by
      obtain ⟨i0,hi0,hs0⟩:=hex
      clear hall
      induction i0 using Nat.strongRecOn with
      | _ i0 ihh =>
       by_cases hlt:∃ j,j < i0∧S j=false
       ·obtain ⟨j,hj,hsj⟩:=hlt
        exact ihh j hj (by omega) hsj
       ·refine ⟨i0,hi0,hs0,fun j hj=>?_⟩
        cases hSj:S j with
        | true=>rfl
        | false=>exact absurd ⟨j,hj,hSj⟩ hlt
     have hr:i∈Region.ready .any l.toArray listed:=by
      rw [mem_ready]
      refine ⟨by rw [hget i true hi,dh],l[i],by simp [hi],fun e he hb=>?_⟩
      have hk1:=mZ.1 hk i (vw.2 hi)
      simp only [nk,mZ] at hk1
      have hin:e.on∈yT l i:=by
       simp only [yT,dV hi,List.mem_map,List.mem_filter]
       exact ⟨e,⟨by simpa using he,hb⟩,rfl⟩
      have hlt:e.on < i:=Eq.mp Nat.blt_eq (hk1.1 _ hin)
      rw [hget _ _ (by omega)]
      exact hmin _ hlt
     rw [hnil] at hr
     cases hr
   ·obtain ⟨h1,o,ho,aor⟩:=mem_ready.1 hi
    have hil:i < l.length:=by simpa using (Array.getElem?_eq_some_iff.1 ho).1
    have ho':l[i]?=some o:=by simpa using ho
    have dh:S i=false:=by rw [← hget i true hil];exact h1
    have hdi:∀ j∈yT l i,S j=true:=by
     intro j hj
     simp only [yT,ho',List.mem_map,List.mem_filter] at hj
     obtain ⟨e,⟨he,hb⟩,rfl⟩:=hj
     have h2:=aor e (by simpa using he) hb
     by_cases hjl:e.on < l.length
     ·rwa [hget _ _ hjl] at h2
     ·have hk1:=mZ.1 hk i (vw.2 hil)
      simp only [nk,mZ] at hk1
      have hin:e.on∈yT l i:=by
       simp only [yT,ho',List.mem_map,List.mem_filter]
       exact ⟨e,⟨he,hb⟩,rfl⟩
      have hlt:e.on < i:=Eq.mp Nat.blt_eq (hk1.1 _ hin)
      omega
    have abN:∀ i,S i=true→∀ j∈yT l i,S j=true:=by
     intro k hk' j hj
     by_cases hkl:k < l.length
     ·exact hdn k hkl hk' j hj
     ·rw [hbig k (by omega)] at hk';cases hk'
    refine avD ho ?_
    have hs:=hstep i o S a w ho' hX dh (ZO hk abN i hil hdi) (fun j hjl hj=>by
     cases hSj:S j with
     | false=>rfl
     | true=>have:=ZO hk abN j hjl (hdn j hjl hSj) i hj;rw [this] at dh;cases dh)
    have hmono:∀ e a' w',(e=Exit.normal∧X (gy S i) a' w')→(e=Exit.normal∧wpAnyIn (FW r) 0 P .any l.toArray Q fuel (listed.setIfInBounds i true) a' w'):=by
     rintro e a' w' ⟨he,hX'⟩
     refine ⟨he,ih _ (gy S i) a' w' (by simpa using hsz) (fun j hj=>?_) ?_ (fun j hj hSj q hq=>?_) (fun j hj=>?_) hX'⟩
     ·rw [Array.getElem?_setIfInBounds]
      unfold gy
      by_cases e:i=j
      ·subst e;simp [hsz,hil]
      ·rw [ah e,ah (Ne.symm e)];exact hS j hj
     ·have h3:listed.toList[i]?=some false:=by have:=hS i hil;rw [dh] at this;simpa using this
      have:=count_set h3
      simp only [Array.toList_setIfInBounds]
      omega
     ·unfold gy at hSj ⊢
      split
      ·rfl
      ·split at hSj
       ·rename_i e;subst e;exact hdi q hq
       ·exact hdn j hj hSj q hq
     ·unfold gy
      rw [ah (by omega)]
      exact hbig j hj
    have hs':wpListIn (FW r) 0 P l.toArray (fun e a' w'=>e=.normal∧X (gy S i) a' w') [o] a w:=hs
    show wpListIn (FW r) 0 P l.toArray _ [o] a w
    unfold wpListIn at hs' ⊢
    split
    ·rename_i hw
     rw [au hw] at hs'
     refine ⟨fun _ _=>trivial,?_⟩
     have h2:=hs'.2
     generalize (o.semAt (FW r).round a.eval).run P w=res at h2 ⊢
     cases res with
     | ok x w1 =>
      cases x with
      | value v=>exact hmono _ _ _ h2
      | skip=>exact hmono _ _ _ h2
      | defer d=>exact hmono _ _ _ h2
      | enter f args=>exact ⟨h2.1,h2.2.mono fun e w2 he=>by
        cases e with
        | returned v=>exact hmono _ _ _ he
        | panicked ch=>exact absurd he.1 (by simp)
        | outgrown=>obtain ⟨_,_,h3,_⟩:=he;exact absurd h3 (by simp)⟩
      | row Xz args=>exact ⟨h2.1,h2.2.mono fun v w2 he=>hmono _ _ _ he⟩
      | round l f t Tg b=>exact ⟨h2.1,h2.2.mono fun e w2 he=>by
        cases e with
        | returned v=>exact hmono _ _ _ he
        | panicked ch=>exact absurd he.1 (by simp)
        | outgrown=>obtain ⟨_,_,h3,_⟩:=he;exact absurd h3 (by simp)⟩
      | _=>exact h2.elim
     | halt x w1 =>
      cases x with
      | panic v=>exact absurd h2.1 (by simp)
      | _=>exact h2.elim
    ·rename_i hw
     rw [ah hw] at hs'
     exact ⟨fun _ _=>trivial,hmono _ _ _ hs'.2⟩
 refine wpIn_region_any hm (key _ _ (fun _=>false) a w.drew (by simp) (fun i hi=>by simp [hi]) ?_ (fun _ _ h=>by cases h) (fun _ _=>rfl) h0)
 simp
end
def full (N:Nat) (a:Act):List (Nat × ak):=(List.range N).map fun t=>(t,a.tmps.getD t undef)
theorem QM (T U:List (Nat × ak)) (t:Nat):lk (T++U) t=match lk T t with|some v=>some v|none=>lk U t:=by
 induction T with
 | nil=>rfl
 | cons p T ih =>
  obtain ⟨s,v⟩:=p
  by_cases e:s=t
  ·subst e;rw [kr,yF,yF]
  ·rw [kr,xw e,xw e,ih]
theorem adL (f:Nat→ak):∀ (L:List Nat) (t:Nat),t∈L→lk (L.map fun t=>(t,f t)) t=some (f t)
 | [],_,h=>by cases h
 | s :: L,t,h=>by
  simp only [dR]
  by_cases e:s=t
  ·subst e;rw [yF]
  ·rw [xw e]
   exact adL f L t ((kZ.1 h).resolve_left (Ne.symm e))
theorem QN {N t:Nat} (a:Act) (h:t < N):lk (full N a) t=some (a.tmps.getD t undef):=adL (fun t=>a.tmps.getD t undef) _ t (vw.2 h)
section
variable {N:Nat} {D:List Deferred} {w0:World} {F:Nat→Prop} {G0 G G1 G2:GH} {L L1 L2:OL} {T Xs:List (Nat × ak)}
variable {r:Option Nat} {P:Program} {Q:Exit→Act→World→Prop} {l:List Oper} {a a':Act} {w w':World}
theorem St.full (H:St N D w0 F G0 G L T a w):St N D w0 F G0 G L (T++full N a) a w:=by
 refine ⟨H.nu,fun t v ht=>?_,H.uz,H.hp⟩
 rw [QM] at ht
 cases hT:lk T t with
 | some u=>rw [hT] at ht;simp only [nQ] at ht;subst ht;exact H.get t u hT
 | none =>
  rw [hT] at ht
  by_cases hlt:t < N
  ·rw [QN a hlt] at ht
   simp only [nQ] at ht
   have h2:t < a.tmps.size:=by rw [H.nu];exact hlt
   rw [← ht,Array.getD_eq_getD_getElem?,Array.getElem?_eq_getElem h2]
   rfl
  ·exfalso
   have:∀ (L:List Nat),t∉L→lk (L.map fun t=>(t,a.tmps.getD t undef)) t=none:=by
    intro L
    induction L with
    | nil=>intro _;rfl
    | cons s L ih=>intro h;simp only [dR];rw [xw (fun e=>h (by simp [e])),ih (fun h'=>h (by simp [h']))]
   rw [show lk (Proofs.YthmanofbmnfemaaGreat.full N a) t=none from this _ (by simp;omega)] at ht
   cases ht
theorem St.kI (H:St N D w0 F G0 G L T a w) {t:Nat} {v:ak} (h:a.tmps[t]?=some v):St N D w0 F G0 G L ((t,v) :: T) a w :=
 ⟨H.nu,fun s u hs=>by
  by_cases e:t=s
  ·subst e;rw [yF] at hs;simp only [nQ] at hs;subst hs;exact h
  ·rw [xw e] at hs;exact H.get s u hs,H.uz,H.hp⟩
def DX (N:Nat) (D:List Deferred) (w0:World) (F:Nat→Prop) (G0 G:GH) (L:OL) (T:List (Nat × ak)) (l:List Oper) (pr:Nat→ak→GH→Prop) (S:Nat→Bool) (a:Act) (w:World):Prop :=
 ∃ G1,(∀ k o,G k=some o→G1 k=some o)∧St N D w0 F G0 G1 L T a w∧∀ i d,S i=true→fH l i=some d→∃ v,a.tmps[d]?=some v∧pr i v G1
def oV (l:List Oper) (T:List (Nat × ak)) (i:Nat):Bool :=
 match fH l i with|none=>true|some d=>(lk T d).isNone && (List.range l.length).all fun j=>bif Nat.beq i j then true else !(fH l j == some d)
def aiU (l:List Oper) (T:List (Nat × ak)):Bool :=
 (List.range l.length).all (oV l T)
theorem jV {pr:Nat→ak→GH→Prop} {S:Nat→Bool} {i d:Nat} {v:ak} (hok:oV l T i=true) (jW:∀ i v (G G':GH),(∀ k o,G k=some o→G' k=some o)→pr i v G→pr i v G') (hi:fH l i=some d) (hdl:Nat.blt i l.length=true)
  (HT:St N D w0 F G0 G1 L T a w) (Hb:St N D w0 F G0 G1 L (Xs++full N a) a w) (hG:∀ k o,G k=some o→G1 k=some o) (hv:∀ i d,S i=true→fH l i=some d→∃ v,a.tmps[d]?=some v∧pr i v G1)
  (hG2:∀ k o,G1 k=some o→G2 k=some o) (hp:pr i v G2) (H:St N D w0 F G0 G2 L ((d,v) :: (Xs++full N a)) a' w'):DX N D w0 F G0 G L T l pr (gy S i) a' w':=by
 have hil:i < l.length:=Eq.mp Nat.blt_eq hdl
 have hok1:=hok
 rw [oV,hi] at hok1
 simp only [nk,Option.isNone_iff_eq_none,mZ,vw] at hok1
 have hsame:∀ t,t≠d→a'.tmps[t]?=a.tmps[t]?:=by
  intro t ht
  by_cases hlt:t < N
  ·have h1:∃ u,lk (Xs++full N a) t=some u:=by
    rw [QM]
    cases lk Xs t with
    | some u=>exact ⟨u,rfl⟩
    | none=>exact ⟨_,QN a hlt⟩
   obtain ⟨u,hu⟩:=h1
   rw [Hb.get t u hu,H.get t u (by rw [xw (Ne.symm ht)];exact hu)]
  ·rw [Array.getElem?_eq_none (by rw [H.nu];omega),Array.getElem?_eq_none (by rw [Hb.nu];omega)]
 refine ⟨G2,fun k o hk=>hG2 k o (hG k o hk),⟨H.nu,fun t u ht=>?_,H.uz,H.hp⟩,fun j e hj he=>?_⟩
 ·rw [hsame t (fun e=>by rw [e,hok1.1] at ht;cases ht)]
  exact HT.get t u ht
 ·by_cases hji:j=i
  ·subst hji
   rw [hi] at he
   simp only [nQ] at he
   subst he
   exact ⟨v,H.get d v (yF _ _ _),hp⟩
  ·have hSj:S j=true:=by unfold gy at hj;rwa [ah hji] at hj
   obtain ⟨u,hu1,hu2⟩:=hv j e hSj he
   have hjl:j < l.length:=by
    unfold fH at he
    by_cases hl:j < l.length
    ·exact hl
    ·rw [List.getElem?_eq_none (by omega)] at he;cases he
   have hne:e≠d:=by
    intro e'
    subst e'
    have h2:=hok1.2 j hjl
    have hb:Nat.beq i j=false:=by
     cases h:Nat.beq i j with
     | false=>rfl
     | true=>exact absurd (Dg h).symm hji
    rw [hb,he] at h2
    simp at h2
   exact ⟨u,by rw [hsame e hne];exact hu1,jW j u _ _ hG2 hu2⟩
def CX (l:List Oper) (dH:List (List Nat)) (B:List Nat):Bool :=
 (List.range B.length).all (fun p=>match B[p]? with|none=>false|some b=>Nat.blt b l.length && (List.range l.length).all fun i=>B.contains i && !(B.take p).contains i || (dH.getD b []).contains i) &&
 (List.range l.length).all fun i=>B.contains i || (dH.getD i []).all fun j=>!B.contains j
def tK (l:List Oper):List Nat→List Oper
 | []=>[]
 | b :: B=>match l[b]? with|some o=>o :: tK l B|none=>tK l B
theorem xI {ops:Array Oper} {Q':Exit→Act→World→Prop} (hq:∀ e a w,Q e a w→Q' e a w):∀ {L:List Oper} {a:Act} {w:World},WL r P ops Q L a w→WL r P ops Q' L a w
 | [],a,w,h=>hq _ _ _ h
 | o :: L,a,w,h=>by
  have h':wpListIn (FW r) 0 P ops Q (o :: L) a w:=h
  show wpListIn (FW r) 0 P ops Q' (o :: L) a w
  unfold wpListIn at h' ⊢
  split
  ·rename_i hw
   rw [au hw] at h'
   refine ⟨h'.1,?_⟩
   have h2:=h'.2
   generalize (o.semAt (FW r).round a.eval).run P w=res at h2 ⊢
   cases res with
   | ok x w1 =>
    cases x with
    | value v=>exact xI hq h2
    | skip=>exact xI hq h2
    | defer d=>exact xI hq h2
    | enter f args=>exact ⟨h2.1,h2.2.mono fun e w2 he=>by
      cases e with
      | returned v=>exact xI hq he
      | panicked ch=>exact hq _ _ _ he
      | outgrown=>obtain ⟨x,y,h3⟩:=he;exact ⟨x,y,hq _ _ _ h3⟩⟩
    | row Xz args=>exact ⟨h2.1,h2.2.mono fun v w2 he=>xI hq he⟩
    | round l f t Tg b=>exact ⟨h2.1,h2.2.mono fun e w2 he=>by
      cases e with
      | returned v=>exact xI hq he
      | panicked ch=>exact hq _ _ _ he
      | outgrown=>obtain ⟨x,y,h3⟩:=he;exact ⟨x,y,hq _ _ _ h3⟩⟩
    | _=>exact h2.elim
   | halt x w1 =>
    cases x with
    | panic v=>exact hq _ _ _ h2
    | _=>exact h2.elim
  ·rename_i hw
   rw [ah hw] at h'
   exact ⟨h'.1,xI hq h'.2⟩
theorem ags {ops:Array Oper} {o:Oper} {L:List Oper} {K:Act→World→Prop} (hK:∀ a w,WL r P ops (fun e a w=>e=.normal∧Q .normal a w) L a w→K a w) (h:WL r P ops (fun e a w=>e=.normal∧Q .normal a w) (o :: L) a w):WL r P ops (fun e a' w'=>e=.normal∧K a' w') [o] a w:=by
 have h':wpListIn (FW r) 0 P ops (fun e a w=>e=.normal∧Q .normal a w) (o :: L) a w:=h
 show wpListIn (FW r) 0 P ops _ [o] a w
 unfold wpListIn at h' ⊢
 split
 ·rename_i hw
  rw [au hw] at h'
  refine ⟨h'.1,?_⟩
  have h2:=h'.2
  generalize (o.semAt (FW r).round a.eval).run P w=res at h2 ⊢
  cases res with
  | ok x w1 =>
   cases x with
   | value v=>exact ⟨rfl,hK _ _ h2⟩
   | skip=>exact ⟨rfl,hK _ _ h2⟩
   | defer d=>exact ⟨rfl,hK _ _ h2⟩
   | enter f args=>exact ⟨h2.1,h2.2.mono fun e w2 he=>by
     cases e with
     | returned v=>exact ⟨rfl,hK _ _ he⟩
     | panicked ch=>exact absurd he.1 (by simp)
     | outgrown=>obtain ⟨_,_,h3,_⟩:=he;exact absurd h3 (by simp)⟩
   | row Xz args=>exact ⟨h2.1,h2.2.mono fun v w2 he=>⟨rfl,hK _ _ he⟩⟩
   | round l f t Tg b=>exact ⟨h2.1,h2.2.mono fun e w2 he=>by
     cases e with
     | returned v=>exact ⟨rfl,hK _ _ he⟩
     | panicked ch=>exact absurd he.1 (by simp)
     | outgrown=>obtain ⟨_,_,h3,_⟩:=he;exact absurd h3 (by simp)⟩
   | _=>exact h2.elim
  | halt x w1 =>
   cases x with
   | panic v=>exact absurd h2.1 (by simp)
   | _=>exact h2.elim
 ·rename_i hw
  rw [ah hw] at h'
  exact ⟨h'.1,rfl,hK _ _ h'.2⟩
theorem ahw {id:Nat} (hm:P.follows .mixedOrders=true) (dH:List (List Nat)) (B:List Nat) (hk:EP l dH=true) (hB:CX l dH B=true) (pr:Nat→ak→GH→Prop) (jW:∀ i v (G G':GH),(∀ k o,G k=some o→G' k=some o)→pr i v G→pr i v G')
  (H:St N D w0 F G0 G L T a w)
  (hstep:∀ i o S a w G1,l[i]?=some o→B.contains i=false→S i=false→(∀ j∈dH.getD i [],S j=true)→(∀ k o,G k=some o→G1 k=some o)→St N D w0 F G0 G1 L T a w→(∀ i d,S i=true→fH l i=some d→∃ v,a.tmps[d]?=some v∧pr i v G1) →
   WL r P l.toArray (fun e a' w'=>e=.normal∧DX N D w0 F G0 G L T l pr (gy S i) a' w') [o] a w)
  (hend:∀ a w G1,(∀ k o,G k=some o→G1 k=some o)→St N D w0 F G0 G1 L T a w→(∀ i d,B.contains i=false→fH l i=some d→∃ v,a.tmps[d]?=some v∧pr i v G1)→WL r P l.toArray (fun e a w=>e=.normal∧Q .normal a w) (tK l B) a w):WP r P (.region id l.toArray true) Q a w:=by
 have hB1:∀ p b,B[p]?=some b→b < l.length∧∀ i,i < l.length→(B.contains i=false∨(B.take p).contains i=true)→i∈dH.getD b []:=by
  intro p b hp
  simp only [CX,nk] at hB
  have h1:=mZ.1 hB.1 p (vw.2 (jr.1 hp).1)
  rw [hp] at h1
  simp only [nk,mZ,vw] at h1
  refine ⟨Eq.mp Nat.blt_eq h1.1,fun i hi hor=>?_⟩
  have h2:=h1.2 i hi
  rcases hor with h3|h3
  ·have h4:i∉B:=by simpa using h3
   simpa [h4] using h2
  ·have h4:i∈B.take p:=by simpa using h3
   simpa [h4] using h2
 have hB2:∀ i,i < l.length→B.contains i=false→∀ j∈dH.getD i [],B.contains j=false:=by
  intro i hi hb j hj
  simp only [CX,nk] at hB
  have h1:=mZ.1 hB.2 i (vw.2 hi)
  rw [hb] at h1
  simp only [Bool.false_or,mZ] at h1
  simpa using h1 j hj
 refine Zz hm dH hk (fun S a w=>((∀ i,B.contains i=true→S i=false)∧DX N D w0 F G0 G L T l pr S a w) ∨
   ∃ p,(∀ i,i < l.length→B.contains i=false→S i=true)∧(∀ i,(B.take p).contains i=true→S i=true)∧(∀ q b,B[q]?=some b→p≤q→S b=false)∧WL r P l.toArray (fun e a w=>e=.normal∧Q .normal a w) (tK l (B.drop p)) a w)
  (.inl ⟨fun _ _=>rfl,G,fun _ _ h=>h,H.move H.hp.drew,fun _ _ h=>by cases h⟩) ?_ ?_
 ·intro i o S a w ho hX dh qX hdesc
  have hil:i < l.length:=(jr.1 ho).1
  by_cases hbi:B.contains i=true
  ·-- an operation of the tail: all that stands ahead of it is done
   obtain ⟨p0,hp0⟩:=List.getElem?_of_mem (by simpa using hbi:i∈B)
   have hall:∀ j,j < l.length→B.contains j=false→S j=true:=fun j hj hb=>qX j ((hB1 p0 i hp0).2 j hj (.inl hb))
   have VN:∃ p,(∀ i,(B.take p).contains i=true→S i=true)∧(∀ q b,B[q]?=some b→p≤q→S b=false)∧WL r P l.toArray (fun e a w=>e=.normal∧Q .normal a w) (tK l (B.drop p)) a w:=by
    rcases hX with ⟨h1,G1,hG,HS,hv⟩|⟨p,_,h2,h3,h4⟩
    ·refine ⟨0,by simp,fun q b hq _=>h1 b (by simpa using mg hq),?_⟩
     refine hend a w G1 hG HS fun j e hb he=>?_
     have hjl:j < l.length:=by
      unfold fH at he
      by_cases hl:j < l.length
      ·exact hl
      ·rw [List.getElem?_eq_none (by omega)] at he;cases he
     exact hv j e (hall j hjl hb) he
    ·exact ⟨p,h2,h3,h4⟩
   obtain ⟨p,h2,h3,h4⟩:=VN
   -- i is the next one
   have hpp:p≤p0:=by
    rcases Nat.lt_or_ge p0 p with hlt|hge
    ·have:(B.take p).contains i=true:=by
      simp only [Aq]
      exact mg (i:=p0) (by rw [xQ,au hlt];exact hp0)
     rw [h2 i this] at dh;cases dh
    ·exact hge
   have Ic:p < B.length:=by have:=(jr.1 hp0).1;omega
   have hbp:B[p]?=some B[p]:=dV Ic
   have heq:B[p]=i:=by
    rcases Nat.lt_or_ge p p0 with hlt|hge
    ·exfalso
     have hin:B[p]∈dH.getD i []:=(hB1 p0 i hp0).2 _ (hB1 p _ hbp).1 (.inr (by
      simp only [Aq]
      exact mg (i:=p) (by rw [xQ,au hlt];exact hbp)))
     have:=qX _ hin
     rw [h3 p _ hbp (bX _)] at this;cases this
    ·have:p=p0:=by omega
     subst this
     rw [hbp] at hp0;simpa using hp0
   have hdrop:B.drop p=i :: B.drop (p+1):=by rw [jy Ic,heq]
   have hops:tK l (B.drop p)=o :: tK l (B.drop (p+1)):=by rw [hdrop];simp [tK,ho]
   rw [hops] at h4
   refine ags (fun a' w' h5=>.inr ⟨p+1,fun j hj hb=>?_,fun j hj=>?_,fun q b hq hpq=>?_,h5⟩) h4
   ·unfold gy;split
    ·rfl
    ·exact hall j hj hb
   ·unfold gy;split
    ·rfl
    ·rename_i hne
     refine h2 j ?_
     simp only [Aq] at hj ⊢
     rw [gI Ic,ng] at hj
     rcases hj with hj|hj
     ·exact hj
     ·simp only [qO] at hj;exact absurd (hj.trans heq) hne
   ·unfold gy
    rw [ah ?_]
    ·exact h3 q b hq (by omega)
    ·rintro rfl
     -- i would stand twice in B: it would come ahead of itself
     have h6:=(hB1 q b hq).2 b (hB1 q b hq).1 (.inr (by
      simp only [Aq]
      exact mg (i:=p) (by rw [xQ,au (by omega)];rw [hbp,heq])))
     rw [qX _ h6] at dh;cases dh
  ·have Hy:B.contains i=false:=by cases h:B.contains i with|false=>rfl|true=>exact absurd h hbi
   rcases hX with ⟨h1,G1,hG,HS,hv⟩|⟨p,h0,_,_,_⟩
   ·refine xI (fun e a' w' ⟨he,hD⟩=>⟨he,.inl ⟨fun j hj=>?_,hD⟩⟩) (hstep i o S a w G1 ho Hy dh qX hG HS hv)
    unfold gy
    rw [ah (by rintro rfl;rw [Hy] at hj;cases hj)]
    exact h1 j hj
   ·rw [h0 i hil Hy] at dh;cases dh
 ·intro S a w hall hX
  rcases hX with ⟨h1,G1,hG,HS,hv⟩|⟨p,_,_,h3,h4⟩
  ·have hnil:B=[]:=by
    cases B with
    | nil=>rfl
    | cons b B=>have h5:=h1 b (by simp);rw [hall b (hB1 0 b rfl).1] at h5;cases h5
   subst hnil
   have h6:=hend a w G1 hG HS fun j e _ he=>by
    have hjl:j < l.length:=by
     unfold fH at he
     by_cases hl:j < l.length
     ·exact hl
     ·rw [List.getElem?_eq_none (by omega)] at he;cases he
    exact hv j e (hall j hjl) he
   exact h6.2
  ·have hnil:B.drop p=[]:=by
    cases hd:B.drop p with
    | nil=>rfl
    | cons b B' =>
     have hb:B[p]?=some b:=by
      have:=aB (fun x:List Nat=>x[0]?) hd
      simpa using this
     have h5:=h3 p b hb (bX _)
     rw [hall b (hB1 p b hb).1] at h5;cases h5
   rw [hnil] at h4
   exact h4.2
def allI (φ:Nat→Oper→Prop):Nat→List Oper→Prop
 | _,[]=>True
 | i,o :: r=>φ i o∧allI φ (i+1) r
theorem cZ {φ:Nat→Oper→Prop} {i:Nat}:allI φ i []:=trivial
theorem aW {φ:Nat→Oper→Prop} {i:Nat} {o:Oper} {r:List Oper} (h:φ i o) (t:allI φ (i+1) r):allI φ i (o :: r):=⟨h,t⟩
theorem Ls {φ:Nat→Oper→Prop}:∀ {l:List Oper} {s:Nat},allI φ s l→∀ i o,l[i]?=some o→φ (s+i) o
 | [],s,_,i,o,h=>by simp at h
 | x :: l,s,h,0,o,ho=>by simp at ho;subst ho;exact h.1
 | x :: l,s,h,i+1,o,ho=>by
  have:=Ls h.2 i o (by simpa using ho)
  rwa [show s+1+i=s+(i+1) by omega] at this
theorem Ar {id:Nat} (hm:P.follows .mixedOrders=true) (dH:List (List Nat)) (B:List Nat) (hk:EP l dH=true) (hB:CX l dH B=true) (pr:Nat→ak→GH→Prop) (jW:∀ i v (G G':GH),(∀ k o,G k=some o→G' k=some o)→pr i v G→pr i v G')
  (H:St N D w0 F G0 G L T a w)
  (hstep:allI (fun i o=>∀ S a w G1,B.contains i=false→S i=false→(∀ j∈dH.getD i [],S j=true)→(∀ k o,G k=some o→G1 k=some o)→St N D w0 F G0 G1 L T a w→(∀ i d,S i=true→fH l i=some d→∃ v,a.tmps[d]?=some v∧pr i v G1) →
   WL r P l.toArray (fun e a' w'=>e=.normal∧DX N D w0 F G0 G L T l pr (gy S i) a' w') [o] a w) 0 l)
  (hend:∀ a w G1,(∀ k o,G k=some o→G1 k=some o)→St N D w0 F G0 G1 L T a w→(∀ i d,B.contains i=false→fH l i=some d→∃ v,a.tmps[d]?=some v∧pr i v G1)→WL r P l.toArray (fun e a w=>e=.normal∧Q .normal a w) (tK l B) a w):WP r P (.region id l.toArray true) Q a w :=
 ahw hm dH B hk hB pr jW H (fun i o S a w G1 ho hb hs hc hg HS hv=>by
  have:=Ls hstep i o ho
  rw [gX] at this
  exact this S a w G1 hb hs hc hg HS hv) hend
theorem auo {pr:Nat→ak→GH→Prop} {i d j t:Nat} {op:Op} {ty:TypeId} {pos:String} {aP:Array Edge} {want b:Bool} {dH:List (List Nat)} {B:List Nat} (hok:oV l T i=true) (jW:∀ i v (G G':GH),(∀ k o,G k=some o→G' k=some o)→pr i v G→pr i v G')
  (hi:fH l i=some d) (hdl:Nat.blt i l.length=true) (hjd:fH l j=some t) (hjc:(dH.getD i []).contains j=true) (hd:Nat.blt d N=true) (hb:∀ v G,pr j v G→v=.bool b) (hbw:b=!want) (hu:∀ G,pr i undef G) :
  ∀ S a w G1,B.contains i=false→S i=false→(∀ j∈dH.getD i [],S j=true)→(∀ k o,G k=some o→G1 k=some o)→St N D w0 F G0 G1 L T a w→(∀ i d,S i=true→fH l i=some d→∃ v,a.tmps[d]?=some v∧pr i v G1) →
   WL r P l.toArray (fun e a' w'=>e=.normal∧DX N D w0 F G0 G L T l pr (gy S i) a' w') [⟨some d,op,ty,pos,aP,some (j,want)⟩] a w:=by
 intro S a w G1 _ _ hc hG HT hv
 obtain ⟨u,hu1,hu2⟩:=hv j t (hc j (Aq.1 hjc)) hjd
 obtain rfl:=hb _ _ hu2
 have H:=(HT.kI hu1).full
 refine afe H (by unfold fH at hjd;simpa using hjd) (show lk ((t,Value.bool b) :: (T++full N a)) t=_ by simp [lk]) hbw hd ?_
 intro a' H'
 refine aI ⟨rfl,?_⟩
 exact jV (Xs:=(t,.bool b) :: T) hok jW hi hdl HT H hG hv (fun _ _ h=>h) (hu G1) H'
def Te (pr:Nat→ak→GH→Prop):List (Nat × Nat × ak)→Prop
 | []=>True
 | (j,_,u) :: r=>(∀ v G,pr j v G→v=u)∧Te pr r
def CW (us:List (Nat × Nat × ak)) (T:List (Nat × ak)):List (Nat × ak):=us.foldl (fun T x=>(x.2.1,x.2.2) :: T) T
theorem Ze {pr:Nat→ak→GH→Prop} {S:Nat→Bool} {ds:List Nat}:∀ {us:List (Nat × Nat × ak)} {T:List (Nat × ak)},us.all (fun x=>ds.contains x.1 && (fH l x.1 == some x.2.1))=true→Te pr us→(∀ j∈ds,S j=true)→(∀ i d,S i=true→fH l i=some d→∃ v,a.tmps[d]?=some v∧pr i v G1)→St N D w0 F G0 G1 L T a w→St N D w0 F G0 G1 L (CW us T) a w
 | [],_,_,_,_,_,H=>H
 | (j,t,u) :: r,T,h,hu,hc,hv,H=>by
  simp only [List.all_cons,nk,beq_iff_eq] at h
  obtain ⟨v,hv1,hv2⟩:=hv j t (hc j (Aq.1 h.1.1)) h.1.2
  obtain rfl:=hu.1 v _ hv2
  exact Ze (us:=r) h.2 hu.2 hc hv (H.kI hv1)
theorem dB {pr:Nat→ak→GH→Prop} {i d:Nat} {o:Oper} {dH:List (List Nat)} {B:List Nat} (us:List (Nat × Nat × ak)) (Ii:us.all (fun x=>(dH.getD i []).contains x.1 && (fH l x.1 == some x.2.1))=true) (hu:Te pr us) (hok:oV l T i=true) (jW:∀ i v (G G':GH),(∀ k o,G k=some o→G' k=some o)→pr i v G→pr i v G')
  (hi:fH l i=some d) (hdl:Nat.blt i l.length=true)
  (k:∀ S a w G1,(∀ k o,G k=some o→G1 k=some o)→St N D w0 F G0 G1 L T a w→St N D w0 F G0 G1 L (CW us T++full N a) a w →
   (∀ {a' w' G2 v},St N D w0 F G0 G2 L ((d,v) :: (CW us T++full N a)) a' w'→(∀ k o,G1 k=some o→G2 k=some o)→pr i v G2→WL r P l.toArray (fun e a' w'=>e=.normal∧DX N D w0 F G0 G L T l pr (gy S i) a' w') [] a' w')→WL r P l.toArray (fun e a' w'=>e=.normal∧DX N D w0 F G0 G L T l pr (gy S i) a' w') [o] a w) :
  ∀ S a w G1,B.contains i=false→S i=false→(∀ j∈dH.getD i [],S j=true)→(∀ k o,G k=some o→G1 k=some o)→St N D w0 F G0 G1 L T a w→(∀ i d,S i=true→fH l i=some d→∃ v,a.tmps[d]?=some v∧pr i v G1) →
   WL r P l.toArray (fun e a' w'=>e=.normal∧DX N D w0 F G0 G L T l pr (gy S i) a' w') [o] a w:=by
 intro S a w G1 _ _ hc hG HT hv
 have H:=Ze Ii hu hc hv HT
 exact k S a w G1 hG HT H.full fun H' hG2 hp=>aI ⟨rfl,jV (Xs:=CW us T) hok jW hi hdl HT H.full hG hv hG2 hp H'⟩
end
end
section
open Go.RowKit
section
variable {N:Nat} {D:List Deferred} {w0:World} {F:Nat→Prop} {G0 G:GH} {L:List (Nat × Obj)} {T:List (Nat × ak)}
variable {r:Option Nat} {P:Program} {ops:Array Oper} {Q:Exit→Act→World→Prop} {rest:List Oper} {w:World}
variable {d:Nat} {ty:TypeId} {pos:String} {aP:Array Edge}
theorem kH {a:Act} {l:List Oper} (H:St N D w0 F G0 G L T a w) (k:∀ a,St N D w0 F G0 G L T a w→WL r P ops Q l a w):WL r P ops Q l a w:=k a H
theorem Rm {x:Operand} {v:ak} (h:(ev T x,Nat.blt d N)=(some v,true)) (k:∀ a',St N D w0 F G0 G L ((d,v) :: T) a' w→WL r P ops Q rest a' w) :
  ∀ a,St N D w0 F G0 G L T a w→WL r P ops Q (⟨some d,.move x,ty,pos,aP,none⟩ :: rest) a w:=fun _ H=>by
 simp only [iB] at h
 exact FK H wn h.1 h.2 k
theorem Ra {x:Operand} {v:ak} (h:(ev T x,Nat.blt d N)=(some v,true)) (k:∀ a',St N D w0 F G0 G L ((d,v) :: T) a' w→WL r P ops Q rest a' w) :
  ∀ a,St N D w0 F G0 G L T a w→WL r P ops Q (⟨some d,.assign x,ty,pos,aP,none⟩ :: rest) a w:=fun _ H=>by
 simp only [iB] at h
 exact atu H wn h.1 h.2 k
theorem Rc {op:BinOp} {x y:Operand} {t yt:TypeId} {kd:IntKind} {p q:Int} {b:Bool} (h:(ev T x,ev T y,LM op p q,Nat.blt d N)=(some (.int kd p),some (.int kd q),some b,true)) (k:∀ a',St N D w0 F G0 G L ((d,.bool b) :: T) a' w→WL r P ops Q rest a' w) :
  ∀ a,St N D w0 F G0 G L T a w→WL r P ops Q (⟨some d,.binOp op t x y yt,ty,pos,aP,none⟩ :: rest) a w:=fun _ H=>by
 simp only [iB] at h
 exact Ej H wn h.1 h.2.1 h.2.2.1 h.2.2.2 k
theorem Rf {s:TypeId} {x:Operand} {n b o off:Nat} (hs:dL P s n off) (h:(ev T x,Nat.blt d N)=(some (.pointer (some ⟨b,o,none⟩)),true)) (k:∀ a',St N D w0 F G0 G L ((d,.pointer (some ⟨b,o+off,none⟩)) :: T) a' w→WL r P ops Q rest a' w) :
  ∀ a,St N D w0 F G0 G L T a w→WL r P ops Q (⟨some d,.fieldAddr s x n,ty,pos,aP,none⟩ :: rest) a w:=fun _ H=>by
 simp only [iB] at h
 exact IJ hs H wn h.1 h.2 k
theorem Rn {x:Operand} {t:TypeId} {b:Bool} (h:(ev T x,Nat.blt d N)=(some (.bool b),true)) (k:∀ a',St N D w0 F G0 G L ((d,.bool (!b)) :: T) a' w→WL r P ops Q rest a' w) :
  ∀ a,St N D w0 F G0 G L T a w→WL r P ops Q (⟨some d,.unOp .not t x,ty,pos,aP,none⟩ :: rest) a w:=fun _ H=>by
 simp only [iB] at h
 exact XC H wn h.1 h.2 k
theorem Rk {x:Operand} {p:Addr} (h:(ev T x,Nat.blt d N)=(some (.pointer (some p)),true)) (k:∀ a',St N D w0 F G0 G L ((d,.pointer (some p)) :: T) a' w→WL r P ops Q rest a' w) :
  ∀ a,St N D w0 F G0 G L T a w→WL r P ops Q (⟨some d,.nilCheck x,ty,pos,aP,none⟩ :: rest) a w:=fun _ H=>by
 simp only [iB] at h
 exact uS H wn h.1 h.2 k
theorem Rl {x:Operand} {t e:TypeId} {A:Option Addr} {n c:Nat} (hs:P.underlying t=some (.slice e)) (h:(ev T x,Nat.blt d N)=(some (.slice A n c),true)) (k:∀ a',St N D w0 F G0 G L ((d,.int .i64 n) :: T) a' w→WL r P ops Q rest a' w) :
  ∀ a,St N D w0 F G0 G L T a w→WL r P ops Q (⟨some d,.call { callee:=.builtin .len,args:=#[x],argTypes:=#[t] },ty,pos,aP,none⟩ :: rest) a w:=fun _ H=>by
 simp only [iB] at h
 exact afa hs H wn h.1 h.2 k
theorem Ro {t:TypeId} {sz bytes:Nat} {zero:List ak} (ht:Ty P t sz bytes zero false) (i:Nat) {x:Operand} {b o:Nat} {v:ak} {c:Array ak} {e:TypeId} {fz:Nat × Nat} (h:(ev T x,L[i]?,Nat.blt d N,c[o]?)=(some (.pointer (some ⟨b,o,none⟩)),some (b,.cells c e fz),true,some v))
  (k:∀ a',St N D w0 F G0 G L ((d,v) :: T) a' w→WL r P ops Q rest a' w) :
  ∀ a,St N D w0 F G0 G L T a w→WL r P ops Q (⟨some d,.load t x,ty,pos,aP,none⟩ :: rest) a w:=fun _ H=>by
 simp only [iB] at h
 exact iH ht H wn h.1 (H.hp.qd i h.2.1 h.2.2.2) h.2.2.1 k
theorem Og {d':Nat} {ty':TypeId} {pos':String} {Ol:Array Edge} {s:TypeId} {x:Operand} {n b o off:Nat} (hs:dL P s n off) {t:TypeId} {sz bytes:Nat} {zero:List ak} (ht:Ty P t sz bytes zero false) (i:Nat) {v:ak} {c:Array ak} {e:TypeId} {fz:Nat × Nat}
  (h:(ev T x,Nat.blt d N)=(some (.pointer (some ⟨b,o,none⟩)),true)) (h':(L[i]?,Nat.blt d' N,c[o+off]?)=(some (b,.cells c e fz),true,some v))
  (k:∀ a',St N D w0 F G0 G L ((d',v) :: (d,.pointer (some ⟨b,o+off,none⟩)) :: T) a' w→WL r P ops Q rest a' w) :
  ∀ a,St N D w0 F G0 G L T a w→WL r P ops Q (⟨some d,.fieldAddr s x n,ty,pos,aP,none⟩ :: ⟨some d',.load t (.tmp d),ty',pos',Ol,none⟩ :: rest) a w :=
 Rf hs h (Ro ht i (by simp only [iB] at h' ⊢;exact ⟨yF ..,h'.1,h'.2.1,h'.2.2⟩) k)
theorem lv {a:Act} {fn:Func} {t:Nat} {v:ak} {R:Ending→World→Prop} (H:St N [] w0 F G0 G L T a w) (hr:fn.results=#[.tmp t]) (h:lk T t=some v) (hR:R (.returned v) w):bodyPostM (FW none) 0 P fn R .ret a w :=
 (leave1 H (rs:=[.tmp t]) hr (.cons (bG H h) .nil) hR).1
theorem St.rt {a:Act} {R:ak→GH→Prop} {v:ak} (H:St N D w0 (fun k=>k < w0.heap.size) G0 G L T a w) (hR:R v G):bB w0 G0 R (.returned v) w:=H.hp.ret hR
theorem St.ro {a:Act} (H:St N D w0 F G0 G L T a w):∀ k o,G k=some o→w.heap[k]?=some o:=H.hp.ro
theorem iJ {H:GH}:∀ k o,H k=some o→H k=some o:=fun _ _ h=>h
end
theorem eN {N:Nat} {w:World} {G:GH} {P:Program} (T:List (Nat × ak)) {f:FuncId} {fn:Func} {c:Code} {vs:List ak} {R:Ending→World→Prop} (hf:P.funcs[f]?=some fn) (hb:fn.body=some c) (hN:fn.ntmps=N) (hle:Nat.ble vs.length N=true)
  (hT:GJ 0 vs=T) (hG:Hold G w) (h:∀ a,St N [] w (fun k=>k < w.heap.size) G G [] T a w→WP none P c (bodyPostM (FW none) 0 P fn R) a w):Calls P f vs.toArray w R :=
 enter hf hb hN hle hT hG (fun _ h=>h) (fun _ h=>by cases h) (fun _ h=>by cases h) (fun _ h=>by cases h) List.Pairwise.nil h
def pvW:List ak→Nat→ak→Prop
 | [],_,_=>True
 | x :: _,0,v=>v=x
 | _ :: l,i+1,v=>pvW l i v
def Xn (vs:List ak) (i:Nat) (v:ak) (_:GH):Prop:=pvW vs i v
section
variable {N:Nat} {D:List Deferred} {w0:World} {F:Nat→Prop} {G0 G:GH} {L:OL} {T:List (Nat × ak)}
variable {P:Program} {l:List Oper} {r:Option Nat}
abbrev Lg (N:Nat) (D:List Deferred) (w0:World) (F:Nat→Prop) (G0 G:GH) (L:OL) (T:List (Nat × ak)) (r:Option Nat) (P:Program) (l:List Oper) (pr:Nat→ak→GH→Prop) (i d:Nat) (o:Oper) (us:List (Nat × Nat × ak)):Prop :=
 ∀ S a w G1,(∀ k o,G k=some o→G1 k=some o)→St N D w0 F G0 G1 L T a w→St N D w0 F G0 G1 L (CW us T++full N a) a w →
   (∀ {a' w' G2 v},St N D w0 F G0 G2 L ((d,v) :: (CW us T++full N a)) a' w'→(∀ k o,G1 k=some o→G2 k=some o)→pr i v G2→WL r P l.toArray (fun e a' w'=>e=.normal∧DX N D w0 F G0 G L T l pr (gy S i) a' w') [] a' w')→WL r P l.toArray (fun e a' w'=>e=.normal∧DX N D w0 F G0 G L T l pr (gy S i) a' w') [o] a w
abbrev xO (N:Nat) (D:List Deferred) (w0:World) (F:Nat→Prop) (G0 G:GH) (L:OL) (T:List (Nat × ak)) (r:Option Nat) (P:Program) (l:List Oper) (dH:List (List Nat)) (B:List Nat) (pr:Nat→ak→GH→Prop) (i:Nat) (o:Oper):Prop :=
 ∀ S a w G1,B.contains i=false→S i=false→(∀ j∈dH.getD i [],S j=true)→(∀ k o,G k=some o→G1 k=some o)→St N D w0 F G0 G1 L T a w→(∀ i d,S i=true→fH l i=some d→∃ v,a.tmps[d]?=some v∧pr i v G1) →
   WL r P l.toArray (fun e a' w'=>e=.normal∧DX N D w0 F G0 G L T l pr (gy S i) a' w') [o] a w
variable {pr:Nat→ak→GH→Prop} {i d:Nat} {o:Oper} {dH:List (List Nat)} {B:List Nat}
theorem Df (h:(fH l i,Nat.blt i l.length)=(some d,true)) (k:Lg N D w0 F G0 G L T r P l pr i d o [])
  (hok:oV l T i=true:=by kernel_rfl) (jW:∀ i v (G G':GH),(∀ k o,G k=some o→G' k=some o)→pr i v G→pr i v G':=by exact fun _ _ _ _ _ h=>h):xO N D w0 F G0 G L T r P l dH B pr i o:=by
 simp only [iB] at h
 exact dB [] rfl trivial hok jW h.1 h.2 k
theorem dM (j t:Nat) {x:ak} (h:(fH l i,Nat.blt i l.length,[(j,t,x)].all (fun x=>(dH.getD i []).contains x.1 && (fH l x.1 == some x.2.1)))=(some d,true,true)) (hu:pr j=fun v _=>v=x) (k:Lg N D w0 F G0 G L T r P l pr i d o [(j,t,x)])
  (hok:oV l T i=true:=by kernel_rfl) (jW:∀ i v (G G':GH),(∀ k o,G k=some o→G' k=some o)→pr i v G→pr i v G':=by exact fun _ _ _ _ _ h=>h):xO N D w0 F G0 G L T r P l dH B pr i o:=by
 simp only [iB] at h
 exact dB _ h.2.2 ⟨fun v G h=>by rw [hu] at h;exact h,aY⟩ hok jW h.1 h.2.1 k
theorem dP (j t j' t':Nat) {x x':ak} (h:(fH l i,Nat.blt i l.length,[(j,t,x),(j',t',x')].all (fun x=>(dH.getD i []).contains x.1 && (fH l x.1 == some x.2.1)))=(some d,true,true)) (hu:(pr j,pr j')=(fun v _=>v=x,fun v _=>v=x')) (k:Lg N D w0 F G0 G L T r P l pr i d o [(j,t,x),(j',t',x')])
  (hok:oV l T i=true:=by kernel_rfl) (jW:∀ i v (G G':GH),(∀ k o,G k=some o→G' k=some o)→pr i v G→pr i v G':=by exact fun _ _ _ _ _ h=>h):xO N D w0 F G0 G L T r P l dH B pr i o:=by
 simp only [iB] at h hu
 exact dB _ h.2.2 ⟨fun v G h=>by rw [hu.1] at h;exact h,fun v G h=>by rw [hu.2] at h;exact h,aY⟩ hok jW h.1 h.2.1 k
theorem tQ (j t j' t' j2 t2:Nat) {x x' x2:ak} (h:(fH l i,Nat.blt i l.length,[(j,t,x),(j',t',x'),(j2,t2,x2)].all (fun x=>(dH.getD i []).contains x.1 && (fH l x.1 == some x.2.1)))=(some d,true,true)) (hu:(pr j,pr j',pr j2)=(fun v _=>v=x,fun v _=>v=x',fun v _=>v=x2)) (k:Lg N D w0 F G0 G L T r P l pr i d o [(j,t,x),(j',t',x'),(j2,t2,x2)])
  (hok:oV l T i=true:=by kernel_rfl) (jW:∀ i v (G G':GH),(∀ k o,G k=some o→G' k=some o)→pr i v G→pr i v G':=by exact fun _ _ _ _ _ h=>h):xO N D w0 F G0 G L T r P l dH B pr i o:=by
 simp only [iB] at h hu
 exact dB _ h.2.2 ⟨fun v G h=>by rw [hu.1] at h;exact h,fun v G h=>by rw [hu.2.1] at h;exact h,fun v G h=>by rw [hu.2.2] at h;exact h,aY⟩ hok jW h.1 h.2.1 k
theorem aO (j:Nat) {t:Nat} {op:Op} {ty:TypeId} {pos:String} {aP:Array Edge} {want b b':Bool} (he:b'=b) (h:(fH l i,Nat.blt i l.length,fH l j,(dH.getD i []).contains j,Nat.blt d N,b,b)=(some d,true,some t,true,true,!want,b)) (hv:pr j=fun v _=>v=.bool b')
  (hok:oV l T i=true:=by kernel_rfl) (jW:∀ i v (G G':GH),(∀ k o,G k=some o→G' k=some o)→pr i v G→pr i v G':=by exact fun _ _ _ _ _ h=>h) (hu:∀ G,pr i undef G:=by exact fun _=>rfl):xO N D w0 F G0 G L T r P l dH B pr i ⟨some d,op,ty,pos,aP,some (j,want)⟩:=by
 simp only [iB] at h
 exact auo (b:=b) hok jW h.1 h.2.1 h.2.2.1 h.2.2.2.1 h.2.2.2.2.1 (fun v G g=>by rw [hv] at g;rw [← he];exact g) h.2.2.2.2.2.1 hu
theorem bS {X:(Nat→Bool)→Act→World→GH→Prop} {b:Bool} (h:b=true):∀ S a w G1,b=false→X S a w G1:=fun _ _ _ _ hB=>by rw [h] at hB;cases hB
theorem aF {φ:Nat→Oper→Prop} {i:Nat} {o1 o2 o3 o4:Oper} {r:List Oper} (h1:φ i o1) (h2:φ (i+1) o2) (h3:φ (i+1+1) o3) (h4:φ (i+1+1+1) o4) (t:allI φ (i+1+1+1+1) r):allI φ i (o1 :: o2 :: o3 :: o4 :: r):=⟨h1,h2,h3,h4,t⟩
end
section
variable {N:Nat} {D:List Deferred} {w0:World} {F:Nat→Prop} {G0 G:GH} {L:List (Nat × Obj)} {T:List (Nat × ak)}
variable {r:Option Nat} {P:Program} {ops:Array Oper} {Q:Exit→Act→World→Prop} {rest:List Oper} {w:World}
variable {d:Nat} {ty:TypeId} {pos:String} {aP:Array Edge} {j t:Nat} {want b:Bool}
theorem YM {x:Operand} {v:ak} (hb:b=want) (h:((ops[j]?).bind (·.dst),lk T t,ev T x,Nat.blt d N)=(some t,some (.bool b),some v,true)) (k:∀ a',St N D w0 F G0 G L ((d,v) :: T) a' w→WL r P ops Q rest a' w) :
  ∀ a,St N D w0 F G0 G L T a w→WL r P ops Q (⟨some d,.move x,ty,pos,aP,some (j,want)⟩ :: rest) a w:=fun _ H=>by
 simp only [iB] at h
 exact FK H (wg H h.1 h.2.1 hb) h.2.2.1 h.2.2.2 k
theorem YN {x:Operand} {y:TypeId} {v:Bool} (hb:b=want) (h:((ops[j]?).bind (·.dst),lk T t,ev T x,Nat.blt d N)=(some t,some (.bool b),some (.bool v),true)) (k:∀ a',St N D w0 F G0 G L ((d,.bool (!v)) :: T) a' w→WL r P ops Q rest a' w) :
  ∀ a,St N D w0 F G0 G L T a w→WL r P ops Q (⟨some d,.unOp .not y x,ty,pos,aP,some (j,want)⟩ :: rest) a w:=fun _ H=>by
 simp only [iB] at h
 exact XC H (wg H h.1 h.2.1 hb) h.2.2.1 h.2.2.2 k
theorem YC {op:BinOp} {x y:Operand} {u yt:TypeId} {kd:IntKind} {p q:Int} {c:Bool} (hb:b=want) (h:((ops[j]?).bind (·.dst),lk T t,ev T x,ev T y,LM op p q,Nat.blt d N)=(some t,some (.bool b),some (.int kd p),some (.int kd q),some c,true)) (k:∀ a',St N D w0 F G0 G L ((d,.bool c) :: T) a' w→WL r P ops Q rest a' w) :
  ∀ a,St N D w0 F G0 G L T a w→WL r P ops Q (⟨some d,.binOp op u x y yt,ty,pos,aP,some (j,want)⟩ :: rest) a w:=fun _ H=>by
 simp only [iB] at h
 exact Ej H (wg H h.1 h.2.1 hb) h.2.2.1 h.2.2.2.1 h.2.2.2.2.1 h.2.2.2.2.2 k
theorem YF {s:TypeId} {x:Operand} {n e o off:Nat} (hs:dL P s n off) (hb:b=want) (h:((ops[j]?).bind (·.dst),lk T t,ev T x,Nat.blt d N)=(some t,some (.bool b),some (.pointer (some ⟨e,o,none⟩)),true)) (k:∀ a',St N D w0 F G0 G L ((d,.pointer (some ⟨e,o+off,none⟩)) :: T) a' w→WL r P ops Q rest a' w) :
  ∀ a,St N D w0 F G0 G L T a w→WL r P ops Q (⟨some d,.fieldAddr s x n,ty,pos,aP,some (j,want)⟩ :: rest) a w:=fun _ H=>by
 simp only [iB] at h
 exact IJ hs H (wg H h.1 h.2.1 hb) h.2.2.1 h.2.2.2 k
theorem YO {u:TypeId} {sz bytes:Nat} {zero:List ak} (ht:Ty P u sz bytes zero false) (i:Nat) {x:Operand} {e o:Nat} {v:ak} {c:Array ak} {y:TypeId} {fz:Nat × Nat} (hb:b=want) (h:((ops[j]?).bind (·.dst),lk T t,ev T x,L[i]?,Nat.blt d N,c[o]?)=(some t,some (.bool b),some (.pointer (some ⟨e,o,none⟩)),some (e,.cells c y fz),true,some v))
  (k:∀ a',St N D w0 F G0 G L ((d,v) :: T) a' w→WL r P ops Q rest a' w) :
  ∀ a,St N D w0 F G0 G L T a w→WL r P ops Q (⟨some d,.load u x,ty,pos,aP,some (j,want)⟩ :: rest) a w:=fun _ H=>by
 simp only [iB] at h
 exact iH ht H (wg H h.1 h.2.1 hb) h.2.2.1 (H.hp.qd i h.2.2.2.1 h.2.2.2.2.2) h.2.2.2.2.1 k
theorem YR {u:TypeId} {sz bytes:Nat} {zero:List ak} (ht:Ty P u sz bytes zero false) {x:Operand} {e o:Nat} {v:ak} (hb:b=want) (h:((ops[j]?).bind (·.dst),lk T t,ev T x,Nat.blt d N)=(some t,some (.bool b),some (.pointer (some ⟨e,o,none⟩)),true)) (hv:aC G e o=some v)
  (k:∀ a',St N D w0 F G0 G L ((d,v) :: T) a' w→WL r P ops Q rest a' w) :
  ∀ a,St N D w0 F G0 G L T a w→WL r P ops Q (⟨some d,.load u x,ty,pos,aP,some (j,want)⟩ :: rest) a w:=fun _ H=>by
 simp only [iB] at h
 exact iH ht H (wg H h.1 h.2.1 hb) h.2.2.1 (H.hp.aC hv) h.2.2.2 k
theorem Rg {u:TypeId} {sz bytes:Nat} {zero:List ak} (ht:Ty P u sz bytes zero false) {x:Operand} {e o:Nat} {v:ak} (h:(ev T x,Nat.blt d N)=(some (.pointer (some ⟨e,o,none⟩)),true)) (hv:aC G e o=some v)
  (k:∀ a',St N D w0 F G0 G L ((d,v) :: T) a' w→WL r P ops Q rest a' w) :
  ∀ a,St N D w0 F G0 G L T a w→WL r P ops Q (⟨some d,.load u x,ty,pos,aP,none⟩ :: rest) a w:=fun _ H=>by
 simp only [iB] at h
 exact iH ht H wn h.1 (H.hp.aC hv) h.2 k
theorem YL {x:Operand} {u e:TypeId} {A:Option Addr} {n c:Nat} (hs:P.underlying u=some (.slice e)) (hb:b=want) (h:((ops[j]?).bind (·.dst),lk T t,ev T x,Nat.blt d N)=(some t,some (.bool b),some (.slice A n c),true)) (k:∀ a',St N D w0 F G0 G L ((d,.int .i64 n) :: T) a' w→WL r P ops Q rest a' w) :
  ∀ a,St N D w0 F G0 G L T a w→WL r P ops Q (⟨some d,.call { callee:=.builtin .len,args:=#[x],argTypes:=#[u] },ty,pos,aP,some (j,want)⟩ :: rest) a w:=fun _ H=>by
 simp only [iB] at h
 exact afa hs H (wg H h.1 h.2.1 hb) h.2.2.1 h.2.2.2 k
theorem Ks {op:Op} (hb:b=!want) (h:((ops[j]?).bind (·.dst),lk T t,Nat.blt d N)=(some t,some (.bool b),true)) (k:∀ a',St N D w0 F G0 G L ((d,undef) :: T) a' w→WL r P ops Q rest a' w) :
  ∀ a,St N D w0 F G0 G L T a w→WL r P ops Q (⟨some d,op,ty,pos,aP,some (j,want)⟩ :: rest) a w:=fun _ H=>by
 simp only [iB] at h
 exact afe H h.1 h.2.1 hb h.2.2 k
theorem Db {d2:Nat} {o1 o2:Op} {XZ:TypeId} {pos2:String} {Td:Array Edge} (hb:b=!want) (h:((ops[j]?).bind (·.dst),lk T t,lk ((d,undef) :: T) t,Nat.blt d N,Nat.blt d2 N)=(some t,some (.bool b),some (.bool b),true,true)) (k:∀ a',St N D w0 F G0 G L ((d2,undef) :: (d,undef) :: T) a' w→WL r P ops Q rest a' w) :
  ∀ a,St N D w0 F G0 G L T a w→WL r P ops Q (⟨some d,o1,ty,pos,aP,some (j,want)⟩ :: ⟨some d2,o2,XZ,pos2,Td,some (j,want)⟩ :: rest) a w:=by
 simp only [iB] at h
 exact Ks hb (by rw [h.1,h.2.1,h.2.2.2.1]) (Ks hb (by rw [h.1,h.2.2.1,h.2.2.2.2]) k)
theorem zM {d2 d3:Nat} {o1 o2 o3:Op} {XZ ty3:TypeId} {pos2 asy:String} {Td ahb:Array Edge} (hb:b=!want) (h:((ops[j]?).bind (·.dst),lk T t,lk ((d,undef) :: T) t,lk ((d2,undef) :: (d,undef) :: T) t,Nat.blt d N,Nat.blt d2 N,Nat.blt d3 N)=(some t,some (.bool b),some (.bool b),some (.bool b),true,true,true)) (k:∀ a',St N D w0 F G0 G L ((d3,undef) :: (d2,undef) :: (d,undef) :: T) a' w→WL r P ops Q rest a' w) :
  ∀ a,St N D w0 F G0 G L T a w→WL r P ops Q (⟨some d,o1,ty,pos,aP,some (j,want)⟩ :: ⟨some d2,o2,XZ,pos2,Td,some (j,want)⟩ :: ⟨some d3,o3,ty3,asy,ahb,some (j,want)⟩ :: rest) a w:=by
 simp only [iB] at h
 exact Ks hb (by rw [h.1,h.2.1,h.2.2.2.2.1]) (Db hb (by rw [h.1,h.2.2.1,h.2.2.2.1,h.2.2.2.2.2.1,h.2.2.2.2.2.2]) k)
theorem Ku {op:Op} (h:((ops[j]?).bind (·.dst),lk T t,Nat.blt d N)=(some t,some undef,true)) (k:∀ a',St N D w0 F G0 G L ((d,undef) :: T) a' w→WL r P ops Q rest a' w) :
  ∀ a,St N D w0 F G0 G L T a w→WL r P ops Q (⟨some d,op,ty,pos,aP,some (j,want)⟩ :: rest) a w:=fun _ H=>by
 simp only [iB] at h
 exact atG H h.1 h.2.1 h.2.2 k
theorem Pt {c x y:Operand} {v:ak} (hb:b=true) (h:(ev T c,ev T x,Nat.blt d N)=(some (.bool b),some v,true)) (k:∀ a',St N D w0 F G0 G L ((d,v) :: T) a' w→WL r P ops Q rest a' w) :
  ∀ a,St N D w0 F G0 G L T a w→WL r P ops Q (⟨some d,.pick c x y,ty,pos,aP,none⟩ :: rest) a w:=fun _ H=>by
 simp only [iB] at h
 exact Kr H wn h.1 hb h.2.1 h.2.2 k
theorem Pf {c x y:Operand} {v:ak} (hb:b=false) (h:(ev T c,ev T y,Nat.blt d N)=(some (.bool b),some v,true)) (k:∀ a',St N D w0 F G0 G L ((d,v) :: T) a' w→WL r P ops Q rest a' w) :
  ∀ a,St N D w0 F G0 G L T a w→WL r P ops Q (⟨some d,.pick c x y,ty,pos,aP,none⟩ :: rest) a w:=fun _ H=>by
 simp only [iB] at h
 exact NA H wn h.1 hb h.2.1 h.2.2 k
theorem PT {c x y:Operand} {v:ak} {b':Bool} (hb:b=want) (hb':b'=true) (h:((ops[j]?).bind (·.dst),lk T t,ev T c,ev T x,Nat.blt d N)=(some t,some (.bool b),some (.bool b'),some v,true)) (k:∀ a',St N D w0 F G0 G L ((d,v) :: T) a' w→WL r P ops Q rest a' w) :
  ∀ a,St N D w0 F G0 G L T a w→WL r P ops Q (⟨some d,.pick c x y,ty,pos,aP,some (j,want)⟩ :: rest) a w:=fun _ H=>by
 simp only [iB] at h
 exact Kr H (wg H h.1 h.2.1 hb) h.2.2.1 hb' h.2.2.2.1 h.2.2.2.2 k
theorem PF {c x y:Operand} {v:ak} {b':Bool} (hb:b=want) (hb':b'=false) (h:((ops[j]?).bind (·.dst),lk T t,ev T c,ev T y,Nat.blt d N)=(some t,some (.bool b),some (.bool b'),some v,true)) (k:∀ a',St N D w0 F G0 G L ((d,v) :: T) a' w→WL r P ops Q rest a' w) :
  ∀ a,St N D w0 F G0 G L T a w→WL r P ops Q (⟨some d,.pick c x y,ty,pos,aP,some (j,want)⟩ :: rest) a w:=fun _ H=>by
 simp only [iB] at h
 exact NA H (wg H h.1 h.2.1 hb) h.2.2.1 hb' h.2.2.2.1 h.2.2.2.2 k
theorem Ri {s e:TypeId} {sz bytes:Nat} {zero:List ak} {agg:Bool} (hs:P.underlying s=some (.slice e)) (ht:Ty P e sz bytes zero agg) {x y:Operand} {q o n c:Nat} {kd:IntKind} {z:Int} {i:Nat}
  (h:(ev T x,ev T y,Nat.blt d N)=(some (.slice (some ⟨q,o,none⟩) n c),some (.int kd z),true)) (hz:z=(i:Int)) (k:∀ a',St N D w0 F G0 G L ((d,.pointer (some ⟨q,o+i*sz,none⟩)) :: T) a' w→WL r P ops Q rest a' w) (hn:i < n:=by first|assumption|omega) :
  ∀ a,St N D w0 F G0 G L T a w→WL r P ops Q (⟨some d,.indexAddr s x y,ty,pos,aP,none⟩ :: rest) a w:=fun _ H=>by
 simp only [iB] at h
 exact RD hs ht i H wn h.1 h.2.1 hz hn h.2.2 k
theorem YI {s e:TypeId} {sz bytes:Nat} {zero:List ak} {agg:Bool} (hs:P.underlying s=some (.slice e)) (ht:Ty P e sz bytes zero agg) {x y:Operand} {q o n c:Nat} {kd:IntKind} {z:Int} {i:Nat} (hb:b=want)
  (h:((ops[j]?).bind (·.dst),lk T t,ev T x,ev T y,Nat.blt d N)=(some t,some (.bool b),some (.slice (some ⟨q,o,none⟩) n c),some (.int kd z),true)) (hz:z=(i:Int)) (k:∀ a',St N D w0 F G0 G L ((d,.pointer (some ⟨q,o+i*sz,none⟩)) :: T) a' w→WL r P ops Q rest a' w) (hn:i < n:=by first|assumption|omega) :
  ∀ a,St N D w0 F G0 G L T a w→WL r P ops Q (⟨some d,.indexAddr s x y,ty,pos,aP,some (j,want)⟩ :: rest) a w:=fun _ H=>by
 simp only [iB] at h
 exact RD hs ht i H (wg H h.1 h.2.1 hb) h.2.2.1 h.2.2.2.1 hz hn h.2.2.2.2 k
theorem Rd {x y:Operand} {u yt:TypeId} {p q z:Int} (h:(ev T x,ev T y,p+q,Nat.blt d N)=(some (.int .i64 p),some (.int .i64 q),z,true)) (k:∀ a',St N D w0 F G0 G L ((d,.int .i64 z) :: T) a' w→WL r P ops Q rest a' w) (h1:-9223372036854775808≤z:=by omega) (h2:z < 9223372036854775808:=by omega) :
  ∀ a,St N D w0 F G0 G L T a w→WL r P ops Q (⟨some d,.binOp .add u x y yt,ty,pos,aP,none⟩ :: rest) a w:=fun _ H=>by
 simp only [iB] at h
 exact RA z H wn h.1 h.2.1 h.2.2.1 h1 h2 h.2.2.2 k
theorem Rs {x y:Operand} {u yt:TypeId} {p q z:Int} (h:(ev T x,ev T y,p - q,Nat.blt d N)=(some (.int .i64 p),some (.int .i64 q),z,true)) (k:∀ a',St N D w0 F G0 G L ((d,.int .i64 z) :: T) a' w→WL r P ops Q rest a' w) (h1:-9223372036854775808≤z:=by omega) (h2:z < 9223372036854775808:=by omega) :
  ∀ a,St N D w0 F G0 G L T a w→WL r P ops Q (⟨some d,.binOp .sub u x y yt,ty,pos,aP,none⟩ :: rest) a w:=fun _ H=>by
 simp only [iB] at h
 exact lC z H wn h.1 h.2.1 h.2.2.1 h1 h2 h.2.2.2 k
theorem Rv {x:Operand} {u:TypeId} {s:ByteArray} (hs:P.underlying u=some .string) (h:(ev T x,Nat.blt d N)=(some (.string s),true)) (k:∀ a',St N D w0 F G0 G L ((d,.int .i64 s.size) :: T) a' w→WL r P ops Q rest a' w) :
  ∀ a,St N D w0 F G0 G L T a w→WL r P ops Q (⟨some d,.call { callee:=.builtin .len,args:=#[x],argTypes:=#[u] },ty,pos,aP,none⟩ :: rest) a w:=fun _ H=>by
 simp only [iB] at h
 exact Bt hs H wn h.1 h.2 k
theorem Kz {X:Act→World→Prop} (hK:∀ a w,X a w→WL r P ops Q [] a w) (k:∀ a,St N D w0 F G0 G L T a w→X a w):∀ a,St N D w0 F G0 G L T a w→WL r P ops Q [] a w:=fun a H=>hK a w (k a H)
theorem Kn {X:Act→World→Prop} (hK:∀ a w,X a w→Q .normal a w) (k:∀ a,St N D w0 F G0 G L T a w→X a w):∀ a,St N D w0 F G0 G L T a w→WL r P ops Q [] a w:=fun a H=>aI (hK a w (k a H))
theorem AzK {X:Act→World→Prop} {x:Operand} {v:ak} (hK:∀ a w,X a w→WL r P ops Q [] a w) (h:(ev T x,Nat.blt d N)=(some v,true)) (k:∀ a',St N D w0 F G0 G L ((d,v) :: T) a' w→X a' w):∀ a,St N D w0 F G0 G L T a w→WL r P ops Q [⟨some d,.assign x,ty,pos,aP,none⟩] a w:=Ra h (Kz hK k)
theorem jP {X:Act→World→Prop} {x:Operand} {v:ak} (hK:∀ a w,X a w→Q .normal a w) (h:(ev T x,Nat.blt d N)=(some v,true)) (k:∀ a',St N D w0 F G0 G L ((d,v) :: T) a' w→X a' w):∀ a,St N D w0 F G0 G L T a w→WL r P ops Q [⟨some d,.assign x,ty,pos,aP,none⟩] a w:=Ra h (Kn hK k)
theorem Kc {X:Act→World→Prop} (hK:∀ a w,X a w→Q .normal a w) (k:∀ a,St N D w0 F G0 G L T a w→X a w):∀ a,St N D w0 F G0 G L T a w→WP r P .skip Q a w:=fun a H=>iE (hK a w (k a H))
theorem SR {id:Nat} {l:List Oper} {y:Code} (h:∀ K:Act→World→Prop,(∀ a w,WP r P y Q a w→WL r P l.toArray (Exit.then K Q) [] a w)→∀ a,St N D w0 F G0 G L T a w→WL r P l.toArray (Exit.then K Q) l a w):∀ a,St N D w0 F G0 G L T a w→WP r P (.seq (.region id l.toArray false) y) Q a w:=fun a H=>ahA fun K hK=>h K hK a H
theorem SQ {x y:Code} (h:∀ K:Act→World→Prop,(∀ a w,WP r P y Q a w→K a w)→∀ a,St N D w0 F G0 G L T a w→WP r P x (Exit.then K Q) a w):∀ a,St N D w0 F G0 G L T a w→WP r P (.seq x y) Q a w:=fun a H=>Dn fun K hK=>h K hK a H
theorem SC {id:Nat} {l:List Oper} (h:∀ a,St N D w0 F G0 G L T a w→WL r P l.toArray Q l a w):∀ a,St N D w0 F G0 G L T a w→WP r P (.region id l.toArray false) Q a w:=fun a H=>LH (h a H)
theorem SB {id:Nat} {c:Code} (h:∀ a,St N D w0 F G0 G L T a w→WP r P c (Exit.inBlock id Q) a w):∀ a,St N D w0 F G0 G L T a w→WP r P (.block id c) Q a w:=fun a H=>LG (h a H)
theorem kP {a:Act} {c:Code} (H:St N D w0 F G0 G L T a w) (k:∀ a,St N D w0 F G0 G L T a w→WP r P c Q a w):WP r P c Q a w:=k a H
theorem lr {a:Act} {fn:Func} {v:ak} {R:Ending→World→Prop} (H:St N [] w0 F G0 G L T a w) (hr:fn.results=#[.tmp t]) (hQ:(lk T t,Q .ret a w)=(some v,bodyPostM (FW none) 0 P fn R .ret a w)) (hR:R (.returned v) w):WP none P .ret Q a w:=by
 simp only [iB] at hQ
 exact dw (by rw [hQ.2];exact lv H hr hQ.1 hR)
theorem dT {p:Prop} [Decidable p] (h:decide p=true):p:=lQ h
theorem dF {p:Prop} [Decidable p] (h:decide p=false):¬p:=of_decide_eq_false h
end
section
variable {N:Nat} {D:List Deferred} {w0:World} {F:Nat→Prop} {G0 G:GH} {L:OL} {T:List (Nat × ak)}
variable {P:Program} {l:List Oper} {r:Option Nat} {pr:Nat→ak→GH→Prop} {i d:Nat} {o:Oper} {dH:List (List Nat)} {B:List Nat} {v:ak}
abbrev BK (N:Nat) (D:List Deferred) (w0:World) (F:Nat→Prop) (G0 G:GH) (L:OL) (T:List (Nat × ak)) (r:Option Nat) (P:Program) (l:List Oper) (d:Nat) (v:ak) (o:Oper) (us:List (Nat × Nat × ak)):Prop :=
 ∀ {Q:Exit→Act→World→Prop} {a:Act} {w:World} {G1:GH} (_:∀ k o,G k=some o→G1 k=some o),(∀ a',St N D w0 F G0 G1 L ((d,v) :: (CW us T++full N a)) a' w→WL r P l.toArray Q [] a' w)→∀ a',St N D w0 F G0 G1 L (CW us T++full N a) a' w→WL r P l.toArray Q [o] a' w
abbrev Oe (N:Nat) (D:List Deferred) (w0:World) (F:Nat→Prop) (G0 G:GH) (L:OL) (T:List (Nat × ak)) (r:Option Nat) (P:Program) (l:List Oper) (d:Nat) (v:ak) (o:Oper) (us:List (Nat × Nat × ak)):Prop :=
 ∀ {Q:Exit→Act→World→Prop} {a:Act} {w:World} {G1:GH},(∀ a',St N D w0 F G0 G1 L ((d,v) :: (CW us T++full N a)) a' w→WL r P l.toArray Q [] a' w)→∀ a',St N D w0 F G0 G1 L (CW us T++full N a) a' w→WL r P l.toArray Q [o] a' w
theorem BK.k {us:List (Nat × Nat × ak)} (hv:pr i=fun u _=>u=v) (k:BK N D w0 F G0 G L T r P l d v o us):Lg N D w0 F G0 G L T r P l pr i d o us :=
 fun _ a w G1 hG _ H fin=>k hG (fun _ H=>fin H (fun _ _ h=>h) (by rw [hv])) a H
theorem X0 (h:(fH l i,Nat.blt i l.length,pr i)=(some d,true,fun u _=>u=v)) (k:BK N D w0 F G0 G L T r P l d v o [])
  (hok:oV l T i=true:=by kernel_rfl) (jW:∀ i v (G G':GH),(∀ k o,G k=some o→G' k=some o)→pr i v G→pr i v G':=by exact fun _ _ _ _ _ h=>h):xO N D w0 F G0 G L T r P l dH B pr i o:=by
 simp only [iB] at h
 exact Df (by rw [h.1,h.2.1]) (BK.k h.2.2 k) hok jW
theorem X1 (j t:Nat) {x:ak} (h:(fH l i,Nat.blt i l.length,pr j,pr i,[(j,t,x)].all (fun x=>(dH.getD i []).contains x.1 && (fH l x.1 == some x.2.1)))=(some d,true,fun v _=>v=x,fun u _=>u=v,true)) (k:BK N D w0 F G0 G L T r P l d v o [(j,t,x)])
  (hok:oV l T i=true:=by kernel_rfl) (jW:∀ i v (G G':GH),(∀ k o,G k=some o→G' k=some o)→pr i v G→pr i v G':=by exact fun _ _ _ _ _ h=>h):xO N D w0 F G0 G L T r P l dH B pr i o:=by
 simp only [iB] at h
 exact dM j t (by rw [h.1,h.2.1,h.2.2.2.2]) h.2.2.1 (BK.k h.2.2.2.1 k) hok jW
theorem X2 (j t j' t':Nat) {x x':ak} (h:(fH l i,Nat.blt i l.length,pr j,pr j',pr i,[(j,t,x),(j',t',x')].all (fun x=>(dH.getD i []).contains x.1 && (fH l x.1 == some x.2.1)))=(some d,true,fun v _=>v=x,fun v _=>v=x',fun u _=>u=v,true)) (k:BK N D w0 F G0 G L T r P l d v o [(j,t,x),(j',t',x')])
  (hok:oV l T i=true:=by kernel_rfl) (jW:∀ i v (G G':GH),(∀ k o,G k=some o→G' k=some o)→pr i v G→pr i v G':=by exact fun _ _ _ _ _ h=>h):xO N D w0 F G0 G L T r P l dH B pr i o:=by
 simp only [iB] at h
 exact dP j t j' t' (by rw [h.1,h.2.1,h.2.2.2.2.2]) (by rw [h.2.2.1,h.2.2.2.1]) (BK.k h.2.2.2.2.1 k) hok jW
theorem X3 (j t j' t' j2 t2:Nat) {x x' x2:ak} (h:(fH l i,Nat.blt i l.length,pr j,pr j',pr j2,pr i,[(j,t,x),(j',t',x'),(j2,t2,x2)].all (fun x=>(dH.getD i []).contains x.1 && (fH l x.1 == some x.2.1)))=(some d,true,fun v _=>v=x,fun v _=>v=x',fun v _=>v=x2,fun u _=>u=v,true)) (k:BK N D w0 F G0 G L T r P l d v o [(j,t,x),(j',t',x'),(j2,t2,x2)])
  (hok:oV l T i=true:=by kernel_rfl) (jW:∀ i v (G G':GH),(∀ k o,G k=some o→G' k=some o)→pr i v G→pr i v G':=by exact fun _ _ _ _ _ h=>h):xO N D w0 F G0 G L T r P l dH B pr i o:=by
 simp only [iB] at h
 exact tQ j t j' t' j2 t2 (by rw [h.1,h.2.1,h.2.2.2.2.2.2]) (by rw [h.2.2.1,h.2.2.2.1,h.2.2.2.2.1]) (BK.k h.2.2.2.2.2.1 k) hok jW
theorem Z0 (h:(fH l i,Nat.blt i l.length,pr i)=(some d,true,fun u _=>u=v)) (k:Oe N D w0 F G0 G L T r P l d v o [])
  (hok:oV l T i=true:=by kernel_rfl) (jW:∀ i v (G G':GH),(∀ k o,G k=some o→G' k=some o)→pr i v G→pr i v G':=by exact fun _ _ _ _ _ h=>h):xO N D w0 F G0 G L T r P l dH B pr i o:=X0 h (fun _=>k) hok jW
theorem Z1 (j t:Nat) {x:ak} (h:(fH l i,Nat.blt i l.length,pr j,pr i,[(j,t,x)].all (fun x=>(dH.getD i []).contains x.1 && (fH l x.1 == some x.2.1)))=(some d,true,fun v _=>v=x,fun u _=>u=v,true)) (k:Oe N D w0 F G0 G L T r P l d v o [(j,t,x)])
  (hok:oV l T i=true:=by kernel_rfl) (jW:∀ i v (G G':GH),(∀ k o,G k=some o→G' k=some o)→pr i v G→pr i v G':=by exact fun _ _ _ _ _ h=>h):xO N D w0 F G0 G L T r P l dH B pr i o:=X1 j t h (fun _=>k) hok jW
theorem Z2 (j t j' t':Nat) {x x':ak} (h:(fH l i,Nat.blt i l.length,pr j,pr j',pr i,[(j,t,x),(j',t',x')].all (fun x=>(dH.getD i []).contains x.1 && (fH l x.1 == some x.2.1)))=(some d,true,fun v _=>v=x,fun v _=>v=x',fun u _=>u=v,true)) (k:Oe N D w0 F G0 G L T r P l d v o [(j,t,x),(j',t',x')])
  (hok:oV l T i=true:=by kernel_rfl) (jW:∀ i v (G G':GH),(∀ k o,G k=some o→G' k=some o)→pr i v G→pr i v G':=by exact fun _ _ _ _ _ h=>h):xO N D w0 F G0 G L T r P l dH B pr i o:=X2 j t j' t' h (fun _=>k) hok jW
theorem Z3 (j t j' t' j2 t2:Nat) {x x' x2:ak} (h:(fH l i,Nat.blt i l.length,pr j,pr j',pr j2,pr i,[(j,t,x),(j',t',x'),(j2,t2,x2)].all (fun x=>(dH.getD i []).contains x.1 && (fH l x.1 == some x.2.1)))=(some d,true,fun v _=>v=x,fun v _=>v=x',fun v _=>v=x2,fun u _=>u=v,true)) (k:Oe N D w0 F G0 G L T r P l d v o [(j,t,x),(j',t',x'),(j2,t2,x2)])
  (hok:oV l T i=true:=by kernel_rfl) (jW:∀ i v (G G':GH),(∀ k o,G k=some o→G' k=some o)→pr i v G→pr i v G':=by exact fun _ _ _ _ _ h=>h):xO N D w0 F G0 G L T r P l dH B pr i o:=X3 j t j' t' j2 t2 h (fun _=>k) hok jW
theorem St.aV {a:Act} {w:World} {p:ak→Prop} (H:St N D w0 F G0 G L T a w) (h:∃ u,a.tmps[d]?=some u∧p u) (he:p=fun u=>u=v):St N D w0 F G0 G L ((d,v) :: T) a w:=by
 subst he
 obtain ⟨u,h1,h2⟩:=h
 exact H.kI (h2 ▸ h1)
theorem dI {a:Act} {w:World} {Q:Exit→Act→World→Prop} {id:Nat} (hm:P.follows .mixedOrders=true) (dH:List (List Nat)) (B:List Nat) (hk:(EP l dH && CX l dH B)=true) (vs:List ak) (H:St N D w0 F G0 G L T a w)
  (hstep:allI (fun i o=>xO N D w0 F G0 G L T r P l dH B (Xn vs) i o) 0 l)
  (hend:∀ a w G1,(∀ k o,G k=some o→G1 k=some o)→St N D w0 F G0 G1 L T a w→(∀ i d,B.contains i=false→fH l i=some d→∃ v,a.tmps[d]?=some v∧Xn vs i v G1)→WL r P l.toArray (fun e a w=>e=.normal∧Q .normal a w) (tK l B) a w):WP r P (.region id l.toArray true) Q a w:=by
 rw [nk] at hk
 exact Ar hm dH B hk.1 hk.2 (Xn vs) (fun _ _ _ _ _ h=>h) H hstep hend
variable {w:World} {ops:Array Oper} {Q:Exit→Act→World→Prop} {b:Bool} {t:Nat} {x:Operand} {c1 c2:Code}
theorem Cd (h:ev T x=some (.bool b)) (k1:b=true→∀ a,St N D w0 F G0 G L T a w→WP r P c1 Q a w) (k2:b=false→∀ a,St N D w0 F G0 G L T a w→WP r P c2 Q a w):∀ a,St N D w0 F G0 G L T a w→WP r P (.cond x c1 c2) Q a w:=fun a H=>Zx H h (fun h=>k1 h a H) (fun h=>k2 h a H)
theorem Ct (h:ev T x=some (.bool b)) (hb:b=true) (k:∀ a,St N D w0 F G0 G L T a w→WP r P c1 Q a w):∀ a,St N D w0 F G0 G L T a w→WP r P (.cond x c1 c2) Q a w:=fun a H=>Zy H h hb (k a H)
theorem Cf (h:ev T x=some (.bool b)) (hb:b=false) (k:∀ a,St N D w0 F G0 G L T a w→WP r P c2 Q a w):∀ a,St N D w0 F G0 G L T a w→WP r P (.cond x c1 c2) Q a w:=fun a H=>Tm H h hb (k a H)
theorem Sp {X:Act→Prop} (t:Nat) (h:lk T t=some (.bool b)) (k1:b=true→∀ a,St N D w0 F G0 G L T a w→X a) (k2:b=false→∀ a,St N D w0 F G0 G L T a w→X a):∀ a,St N D w0 F G0 G L T a w→X a:=fun a H=>atJ H t h (fun h=>k1 h a H) (fun h=>k2 h a H)
theorem LR {fn:Func} {R:Ending→World→Prop} (hr:fn.results=#[.tmp t]) (hQ:(lk T t,Q .ret)=(some v,fun a w=>bodyPostM (FW none) 0 P fn R .ret a w)) (hR:∀ {a},St N [] w0 F G0 G L T a w→R (.returned v) w):∀ a,St N [] w0 F G0 G L T a w→WP none P .ret Q a w:=fun a H=>by
 simp only [iB] at hQ
 exact lr H hr (by rw [hQ.1,hQ.2]) (hR H)
end
def ra:Nat→Nat→List Nat
 | _,0=>[]
 | a,n+1=>a :: ra (a+1) n
theorem lca {α:Type} (a:α) (l m:List α):a :: l++m=a :: (l++m):=rfl
theorem aQ {α:Type} (l:List α):[]++l=l:=rfl
theorem aG {p:Prop} [Decidable p] (h:p):decide p=true:=eZ h
theorem aN {p:Prop} [Decidable p] (h:¬p):decide p=false:=gD h
end
section
open Go.RowKit
structure Stp (n:Nat) (X:Prop):Prop where
 r:X
structure Held (Y:Prop):Prop where
 r:Y
theorem Stp.z {X:Prop} (h:Held X):Stp 0 X:=⟨h.r⟩
theorem Stp.s {n:Nat} {X Z:Prop} (h:Z→X) (t:Stp n Z):Stp (n+1) X:=⟨h t.r⟩
theorem ga {p:Prop} (h:p:=by first|with_reducible assumption|with_reducible rfl|exact aG (by with_reducible assumption)|exact aN (by with_reducible assumption)|assumption|exact rfl):p:=h
theorem gq {p:Prop} (h:p:=by first|with_reducible assumption|with_reducible rfl|exact aG (by with_reducible assumption)|exact aN (by with_reducible assumption)):p:=h
theorem dW {r:Option Nat} {P:Program} {c:Code} {Q:Exit→Act→World→Prop} {a:Act} {w:World} (h:WP r P c Q a w):WP r P c Q a w:=h
section
variable {N:Nat} {D:List Deferred} {w0:World} {F:Nat→Prop} {G0 G:GH} {L:List (Nat × Obj)} {T:List (Nat × ak)}
variable {r:Option Nat} {P:Program} {ops:Array Oper} {Q Q':Exit→Act→World→Prop} {w:World} {x y:Code} {id:Nat} {l:List Oper}
theorem tq {a:Act} (h:WL r P l.toArray (Exit.then (y.wpIn (FW r) 0 P Q) Q) l a w):WP r P (.seq (.region id l.toArray false) y) Q a w:=wpIn_seq (LH h)
theorem gsx {a:Act} (h:WP r P x (Exit.then (y.wpIn (FW r) 0 P Q) Q) a w):WP r P (.seq x y) Q a w:=wpIn_seq h
theorem Jy {a:Act} (h:WP r P x (Exit.then (y.wpIn (FW r) 0 P Q) Q) a w):WP r P (.seq x y) Q a w:=wpIn_seq h
theorem gSR (k:∀ a,St N D w0 F G0 G L T a w→WL r P l.toArray (Exit.then (y.wpIn (FW r) 0 P Q) Q) l a w):∀ a,St N D w0 F G0 G L T a w→WP r P (.seq (.region id l.toArray false) y) Q a w:=fun a H=>tq (k a H)
theorem gSQ (k:∀ a,St N D w0 F G0 G L T a w→WP r P x (Exit.then (y.wpIn (FW r) 0 P Q) Q) a w):∀ a,St N D w0 F G0 G L T a w→WP r P (.seq x y) Q a w:=fun a H=>Jy (k a H)
theorem gKn (hQ:Q .normal=y.wpIn (FW r) 0 P Q') (k:∀ a,St N D w0 F G0 G L T a w→WP r P y Q' a w):∀ a,St N D w0 F G0 G L T a w→WL r P ops Q [] a w:=fun a H=>aI (by rw [hQ];exact k a H)
theorem gKd (hQ:Q .normal=fun a w=>Exit.normal=Exit.normal∧y.wpIn (FW r) 0 P Q' a w) (k:∀ a,St N D w0 F G0 G L T a w→WP r P y Q' a w):∀ a,St N D w0 F G0 G L T a w→WL r P ops Q [] a w:=fun a H=>aI (by rw [hQ];exact ⟨rfl,k a H⟩)
theorem gKe {id:Nat} (hQ:Q (.exit id)=y.wpIn (FW r) 0 P Q') (k:∀ a,St N D w0 F G0 G L T a w→WP r P y Q' a w):∀ a,St N D w0 F G0 G L T a w→WP r P (.exit id) Q a w:=fun a H=>Au (by rw [hQ];exact k a H)
theorem dK {a:Act} {o:Oper} {n:Nat} {l:List Oper} (h:WL r P ops Q (List.drop n l) a w):WL r P ops Q (List.drop (n+1) (o :: l)) a w:=h
theorem d0 {a:Act} {l:List Oper} (h:WL r P ops Q l a w):WL r P ops Q (List.drop 0 l) a w:=h
theorem gKc (hQ:Q .normal=y.wpIn (FW r) 0 P Q') (k:∀ a,St N D w0 F G0 G L T a w→WP r P y Q' a w):∀ a,St N D w0 F G0 G L T a w→WP r P .skip Q a w:=fun a H=>iE (by rw [hQ];exact k a H)
theorem Y4 {rest:List Oper} {d j t:Nat} {ty:TypeId} {pos:String} {aP:Array Edge} {b:Bool} {op:Op} (hb:b=false) (h:((ops[j]?).bind (·.dst),lk T t,Nat.blt d N)=(some t,some (.bool b),true)) (k:∀ a',St N D w0 F G0 G L ((d,undef) :: T) a' w→WL r P ops Q rest a' w) :
  ∀ a,St N D w0 F G0 G L T a w→WL r P ops Q (⟨some d,op,ty,pos,aP,some (j,true)⟩ :: rest) a w:=Ks hb h k
theorem Y3 {rest:List Oper} {d j t:Nat} {ty:TypeId} {pos:String} {aP:Array Edge} {b:Bool} {op:Op} (hb:b=true) (h:((ops[j]?).bind (·.dst),lk T t,Nat.blt d N)=(some t,some (.bool b),true)) (k:∀ a',St N D w0 F G0 G L ((d,undef) :: T) a' w→WL r P ops Q rest a' w) :
  ∀ a,St N D w0 F G0 G L T a w→WL r P ops Q (⟨some d,op,ty,pos,aP,some (j,false)⟩ :: rest) a w:=Ks hb h k
section
variable {n d j:Nat} {ty:TypeId} {pos:String} {aP:Array Edge} {rest:List Oper} {o:Op} {b:Bool} {od:Option Nat} {e:TypeId} {z:Operand}
theorem isE (h:Stp n (∀ a,St N D w0 F G0 G L T a w→WL r P ops Q [] a w)):Stp n (∀ a,St N D w0 F G0 G L T a w→WL r P ops Q [] a w):=h
theorem isW {c:Code} (h:Stp n (∀ a,St N D w0 F G0 G L T a w→WP r P c Q a w)):Stp n (∀ a,St N D w0 F G0 G L T a w→WP r P c Q a w):=h
theorem isN (h:Stp n (∀ a,St N D w0 F G0 G L T a w→WL r P ops Q (⟨od,o,ty,pos,aP,none⟩ :: rest) a w)):Stp n (∀ a,St N D w0 F G0 G L T a w→WL r P ops Q (⟨od,o,ty,pos,aP,none⟩ :: rest) a w):=h
theorem isG (h:Stp n (∀ a,St N D w0 F G0 G L T a w→WL r P ops Q (⟨od,o,ty,pos,aP,some (j,b)⟩ :: rest) a w)):Stp n (∀ a,St N D w0 F G0 G L T a w→WL r P ops Q (⟨od,o,ty,pos,aP,some (j,b)⟩ :: rest) a w):=h
theorem isL (h:Stp n (∀ a,St N D w0 F G0 G L T a w→WL r P ops Q (⟨od,.load e z,ty,pos,aP,none⟩ :: rest) a w)):Stp n (∀ a,St N D w0 F G0 G L T a w→WL r P ops Q (⟨od,.load e z,ty,pos,aP,none⟩ :: rest) a w):=h
theorem isM (h:Stp n (∀ a,St N D w0 F G0 G L T a w→WL r P ops Q (⟨od,.load e z,ty,pos,aP,some (j,b)⟩ :: rest) a w)):Stp n (∀ a,St N D w0 F G0 G L T a w→WL r P ops Q (⟨od,.load e z,ty,pos,aP,some (j,b)⟩ :: rest) a w):=h
end
theorem gT {n:Nat} {X Y:Prop} (h:Held Y→Stp n X:=by
  intro hY_
  repeat first
   | exact Stp.z hY_
   | (with_reducible refine isN ?_;first
     | with_reducible refine Stp.s (fun k=>Rm (by with_unfolding_all exact rfl) k) ?_
     | with_reducible refine Stp.s (fun k=>Ra (by with_unfolding_all exact rfl) k) ?_
     | with_reducible refine Stp.s (fun k=>Rc (by with_unfolding_all exact rfl) k) ?_
     | with_reducible refine Stp.s (fun k=>Rf inferInstance (by with_unfolding_all exact rfl) k) ?_
     | (with_reducible refine isL ?_;first
       | with_reducible refine Stp.s (fun k=>Rg inferInstance (by with_unfolding_all exact rfl) (by with_reducible assumption) k) ?_
       | with_reducible refine Stp.s (fun k=>Ro inferInstance 0 (by with_unfolding_all exact rfl) k) ?_
       | with_reducible refine Stp.s (fun k=>Ro inferInstance 1 (by with_unfolding_all exact rfl) k) ?_
       | with_reducible refine Stp.s (fun k=>Ro inferInstance 2 (by with_unfolding_all exact rfl) k) ?_
       | with_reducible refine Stp.s (fun k=>Ro inferInstance 3 (by with_unfolding_all exact rfl) k) ?_
       | with_reducible refine Stp.s (fun k=>Ro inferInstance 4 (by with_unfolding_all exact rfl) k) ?_
       | with_reducible refine Stp.s (fun k=>Ro inferInstance 5 (by with_unfolding_all exact rfl) k) ?_
       | with_reducible refine Stp.s (fun k=>Ro inferInstance 6 (by with_unfolding_all exact rfl) k) ?_
       | with_reducible refine Stp.s (fun k=>Ro inferInstance 7 (by with_unfolding_all exact rfl) k) ?_)
     | with_reducible refine Stp.s (fun k=>Rl kR.h (by with_unfolding_all exact rfl) k) ?_
     | (with_reducible refine Stp.s (fun k=>Ri kR.h inferInstance (by with_unfolding_all exact rfl) (by with_unfolding_all exact rfl) k ?_) ?_;first|assumption|omega)
     | with_reducible refine Stp.s (fun k=>Rn (by with_unfolding_all exact rfl) k) ?_
     | (with_reducible refine Stp.s (fun k=>Rd (by with_unfolding_all exact rfl) k ?_ ?_) ?_;omega;omega)
     | (with_reducible refine Stp.s (fun k=>Rs (by with_unfolding_all exact rfl) k ?_ ?_) ?_;omega;omega)
     | (with_reducible refine Stp.s (fun k=>Pt ?_ (by with_unfolding_all exact rfl) k) ?_;exact ga)
     | (with_reducible refine Stp.s (fun k=>Pf ?_ (by with_unfolding_all exact rfl) k) ?_;exact ga)
     | with_reducible refine Stp.s (fun k=>Rk (by with_unfolding_all exact rfl) k) ?_
     | with_reducible refine Stp.s (fun k=>Rv kR.h (by with_unfolding_all exact rfl) k) ?_)
   | (with_reducible refine isG ?_;first
     | with_reducible refine Stp.s (fun k=>Ku (by with_unfolding_all exact rfl) k) ?_
     | (with_reducible refine Stp.s (fun k=>Y4 ?_ (by with_unfolding_all exact rfl) k) ?_;exact gq)
     | (with_reducible refine Stp.s (fun k=>Y3 ?_ (by with_unfolding_all exact rfl) k) ?_;exact gq)
     | (with_reducible refine Stp.s (fun k=>YM ?_ (by with_unfolding_all exact rfl) k) ?_;exact ga)
     | (with_reducible refine Stp.s (fun k=>YC ?_ (by with_unfolding_all exact rfl) k) ?_;exact ga)
     | (with_reducible refine Stp.s (fun k=>YF inferInstance ?_ (by with_unfolding_all exact rfl) k) ?_;exact ga)
     | (with_reducible refine isM ?_;first
       | (with_reducible refine Stp.s (fun k=>YR inferInstance ?_ (by with_unfolding_all exact rfl) (by with_reducible assumption) k) ?_;exact ga)
       | (with_reducible refine Stp.s (fun k=>YO inferInstance 0 ?_ (by with_unfolding_all exact rfl) k) ?_;exact ga)
       | (with_reducible refine Stp.s (fun k=>YO inferInstance 1 ?_ (by with_unfolding_all exact rfl) k) ?_;exact ga)
       | (with_reducible refine Stp.s (fun k=>YO inferInstance 2 ?_ (by with_unfolding_all exact rfl) k) ?_;exact ga)
       | (with_reducible refine Stp.s (fun k=>YO inferInstance 3 ?_ (by with_unfolding_all exact rfl) k) ?_;exact ga)
       | (with_reducible refine Stp.s (fun k=>YO inferInstance 4 ?_ (by with_unfolding_all exact rfl) k) ?_;exact ga)
       | (with_reducible refine Stp.s (fun k=>YO inferInstance 5 ?_ (by with_unfolding_all exact rfl) k) ?_;exact ga)
       | (with_reducible refine Stp.s (fun k=>YO inferInstance 6 ?_ (by with_unfolding_all exact rfl) k) ?_;exact ga)
       | (with_reducible refine Stp.s (fun k=>YO inferInstance 7 ?_ (by with_unfolding_all exact rfl) k) ?_;exact ga))
     | (with_reducible refine Stp.s (fun k=>YN ?_ (by with_unfolding_all exact rfl) k) ?_;exact ga)
     | (with_reducible refine Stp.s (fun k=>YL kR.h ?_ (by with_unfolding_all exact rfl) k) ?_;exact ga)
     | (with_reducible refine Stp.s (fun k=>YI kR.h inferInstance ?_ (by with_unfolding_all exact rfl) (by with_unfolding_all exact rfl) k ?_) ?_;exact ga;first|assumption|omega)
     | (with_reducible refine Stp.s (fun k=>PT ?_ ?_ (by with_unfolding_all exact rfl) k) ?_;exact ga;exact ga)
     | (with_reducible refine Stp.s (fun k=>PF ?_ ?_ (by with_unfolding_all exact rfl) k) ?_;exact ga;exact ga)
     | (with_reducible refine Stp.s (fun k=>Y4 ?_ (by with_unfolding_all exact rfl) k) ?_;exact ga)
     | (with_reducible refine Stp.s (fun k=>Y3 ?_ (by with_unfolding_all exact rfl) k) ?_;exact ga))
   | (with_reducible refine isE ?_;first
     | with_reducible refine Stp.s (fun k=>gKn (by with_unfolding_all exact rfl) k) ?_
     | with_reducible refine Stp.s (fun k=>gKd (by with_unfolding_all exact rfl) k) ?_)
   | (with_reducible refine isW ?_;first
     | with_reducible refine Stp.s gSR ?_
     | (with_reducible refine Stp.s (fun k=>Ct (by with_unfolding_all exact rfl) ?_ k) ?_;exact ga)
     | (with_reducible refine Stp.s (fun k=>Cf (by with_unfolding_all exact rfl) ?_ k) ?_;exact ga)
     | with_reducible refine Stp.s gSQ ?_
     | with_reducible refine Stp.s SB ?_
     | with_reducible refine Stp.s (fun k=>gKe (by with_unfolding_all exact rfl) k) ?_
     | with_reducible refine Stp.s (fun k=>gKc (by with_unfolding_all exact rfl) k) ?_
     | with_reducible refine Stp.s SC ?_)):Held Y→Stp n X:=h
theorem t0 (n:Nat) {a:Act} {c:List Oper} {Y:Prop} (H:St N D w0 F G0 G L T a w) (k:Y) (hc:c=[]:=by exact rfl) (h:Held Y→Stp n (∀ a,St N D w0 F G0 G L T a w→WL r P ops Q [] a w):=by exact gT):WL r P ops Q c a w:=by
 subst hc;exact (h ⟨k⟩).r a H
theorem t1 (n:Nat) {a:Act} {c:List Oper} {Y:Prop} {od:Option Nat} {o:Op} {ty:TypeId} {pos:String} {aP:Array Edge} {g:Option (Nat × Bool)} (H:St N D w0 F G0 G L T a w) (k:Y) (hc:c=[⟨od,o,ty,pos,aP,g⟩]:=by exact rfl)
  (h:Held Y→Stp n (∀ a,St N D w0 F G0 G L T a w→WL r P ops Q [⟨od,o,ty,pos,aP,g⟩] a w):=by exact gT):WL r P ops Q c a w:=by
 subst hc;exact (h ⟨k⟩).r a H
theorem t2 (n:Nat) {a:Act} {c:List Oper} {Y:Prop} {od od':Option Nat} {o o':Op} {ty ty':TypeId} {pos pos':String} {aP Ol:Array Edge} {g g':Option (Nat × Bool)} (H:St N D w0 F G0 G L T a w) (k:Y) (hc:c=[⟨od,o,ty,pos,aP,g⟩,⟨od',o',ty',pos',Ol,g'⟩]:=by exact rfl)
  (h:Held Y→Stp n (∀ a,St N D w0 F G0 G L T a w→WL r P ops Q [⟨od,o,ty,pos,aP,g⟩,⟨od',o',ty',pos',Ol,g'⟩] a w):=by exact gT):WL r P ops Q c a w:=by
 subst hc;exact (h ⟨k⟩).r a H
theorem sB {X:Prop} (h:X:=by exact St.sub (by assumption) (by repeat (first|exact trivial|refine ⟨rfl,?_⟩))):X:=h
class Pr (b:Bool) (p q:outParam Prop):Prop where
 t:b=true→p
 f:b=false→q
instance (priority:=100) Pr.all (b:Bool):Pr b (b=true) (b=false):=⟨fun h=>h,fun h=>h⟩
instance Pr.dec (p:Prop) [Decidable p]:Pr (decide p) p (¬p):=⟨lQ,of_decide_eq_false⟩
structure Br (t:Nat) (Z Y1 Y2:Prop):Prop where
 r:Y1→Y2→Z
theorem Br.cb {o:Operand} {b:Bool} (h:ev T o=some (.bool b)):Br 0 (∀ a,St N D w0 F G0 G L T a w→WP r P (.cond o x y) Q a w) (b=true→∀ a,St N D w0 F G0 G L T a w→WP r P x Q a w) (b=false→∀ a,St N D w0 F G0 G L T a w→WP r P y Q a w):=⟨fun k1 k2=>Cd h k1 k2⟩
theorem Br.sb {X:Act→Prop} {t:Nat} {b:Bool} (h:lk T t=some (.bool b)):Br t (∀ a,St N D w0 F G0 G L T a w→X a) (b=true→∀ a,St N D w0 F G0 G L T a w→X a) (b=false→∀ a,St N D w0 F G0 G L T a w→X a):=⟨fun k1 k2=>Sp t h k1 k2⟩
theorem Br.c {o:Operand} {b:Bool} {p q:Prop} (h:ev T o=some (.bool b)) [i:Pr b p q]:Br 0 (∀ a,St N D w0 F G0 G L T a w→WP r P (.cond o x y) Q a w) (p→∀ a,St N D w0 F G0 G L T a w→WP r P x Q a w) (q→∀ a,St N D w0 F G0 G L T a w→WP r P y Q a w):=⟨fun k1 k2=>Cd h (fun e=>k1 (i.t e)) (fun e=>k2 (i.f e))⟩
theorem Br.s {X:Act→Prop} {t:Nat} {b:Bool} {p q:Prop} (h:lk T t=some (.bool b)) [i:Pr b p q]:Br t (∀ a,St N D w0 F G0 G L T a w→X a) (p→∀ a,St N D w0 F G0 G L T a w→X a) (q→∀ a,St N D w0 F G0 G L T a w→X a):=⟨fun k1 k2=>Sp t h (fun e=>k1 (i.t e)) (fun e=>k2 (i.f e))⟩
structure Lf (Y Z:Prop):Prop where
 r:Z→Y
theorem Lf.r1 {fn:Func} {t:Nat} {v:ak} {R:ak→GH→Prop} (hQ:Q .ret=fun a w=>bodyPostM (FW none) 0 P fn (bB w0 G0 R) .ret a w) (hr:fn.results=#[.tmp t]) (hv:lk T t=some v):Lf (∀ a,St N [] w0 (fun k=>k < w0.heap.size) G0 G L T a w→WP none P .ret Q a w) (R v G) :=
 ⟨fun hx=>LR hr (by rw [hQ,hv]) (fun H=>H.rt hx)⟩
variable {X Y Z Y1 Y2:Prop}
theorem aj (n:Nat)  (k:Y)  (h:Held Y→Stp n X:=by exact gT):X:=(h ⟨k⟩).r
theorem aH (n:Nat) {a:Act} {c:List Oper} (H:St N D w0 F G0 G L T a w) (k:Y) (h:Held Y→Stp n (∀ a,St N D w0 F G0 G L T a w→WL r P ops Q c a w):=by exact gT):WL r P ops Q c a w:=(h ⟨k⟩).r a H
theorem dG (n:Nat) {a:Act} {c:Code} (H:St N D w0 F G0 G L T a w) (k:Y) (h:Held Y→Stp n (∀ a,St N D w0 F G0 G L T a w→WP r P c Q a w):=by exact gT):WP r P c Q a w:=(h ⟨k⟩).r a H
theorem goB (n:Nat)  (k1:Y1) (k2:Y2)  (h:Held Z→Stp n X:=by exact gT) (hb:Br 0 Z Y1 Y2:=by exact Br.c rfl):X:=(h ⟨hb.r k1 k2⟩).r
theorem eO (n:Nat) {a:Act} {c:List Oper} (H:St N D w0 F G0 G L T a w) (k1:Y1) (k2:Y2) (h:Held Z→Stp n (∀ a,St N D w0 F G0 G L T a w→WL r P ops Q c a w):=by exact gT) (hb:Br 0 Z Y1 Y2:=by exact Br.c rfl):WL r P ops Q c a w:=(h ⟨hb.r k1 k2⟩).r a H
theorem cK (n:Nat) {a:Act} {c:Code} (H:St N D w0 F G0 G L T a w) (k1:Y1) (k2:Y2) (h:Held Z→Stp n (∀ a,St N D w0 F G0 G L T a w→WP r P c Q a w):=by exact gT) (hb:Br 0 Z Y1 Y2:=by exact Br.c rfl):WP r P c Q a w:=(h ⟨hb.r k1 k2⟩).r a H
theorem gV (n t:Nat)  (k1:Y1) (k2:Y2)  (h:Held Z→Stp n X:=by exact gT) (hb:Br t Z Y1 Y2:=by exact Br.s rfl):X:=(h ⟨hb.r k1 k2⟩).r
theorem ku (n t:Nat) {a:Act} {c:List Oper} (H:St N D w0 F G0 G L T a w) (k1:Y1) (k2:Y2) (h:Held Z→Stp n (∀ a,St N D w0 F G0 G L T a w→WL r P ops Q c a w):=by exact gT) (hb:Br t Z Y1 Y2:=by exact Br.s rfl):WL r P ops Q c a w:=(h ⟨hb.r k1 k2⟩).r a H
theorem wT (n t:Nat) {a:Act} {c:Code} (H:St N D w0 F G0 G L T a w) (k1:Y1) (k2:Y2) (h:Held Z→Stp n (∀ a,St N D w0 F G0 G L T a w→WP r P c Q a w):=by exact gT) (hb:Br t Z Y1 Y2:=by exact Br.s rfl):WP r P c Q a w:=(h ⟨hb.r k1 k2⟩).r a H
theorem goC (n:Nat)  (k1:Y1) (k2:Y2)  (h:Held Z→Stp n X:=by exact gT) (hb:Br 0 Z Y1 Y2:=by exact Br.cb rfl):X:=(h ⟨hb.r k1 k2⟩).r
theorem fE (n:Nat) {a:Act} {c:List Oper} (H:St N D w0 F G0 G L T a w) (k1:Y1) (k2:Y2) (h:Held Z→Stp n (∀ a,St N D w0 F G0 G L T a w→WL r P ops Q c a w):=by exact gT) (hb:Br 0 Z Y1 Y2:=by exact Br.cb rfl):WL r P ops Q c a w:=(h ⟨hb.r k1 k2⟩).r a H
theorem gcC (n:Nat) {a:Act} {c:Code} (H:St N D w0 F G0 G L T a w) (k1:Y1) (k2:Y2) (h:Held Z→Stp n (∀ a,St N D w0 F G0 G L T a w→WP r P c Q a w):=by exact gT) (hb:Br 0 Z Y1 Y2:=by exact Br.cb rfl):WP r P c Q a w:=(h ⟨hb.r k1 k2⟩).r a H
theorem iV (n t:Nat)  (k1:Y1) (k2:Y2)  (h:Held Z→Stp n X:=by exact gT) (hb:Br t Z Y1 Y2:=by exact Br.sb rfl):X:=(h ⟨hb.r k1 k2⟩).r
theorem jA (n t:Nat) {a:Act} {c:List Oper} (H:St N D w0 F G0 G L T a w) (k1:Y1) (k2:Y2) (h:Held Z→Stp n (∀ a,St N D w0 F G0 G L T a w→WL r P ops Q c a w):=by exact gT) (hb:Br t Z Y1 Y2:=by exact Br.sb rfl):WL r P ops Q c a w:=(h ⟨hb.r k1 k2⟩).r a H
theorem gcQ (n t:Nat) {a:Act} {c:Code} (H:St N D w0 F G0 G L T a w) (k1:Y1) (k2:Y2) (h:Held Z→Stp n (∀ a,St N D w0 F G0 G L T a w→WP r P c Q a w):=by exact gT) (hb:Br t Z Y1 Y2:=by exact Br.sb rfl):WP r P c Q a w:=(h ⟨hb.r k1 k2⟩).r a H
theorem aJ (n:Nat)  (hx:Z)  (h:Held Y→Stp n X:=by exact gT) (hl:Lf Y Z:=by exact Lf.r1 rfl rfl rfl):X:=(h ⟨hl.r hx⟩).r
theorem gK (n:Nat) {a:Act} {c:List Oper} (H:St N D w0 F G0 G L T a w) (hx:Z) (h:Held Y→Stp n (∀ a,St N D w0 F G0 G L T a w→WL r P ops Q c a w):=by exact gT) (hl:Lf Y Z:=by exact Lf.r1 rfl rfl rfl):WL r P ops Q c a w:=(h ⟨hl.r hx⟩).r a H
theorem wS (n:Nat) {a:Act} {c:Code} (H:St N D w0 F G0 G L T a w) (hx:Z) (h:Held Y→Stp n (∀ a,St N D w0 F G0 G L T a w→WP r P c Q a w):=by exact gT) (hl:Lf Y Z:=by exact Lf.r1 rfl rfl rfl):WP r P c Q a w:=(h ⟨hl.r hx⟩).r a H
end
end
section
open Go.RowKit
def cB (e sz:Nat) (v:ak) (n:Nat) (xs:List ak) (Lo:OL):Prop :=
 xs.length=n*sz∧((v=.slice none 0 0∧n=0∧Lo=[])∨∃ b cap cur,v=.slice (some ⟨b,0,none⟩) n cap∧Lo=[(b,.cells cur e (0,0))]∧n≤cap∧cap≤maxLen∧cur.size=cap*sz∧cur.toList.take (n*sz)=xs)
theorem cB.nil {e sz:Nat}:cB e sz (.slice none 0 0) 0 [] []:=⟨by simp,.inl ⟨rfl,rfl,rfl⟩⟩
theorem cB.shape {e sz n:Nat} {v:ak} {xs:List ak} {Lo:OL} (h:cB e sz v n xs Lo):∃ A c,v=.slice A n c∧n≤c∧c≤maxLen:=by
 rcases h.2 with ⟨rfl,rfl,_⟩|⟨b,cap,cur,rfl,_,h1,h2,_,_⟩
 ·exact ⟨none,0,rfl,bX _,by simp [maxLen]⟩
 ·exact ⟨_,cap,rfl,h1,h2⟩
section
variable {N:Nat} {D:List Deferred} {w0:World} {F:Nat→Prop} {G0 G:GH} {L Li Lo:OL} {T:List (Nat × ak)}
variable {r:Option Nat} {P:Program} {ops:Array Oper} {Q:Exit→Act→World→Prop} {rest:List Oper} {a:Act} {w w':World}
variable {d:Nat} {ty:TypeId} {pos:String} {aP:Array Edge} {g:Option (Nat × Bool)}
theorem cB.owns {e sz n:Nat} {v:ak} {xs:List ak} (h:cB e sz v n xs Lo) (H:Hp w0 F G0 G (Li++Lo) w):w.ownsRow 0 e sz v n xs:=by
 refine ⟨h.1,?_⟩
 rcases h.2 with ⟨h1,h2,_⟩|⟨b,cap,cur,h1,h2,h3,h4,h5,h6⟩
 ·exact .inl ⟨h1,h2⟩
 ·exact .inr ⟨b,cap,cur,h1,eG _,H.own (b,.cells cur e (0,0)) (by simp [h2]),h3,h4,h5,h6⟩
theorem ahV {e sz n n':Nat} {v v':ak} {xs xs':List ak} (h:cB e sz v n xs Lo) (ho:fM G Lo w) (hown:w'.ownsRow 0 e sz v' n' xs') (hg:w.grownBy w' v.ownBlock) (hb:v'.ownBlock=v.ownBlock∨v'.ownBlock=some w.heap.size) :
  ∃ jo,cB e sz v' n' xs' jo∧Change w w' G G Lo jo:=by
 have hrow:∀ k,v.ownBlock=some k→∃ p∈Lo,p.1=k:=by
  intro k hk
  rcases h.2 with ⟨h1,_,_⟩|⟨b,cap,cur,h1,h2,_⟩
  ·rw [h1] at hk;cases hk
  ·rw [h1] at hk;simp only [Value.ownBlock,nQ] at hk;exact ⟨_,by rw [h2];exact List.mem_singleton_self _,hk⟩
 have hro:∀ k o,G k=some o→w'.heap[k]?=some o:=by
  intro k o hk
  rw [hg.block k (lt_of_heap (ho.ro k o hk)) (fun e'=>by
   obtain ⟨p,hp,e2⟩:=hrow k e'.symm
   have:=ho.sep p hp
   rw [e2,hk] at this;cases this)]
  exact ho.ro k o hk
 have hfr:∀ k,k < w.heap.size→(∀ p∈Lo,p.1≠k)→w'.heap[k]?=w.heap[k]?:=fun k hk hn=>hg.block k hk fun e'=>by
  obtain ⟨p,hp,e2⟩:=hrow k e'.symm
  exact hn p hp e2
 rcases hown.2 with ⟨h1,h2⟩|⟨b,cap,cur,h1,_,h3,h4,h5,h6,h7⟩
 ·exact ⟨[],⟨hown.1,.inl ⟨h1,h2,rfl⟩⟩,⟨hg.os,hg.tape,hg.output,hg.size,hfr,fun _ _ h=>h,fun _ _ h=>.inl h,⟨hro,fun _ h=>(by cases h),fun _ h=>(by cases h),List.Pairwise.nil⟩,fun _ h=>(by cases h)⟩⟩
 ·refine ⟨[(b,.cells cur e (0,0))],⟨hown.1,.inr ⟨b,cap,cur,h1,rfl,h4,h5,h6,h7⟩⟩,⟨hg.os,hg.tape,hg.output,hg.size,hfr,fun _ _ h=>h,fun _ _ h=>.inl h,⟨hro,fun p hp=>?_,fun p hp=>?_,by simp⟩,fun p hp=>?_⟩⟩
  ·rw [qO.1 hp];exact h3
  ·rw [qO.1 hp]
   cases hgb:G b with
   | none=>rfl
   | some o =>
    exfalso
    rw [h1] at hb
    rcases hb with hb|hb
    ·obtain ⟨p',hp',e2⟩:=hrow b (by rw [← hb];rfl)
     have:=ho.sep p' hp'
     rw [e2,hgb] at this;cases this
    ·simp only [Value.ownBlock,nQ] at hb
     have:=lt_of_heap (ho.ro b o hgb)
     omega
  ·rw [qO.1 hp]
   rw [h1] at hb
   rcases hb with hb|hb
   ·obtain ⟨p',hp',e2⟩:=hrow b (by rw [← hb];rfl)
    exact .inr ⟨p',hp',e2⟩
   ·simp only [Value.ownBlock,nQ] at hb
    exact .inl (by simp only;omega)
theorem oK {t e:TypeId} {sz bytes:Nat} {zero:List ak} {agg:Bool} (hs:P.underlying t=some (.slice e)) (ht:Ty P e sz bytes zero agg) (hz:Nat.beq zero.length sz=true) (hsz:Nat.blt 0 sz=true) {x y:Operand} {v:ak} {n m c b2 o2:Nat} {xs news:List ak} (H:St N D w0 F G0 G (Li++Lo) T a w)
  (hw:Region.wanted ⟨some d,.call { callee:=.builtin .append,args:=#[x,y],argTypes:=#[t,t] },ty,pos,aP,g⟩ (yielded ops a.tmps)=true) (hx:ev T x=some v) (hy:ev T y=some (.slice (some ⟨b2,o2,none⟩) m c)) (hrow:cB e sz v n xs Lo)
  (hn:news.length=m*sz) (hc:∀ j u,news[j]?=some u→w.cell? ⟨b2,o2+j,none⟩=some u) (h1:news.all Value.oneCell'=true) (h63:n+m≤maxLen) (hb:(n+m)*bytes≤140737488355328) (hd:Nat.blt d N=true)
  (k:∀ v' jo a' w',cB e sz v' (n+m) (xs++news) jo→St N D w0 F G0 G (Li++jo) ((d,v') :: T) a' w'→WL r P ops Q rest a' w') :
  WL r P ops Q (⟨some d,.call { callee:=.builtin .append,args:=#[x,y],argTypes:=#[t,t] },ty,pos,aP,g⟩ :: rest) a w:=by
 obtain ⟨i,z,hi,hi1,hi2,hi3,hi4⟩:=ht.parts
 obtain ⟨v',w2,hrun,r1,r2,_,r4⟩:=run_append_own_at (P:=P) w 0 t ty e i z sz bytes hs hi hi3 hi1 hi2 (by rw [hi4];simpa using Dg hz) (Eq.mp Nat.blt_eq hsz) v n xs (hrow.owns H.hp) ⟨b2,o2,none⟩ m c news hn (fun j u hj=>by rw [add_lit];exact hc j u hj) (fun u hu=>mZ.1 h1 u hu) h63 hb (eG _)
 obtain ⟨jo,hr,hch⟩:=ahV hrow H.hp.owns r1 r2 r4
 refine fQ (v:=v') (w':=w2) hw rfl ?_ (k v' jo _ w2 hr (H.put hd v' (H.hp.change hch)))
 simp [execOp,resolve,invoke,builtin,H.ev hx,H.ev hy,dX,hrun]
theorem CP {t e:TypeId} {sz bytes:Nat} {zero:List ak} {agg:Bool} (hs:P.underlying t=some (.slice e)) (ht:Ty P e sz bytes zero agg) {x y:Operand} {A B:Option Addr} {n c c':Nat} (H:St N D w0 F G0 G L T a w)
  (hw:Region.wanted ⟨some d,.call { callee:=.builtin .append,args:=#[x,y],argTypes:=#[t,t] },ty,pos,aP,g⟩ (yielded ops a.tmps)=true) (hx:ev T x=some (.slice A n c)) (hy:ev T y=some (.slice B 0 c')) (hnc:n≤c) (hd:Nat.blt d N=true)
  (k:∀ a',St N D w0 F G0 G L ((d,.slice A n c) :: T) a' w→WL r P ops Q rest a' w) :
  WL r P ops Q (⟨some d,.call { callee:=.builtin .append,args:=#[x,y],argTypes:=#[t,t] },ty,pos,aP,g⟩ :: rest) a w:=by
 refine fQ (v:=.slice A n c) (w':=w) hw rfl ?_ (k _ (H.put hd _ H.hp))
 have h1:∀ w,(Builtin.firstCells sz 0 (.slice B 0 c')).run P w=.ok #[] w:=by intro w;cases B <;> simp [Builtin.firstCells,loadCells,loadCellsFrom]
 have hle:n+0≤c:=by omega
 cases A <;> simp [execOp,resolve,invoke,builtin,H.ev hx,H.ev hy,dX,Builtin.append_,nO hs,ht.CO,Builtin.lenOf,hnc,h1,storeCells]
theorem El {t u:TypeId} {e:TypeId} (hs:P.underlying t=some (.slice e)) {x:Operand} {A:Option Addr} {n c:Nat} (H:St N D w0 F G0 G L T a w) (hw:Region.wanted ⟨some d,.binOp .eql t x (.const (.slice none 0 0)) u,ty,pos,aP,g⟩ (yielded ops a.tmps)=true) (hx:ev T x=some (.slice A n c)) (hd:Nat.blt d N=true)
  (k:∀ a',St N D w0 F G0 G L ((d,.bool A.isNone) :: T) a' w→WL r P ops Q rest a' w):WL r P ops Q (⟨some d,.binOp .eql t x (.const (.slice none 0 0)) u,ty,pos,aP,g⟩ :: rest) a w:=by
 refine fQ (v:=.bool A.isNone) (w':=w) hw rfl ?_ (k _ (H.put hd _ H.hp))
 have h1:(Op.equal t (.slice A n c) (.slice none 0 0)).run P w=.ok A.isNone w:=by
  show (Op.equalIn (9999+1) t (.slice A n c) (.slice none 0 0)).run P w=_
  rw [Op.equalIn.eq_2,dX,nO hs]
  cases A <;> rfl
 have h2:(do eqGuard .eql t x (.const (.slice none 0 0)) (.slice A n c) (.slice none 0 0);binOp .eql t (.slice A n c) (.slice none 0 0):Sem ak).run P w=.ok (.bool A.isNone) w:=by
  have e:(do eqGuard .eql t x (.const (.slice none 0 0)) (.slice A n c) (.slice none 0 0);binOp .eql t (.slice A n c) (.slice none 0 0):Sem ak)=(do pure (.bool (← Op.equal t (.slice A n c) (.slice none 0 0))):Sem ak):=rfl
  rw [e,dX,h1];rfl
 have e0:execOp a.eval ⟨some d,.binOp .eql t x (.const (.slice none 0 0)) u,ty,pos,aP,g⟩=(do pure (.value (← (do eqGuard .eql t x (.const (.slice none 0 0)) (.slice A n c) (.slice none 0 0);binOp .eql t (.slice A n c) (.slice none 0 0):Sem ak))):Sem Next):=by
  simp only [execOp,H.ev hx];rfl
 rw [e0,dX,h2]
 rfl
theorem Ei {t e:TypeId} {sz bytes:Nat} {zero:List ak} {agg:Bool} (hs:P.underlying t=some (.slice e)) (ht:Ty P e sz bytes zero agg) (H:St N D w0 F G0 G L T a w) (hw:Region.wanted ⟨some d,.buildSlice t 0 #[],ty,pos,aP,g⟩ (yielded ops a.tmps)=true) (hd:Nat.blt d N=true)
  (k:∀ b a' w',w0.heap.size≤b→St N D w0 F G0 G ((b,.cells #[] e (0,0)) :: L) ((d,.slice (some ⟨b,0,none⟩) 0 0) :: T) a' w'→WL r P ops Q rest a' w'):WL r P ops Q (⟨some d,.buildSlice t 0 #[],ty,pos,aP,g⟩ :: rest) a w:=by
 refine fQ (v:=.slice (some ⟨w.heap.size,0,none⟩) 0 0) (w':=w.alloc (.cells #[] e (0,0))) hw rfl ?_ (k _ _ _ H.hp.size (H.put hd _ (H.hp.alloc _)))
 have h0:¬ (0*sz > 2 ^ 24):=by simp
 simp [execOp,Instr.buildSlice,dX,nO hs,ht.CO,Instr.fill,newRow,newObj,Sem.run]
 congr 2
 apply Array.eq_empty_of_size_eq_zero
 simp
theorem cB.empty {e sz b:Nat}:cB e sz (.slice (some ⟨b,0,none⟩) 0 0) 0 [] [(b,.cells #[] e (0,0))] :=
 ⟨by simp,.inr ⟨b,0,#[],rfl,rfl,bX _,by simp [maxLen],by simp,by simp⟩⟩
theorem nZ {x:Operand} {fv:ak} {xs:List Operand} {vs:List ak} {ts:Array TypeId} {R:ak→GH→Prop} (H:St N D w0 F G0 G L T a w) (hw:Region.wanted ⟨some d,.call { callee:=.value x,args:=xs.toArray,argTypes:=ts },ty,pos,aP,g⟩ (yielded ops a.tmps)=true)
  (hf:ev T x=some fv) (hx:evs T xs=some vs) (hc:wD P fv vs w (bB w G R)) (hd:Nat.blt d N=true)
  (k:∀ v G' a' w',R v G'→(∀ k o,G k=some o→G' k=some o)→St N D w0 F G0 G' L ((d,v) :: T) a' w'→WL r P ops Q rest a' w'):WL r P ops Q (⟨some d,.call { callee:=.value x,args:=xs.toArray,argTypes:=ts },ty,pos,aP,g⟩ :: rest) a w:=by
 refine Yi (nx:=_) (R:=bB w G R) hw rfl rfl ?_ ?_
 ·have h1:=H.evs hx
  have e:(execOp a.eval ⟨some d,.call { callee:=.value x,args:=xs.toArray,argTypes:=ts },ty,pos,aP,g⟩)=(do let d ← Deferred.ofValue fv vs.toArray;invoke d.target d.args:Sem Next):=by
   simp only [execOp,resolve,H.ev hf,List.map_toArray,h1]
  rw [e]
  exact hc.go
 ·rintro e w' ⟨v,G',rfl,hb,hx,hR⟩
  exact ⟨v,rfl,k v G' _ w' hR hx.1 (H.put hd v (H.hp.Zn hb hx))⟩
theorem Hp.asX {R:ak→GH→Prop} {w:World} {G:GH} {e:Ending} {w':World} (hG:Hold G w) (h:bB w G R e w'):fB w G [] (fun v G' L'=>L'=[]∧R v G') e w':=by
 obtain ⟨v,G',rfl,hb,hx,hR⟩:=h
 exact ⟨v,G',[],rfl,⟨hb.os,hb.tape,hb.output,hb.size,fun k hk _=>hb.block k hk,hx.1,fun k o hk=>(hx.2.1 k o hk).imp id .inl,⟨hx.2.2,fun _ h=>(by cases h),fun _ h=>(by cases h),List.Pairwise.nil⟩,fun _ h=>(by cases h)⟩,rfl,hR⟩
end
def bV (G:GH) (sz:Nat) (rows:List (List Dat)) (xs:List ak):Prop :=
 ∃ css:List (List ak),xs=css.flatten∧css.length=rows.length∧∀ (j:Nat) (r:List Dat) (cs:List ak),rows[j]?=some r→css[j]?=some cs→aZ G r cs∧cs.length=sz
theorem bV.nil {G:GH} {sz:Nat}:bV G sz [] []:=⟨[],rfl,rfl,fun j r cs h=>by simp at h⟩
theorem bV.mono {G G':GH} (hm:∀ k o,G k=some o→G' k=some o) {sz:Nat} {rows:List (List Dat)} {xs:List ak} (h:bV G sz rows xs):bV G' sz rows xs:=by
 obtain ⟨css,h1,h2,h3⟩:=h
 exact ⟨css,h1,h2,fun j r cs hr hc=>⟨(h3 j r cs hr hc).1.mono hm,(h3 j r cs hr hc).2⟩⟩
theorem bV.snoc {G:GH} {sz:Nat} {rows:List (List Dat)} {xs:List ak} (h:bV G sz rows xs) {q:List Dat} {cs:List ak} (hr:aZ G q cs) (hl:cs.length=sz):bV G sz (rows++[q]) (xs++cs):=by
 obtain ⟨css,h1,h2,h3⟩:=h
 refine ⟨css++[cs],by simp [h1],by simp [h2],fun j r c hj hc=>?_⟩
 by_cases hlt:j < rows.length
 ·rw [yQ hlt] at hj
  rw [yQ (by omega)] at hc
  exact h3 j r c hj hc
 ·have hje:j=rows.length:=by
   have:=(jr.1 hj).1
   simp at this;omega
  subst hje
  rw [tZ (bX _),Nat.sub_self] at hj
  rw [tZ (by omega),h2,Nat.sub_self] at hc
  simp only [BN,nQ] at hj hc
  subst hj;subst hc
  exact ⟨hr,hl⟩
theorem abk {sz:Nat}:∀ {css:List (List ak)} {j:Nat} {cs:List ak},(∀ (j:Nat) (cs:List ak),css[j]?=some cs→cs.length=sz)→css[j]?=some cs→∀ i,i < sz→css.flatten[j*sz+i]?=cs[i]?
 | [],_,_,_,h,_,_=>by simp at h
 | c :: css,0,cs,hl,h,i,hi=>by
  simp only [BN,nQ] at h
  subst h
  have:=hl 0 c rfl
  simp only [List.flatten_cons,Nat.zero_mul,gX]
  rw [yQ (by omega)]
 | c :: css,j+1,cs,hl,h,i,hi=>by
  have hc:=hl 0 c rfl
  have ih:=abk (css:=css) (j:=j) (cs:=cs) (fun j cs hj=>hl (j+1) cs (by simpa using hj)) (by simpa using h) i hi
  simp only [List.flatten_cons]
  rw [tZ (by rw [hc,Nat.succ_mul];omega),← ih]
  congr 1
  rw [hc,Nat.succ_mul];omega
theorem mY.cat {G:GH} {sz b:Nat}:∀ {rows:List (List Dat)} {o:Nat},mY G sz b o rows→∃ xs:List ak,xs.length=rows.length*sz∧(∀ j u,xs[j]?=some u→aC G b (o+j)=some u)∧xs.all Value.oneCell'=true∧bV G sz rows xs
 | [],o,_=>⟨[],by simp,fun j u h=>by simp at h,rfl,bV.nil⟩
 | r :: rs,o,h=>by
  simp only [mY] at h
  obtain ⟨⟨cs,h1,h2,h3⟩,h4⟩:=h
  obtain ⟨xs,g1,g2,g3,css,g4,g5,g6⟩:=mY.cat h4
  refine ⟨cs++xs,by simp [h1,g1,Nat.succ_mul,Nat.add_comm],fun j u hj=>?_,by simp [h3.one,g3],cs :: css,by simp [g4],by simp [g5],fun j q c hj hc=>?_⟩
  ·by_cases hlt:j < cs.length
   ·rw [yQ hlt] at hj;exact h2 j u hj
   ·rw [tZ (by omega)] at hj
    rw [← g2 _ u hj];congr 1;omega
  ·cases j with
   | zero=>simp only [BN,nQ] at hj hc;subst hj;subst hc;exact ⟨h3,h1⟩
   | succ j=>exact g6 j q c (by simpa using hj) (by simpa using hc)
theorem ay.cells {G:GH} {sz:Nat} {rows:List (List Dat)} {A:Option Addr} {n c:Nat} (h:ay G (.sl sz rows) (.slice A n c)):n=rows.length∧n≤c∧c≤maxLen∧(A=none→rows=[]) ∧
  (rows≠[]→∃ b o xs,A=some ⟨b,o,none⟩∧xs.length=n*sz∧(∀ j u,xs[j]?=some u→aC G b (o+j)=some u)∧xs.all Value.oneCell'=true∧bV G sz rows xs):=by
 simp only [ay] at h
 obtain ⟨A',c',h1,h2,h3,h4⟩:=h
 injection h1 with e1 e2 e3
 subst e1;subst e2;subst e3
 refine ⟨rfl,h2,h3,fun hn=>?_,fun hne=>?_⟩
 ·apply Classical.byContradiction
  intro hne
  obtain ⟨b,o,e,_⟩:=h4 hne
  rw [hn] at e;cases e
 ·obtain ⟨b,o,e,hr⟩:=h4 hne
  obtain ⟨xs,g1,g2,g3,g4⟩:=hr.cat
  exact ⟨b,o,xs,e,g1,g2,g3,g4⟩
theorem ay.jB {G:GH} {sz:Nat} {A:Option Addr} {n c:Nat} (h:n=0) (hc:c≤maxLen):ay G (.sl sz []) (.slice A n c):=by
 subst h
 simp only [ay]
 exact ⟨A,c,rfl,eG _,hc,fun h=>absurd rfl h⟩
theorem ay.eT {G:GH} {e sz n b cap:Nat} {cur:Array ak} {xs:List ak} {rows:List (List Dat)} (hb:G b=some (.cells cur e (0,0))) (hl:rows.length=n) (hc:n≤cap) (hm:cap≤maxLen) (ht:cur.toList.take (n*sz)=xs) (eU:bV G sz rows xs) :
  ay G (.sl sz rows) (.slice (some ⟨b,0,none⟩) n cap):=by
 obtain ⟨css,h1,h2,h3⟩:=eU
 simp only [ay]
 refine ⟨_,cap,by rw [hl],by omega,hm,fun _=>⟨b,0,rfl,mY.mk fun k q hk=>?_⟩⟩
 have hkl:k < css.length:=by rw [h2];exact (jr.1 hk).1
 have hcs:css[k]?=some css[k]:=dV hkl
 obtain ⟨g1,g2⟩:=h3 k q _ hk hcs
 refine ⟨css[k],g2,fun j u hj=>?_,g1⟩
 have hjs:j < sz:=by rw [← g2];exact (jr.1 hj).1
 have hlen:∀ (j:Nat) (cs:List ak),css[j]?=some cs→cs.length=sz:=by
  intro j cs hj
  have hjl:j < rows.length:=by rw [← h2];exact (jr.1 hj).1
  exact (h3 j _ cs (dV hjl) hj).2
 have hf:=abk hlen hcs j hjs
 rw [← h1,← ht,hj] at hf
 unfold aC
 rw [hb]
 simp only
 have hlt:k*sz+j < n*sz:=by
  have:(k+1)*sz≤n*sz:=Nat.mul_le_mul_right _ (by omega)
  rw [Nat.succ_mul] at this;omega
 rw [xQ,au hlt] at hf
 simpa using hf
theorem St.vI {N:Nat} {D:List Deferred} {w0:World} {F:Nat→Prop} {G0 G:GH} {Li Lo:OL} {T:List (Nat × ak)} {a:Act} {w:World} {e sz n:Nat} {v:ak} {xs:List ak} {rows:List (List Dat)} (H:St N D w0 F G0 G (Li++Lo) T a w)
  (hrow:cB e sz v n xs Lo) (hl:rows.length=n) (eU:bV G sz rows xs):∃ G',(∀ k o,G k=some o→G' k=some o)∧ay G' (.sl sz rows) v∧St N D w0 F G0 G' Li T a w:=by
 rcases hrow.2 with ⟨rfl,h2,rfl⟩|⟨b,cap,cur,rfl,rfl,h3,h4,h5,h6⟩
 ·refine ⟨G,fun _ _ h=>h,?_,by simpa using H⟩
  have:rows=[]:=List.eq_nil_of_length_eq_zero (by omega)
  subst this
  simp only [ay]
  exact ⟨none,0,by simp,by simp,by simp [maxLen],fun h=>absurd rfl h⟩
 ·have hi:(Li++[(b,Obj.cells cur e (0,0))])[Li.length]?=some (b,.cells cur e (0,0)):=by simp
  have hn:=H.abq _ hi
  have hm:∀ k o,G k=some o→(G.add b (.cells cur e (0,0))) k=some o:=fun k o h=>GH.EG G hn k o h
  refine ⟨_,hm,ay.eT (GH.EH G b _) hl h3 h4 h6 (eU.mono hm),?_⟩
  have:=H.giveUp _ hi
  rwa [List.eraseIdx_append_of_length_le (bX _),Nat.sub_self,List.eraseIdx_zero,List.tail_cons,lD] at this
theorem St.dS {N:Nat} {D:List Deferred} {w0:World} {F:Nat→Prop} {G0 G:GH} {L:OL} {T:List (Nat × ak)} {a:Act} {w:World} {b:Nat} {o:Obj} (H:St N D w0 F G0 G ((b,o) :: L) T a w) :
  ∃ G',(∀ k o,G k=some o→G' k=some o)∧G' b=some o∧St N D w0 F G0 G' L T a w :=
 ⟨G.add b o,GH.EG G (H.abq 0 rfl),GH.EH G b o,H.giveUp 0 rfl⟩
theorem St.Pk {N:Nat} {D:List Deferred} {w0:World} {F:Nat→Prop} {G0 G:GH} {L:OL} {T:List (Nat × ak)} {a:Act} {w:World} {b e sz:Nat} {cs:List ak} {d:List Dat} (H:St N D w0 F G0 G ((b,.cells cs.toArray e (0,0)) :: L) T a w) (hl:cs.length=sz) (hr:aZ G d cs) :
  ∃ G',(∀ k o,G k=some o→G' k=some o)∧ay G' (.sl sz [d]) (.slice (some ⟨b,0,none⟩) 1 1)∧St N D w0 F G0 G' L T a w:=by
 obtain ⟨G',hm,hb,H⟩:=H.dS
 exact ⟨G',hm,ay.eT (xs:=cs) hb rfl (bX _) (by decide) (by simp [← hl]) (by simpa using (bV.nil (sz:=sz)).snoc (hr.mono hm) hl),H⟩
structure Now {α:Type} (xs:List AP) (P:α→AP) (J:Nat→GH→OL→Prop) (je j:Nat) (A:List α) (g:GH) (L:OL):Prop where
 now:J j g L
 rem:∀ i a,A[i]?=some a→xs[j+i]?=some (P a)
 len:j+A.length=je
theorem Now.head {α:Type} {xs:List AP} {P:α→AP} {J:Nat→GH→OL→Prop} {je j:Nat} {x:α} {A:List α} {g:GH} {L:OL} (h:Now xs P J je j (x :: A) g L):xs[j]?=some (P x):=h.rem 0 x rfl
theorem Now.step {α:Type} {xs:List AP} {P:α→AP} {J:Nat→GH→OL→Prop} {je j:Nat} {x:α} {A:List α} {g g':GH} {L L':OL} (h:Now xs P J je j (x :: A) g L) (hJ:J (j+1) g' L'):Now xs P J je (j+1) A g' L' :=
 ⟨hJ,fun i a hi=>by rw [show j+1+i=j+(i+1) by omega];exact h.rem (i+1) a (by simpa using hi),by have:=h.len;simp only [jS] at this;omega⟩
theorem Now.part {α:Type} {xs:List AP} {P:α→AP} {J:Nat→GH→OL→Prop} {je j:Nat} {A B:List α} {g:GH} {L:OL} (h:Now xs P J je j (A++B) g L):∀ i a,A[i]?=some a→xs[j+i]?=some (P a):=fun i a hi=>h.rem i a (by rw [yQ (jr.1 hi).1];exact hi)
theorem Now.jump {α:Type} {xs:List AP} {P:α→AP} {J:Nat→GH→OL→Prop} {je j:Nat} {A B:List α} {g g':GH} {L L':OL} (h:Now xs P J je j (A++B) g L) (hJ:J (j+A.length) g' L'):Now xs P J je (j+A.length) B g' L' :=
 ⟨hJ,fun i a hi=>by rw [Nat.add_assoc];exact h.rem (A.length+i) a (by rw [tZ (Nat.le_add_right _ _),Dh];exact hi),by have:=h.len;simp only [jc] at this;omega⟩
theorem Hp.bU {R:ak→GH→OL→Prop} {v:ak} {w0 w:World} {G0 G:GH} {L0 L L':OL} (h:Hp w0 (Fr w0 L0) G0 G L w) (hs:L'.Sublist L) (hR:R v G L'):fB w0 G0 L0 R (.returned v) w:=(h.drop hs).dO hR
section
variable {N:Nat} {D:List Deferred} {w0:World} {F:Nat→Prop} {G0 G:GH} {L Li Lo:OL} {T:List (Nat × ak)}
variable {r:Option Nat} {P:Program} {ops:Array Oper} {Q:Exit→Act→World→Prop} {rest:List Oper} {a:Act} {w:World}
variable {d:Nat} {ty:TypeId} {pos:String} {aP:Array Edge} {g:Option (Nat × Bool)}
theorem XA {t e:TypeId} {sz bytes:Nat} {zero:List ak} {agg:Bool} (hs:P.underlying t=some (.slice e)) (ht:Ty P e sz bytes zero agg) (hz:Nat.beq zero.length sz=true) (hsz:Nat.blt 0 sz=true) {x y:Operand} {v:ak} {n m c:Nat} {A:Option Addr} {xs:List ak} {rows:List (List Dat)} (H:St N D w0 F G0 G (Li++Lo) T a w)
  (hw:Region.wanted ⟨some d,.call { callee:=.builtin .append,args:=#[x,y],argTypes:=#[t,t] },ty,pos,aP,g⟩ (yielded ops a.tmps)=true) (hx:ev T x=some v) (hy:ev T y=some (.slice A m c)) (hrow:cB e sz v n xs Lo)
  (hrep:ay G (.sl sz rows) (.slice A m c)) (h63:n+m≤maxLen) (hb:(n+m)*bytes≤140737488355328) (hd:Nat.blt d N=true)
  (k:∀ v' jo news a' w',cB e sz v' (n+m) (xs++news) jo→bV G sz rows news→St N D w0 F G0 G (Li++jo) ((d,v') :: T) a' w'→WL r P ops Q rest a' w') :
  WL r P ops Q (⟨some d,.call { callee:=.builtin .append,args:=#[x,y],argTypes:=#[t,t] },ty,pos,aP,g⟩ :: rest) a w:=by
 obtain ⟨hn,hc1,hc2,hnil,hxx⟩:=hrep.cells
 by_cases hr0:rows=[]
 ·have hm0:m=0:=by rw [hn,hr0];rfl
  subst hm0
  obtain ⟨A',c',rfl,h1,h2⟩:=hrow.shape
  refine CP hs ht H hw hx hy h1 hd fun a' H'=>?_
  exact k _ Lo [] a' w (by simpa using hrow) (by rw [hr0];exact bV.nil) H'
 ·obtain ⟨b,o,news,rfl,hxl,hxc,hx1,eU⟩:=hxx hr0
  exact oK hs ht hz hsz H hw hx hy hrow hxl (fun j u hj=>H.hp.aC (hxc j u hj)) hx1 h63 hb hd fun v' jo a' w' hr' H'=>k v' jo news a' w' hr' eU H'
theorem aff {t e:TypeId} {sz bytes:Nat} {zero:List ak} {agg:Bool} (hs:P.underlying t=some (.slice e)) (ht:Ty P e sz bytes zero agg) {x y z:Operand} {A:Option Addr} {n c:Nat} (lo hi:Nat) {p q:Int} (H:St N D w0 F G0 G L T a w)
  (hw:Region.wanted ⟨some d,.slice t x (some y) (some z) none,ty,pos,aP,g⟩ (yielded ops a.tmps)=true) (hx:ev T x=some (.slice A n c)) (hy:ev T y=some (.int .i64 p)) (hz:ev T z=some (.int .i64 q)) (hp:p=(lo:Int)) (hq:q=(hi:Int)) (h1:lo≤hi) (h2:hi≤c) (hd:Nat.blt d N=true)
  (k:∀ a',St N D w0 F G0 G L ((d,.slice (if c=lo then A else A.map (·.add (lo*sz))) (hi - lo) (c - lo)) :: T) a' w→WL r P ops Q rest a' w):WL r P ops Q (⟨some d,.slice t x (some y) (some z) none,ty,pos,aP,g⟩ :: rest) a w:=by
 subst hp;subst hq
 refine fQ (v:=.slice (if c=lo then A else A.map (·.add (lo*sz))) (hi - lo) (c - lo)) (w':=w) hw rfl ?_ (k _ (H.put hd _ H.hp))
 simp [execOp,H.ev hx,H.ev hy,H.ev hz,Instr.sliceAt,Instr.slice,Instr.sliceBounds,Instr.sliceBound,dX,nO hs,ht.CO,asIntOf,h1,h2]
end
theorem ay.part {G:GH} {sz:Nat} {rows:List (List Dat)} {A:Option Addr} {n c:Nat} (h:ay G (.sl sz rows) (.slice A n c)) (lo hi:Nat) (h1:lo≤hi) (h2:hi≤rows.length) :
  ay G (.sl sz ((rows.drop lo).take (hi - lo))) (.slice (if c=lo then A else A.map (·.add (lo*sz))) (hi - lo) (c - lo)):=by
 obtain ⟨A',c',he,hc1,hc2,hg⟩:=h.slice
 injection he with e1 e2 e3
 subst e1;subst e3
 have hl:((rows.drop lo).take (hi - lo)).length=hi - lo:=by simp;omega
 simp only [ay]
 refine ⟨_,_,by rw [hl],by rw [hl];omega,by omega,fun hn=>?_⟩
 have hlt:lo < hi:=by
  rcases Nat.lt_or_ge lo hi with h|h
  ·exact h
  ·exact absurd (List.eq_nil_of_length_eq_zero (by rw [hl];omega)) hn
 obtain ⟨b,o,cs,hA,-⟩:=hg lo rows[lo] (by simp)
 subst hA
 refine ⟨b,o+lo*sz,by rw [ah (by omega),BP,add_lit],mY.mk fun k r hk=>?_⟩
 rw [xQ] at hk
 split at hk
 ·rw [List.getElem?_drop] at hk
  obtain ⟨b',o',cs,hA,g1,g2,g3⟩:=hg (lo+k) r hk
  obtain ⟨rfl,rfl⟩:b=b'∧o=o':=by simpa using hA
  exact ⟨cs,g1,fun j u hj=>by rw [← g2 j u hj];congr 1;rw [Nat.add_mul];omega,g3⟩
 ·cases hk
theorem bV.append {G:GH} {sz:Nat} {r1 r2:List (List Dat)} {x1 x2:List ak} (h1:bV G sz r1 x1) (h2:bV G sz r2 x2):bV G sz (r1++r2) (x1++x2):=by
 obtain ⟨c1,rfl,e1,f1⟩:=h1
 obtain ⟨c2,rfl,e2,f2⟩:=h2
 refine ⟨c1++c2,by simp,by simp [e1,e2],fun j r cs hr hc=>?_⟩
 by_cases hj:j < r1.length
 ·exact f1 j r cs (by rwa [yQ hj] at hr) (by rwa [yQ (by omega)] at hc)
 ·exact f2 (j - r1.length) r cs (by rwa [tZ (by omega)] at hr) (by rwa [tZ (by omega),e1] at hc)
end
section
open Go.RowKit
section
variable {N:Nat} {D:List Deferred} {w0:World} {F:Nat→Prop} {G0 G G1 G2:GH} {L L1 L2:OL} {T Xs:List (Nat × ak)}
variable {r:Option Nat} {P:Program} {Q:Exit→Act→World→Prop} {l:List Oper} {a a':Act} {w w':World}
theorem Dl {x y:Nat} (h:x≠y):Nat.beq x y=false:=by
 cases h':Nat.beq x y with
 | false=>rfl
 | true=>exact absurd (Dg h') h
theorem BU {i e:Nat} (h:fH l i=some e):i < l.length:=by
 unfold fH at h
 by_cases hl:i < l.length
 ·exact hl
 ·rw [List.getElem?_eq_none (by omega)] at h;cases h
theorem RH:∀ (vs c:List ak) (o:Nat),o+vs.length≤c.length→setRow c o vs=c.take o++vs++c.drop (o+vs.length)
 | [],c,o,_=>by simp [setRow]
 | v :: vs,c,o,h=>by
  simp only [jS] at h
  rw [setRow,RH vs (c.set o v) (o+1) (by simp;omega),List.take_set,List.drop_set,au (by omega),gI (by omega)]
  have e:((c.take o++[c[o]]).set o v)=c.take o++[v]:=by
   have hl:(c.take o).length=o:=by simp;omega
   rw [List.set_append,ah (by omega),hl,Nat.sub_self];rfl
  rw [e,jS,show o+1+vs.length=o+(vs.length+1) by omega]
  simp
end
end
section
open Go.RowKit
structure Je (P:Program) (t:TypeId):Prop where
 h:(P.info? t).map (fun j=>j.size == 0)=some false
theorem Je.parts {P:Program} {t:TypeId} (h:Je P t):∃ j,P.info? t=some j∧j.size≠0:=by
 obtain ⟨j,h1,h2⟩:=oO.1 h.h
 exact ⟨j,h1,by simpa using h2⟩
section
variable {N:Nat} {D:List Deferred} {w0:World} {F:Nat→Prop} {G0 G:GH} {L Li Lo:OL} {T:List (Nat × ak)}
variable {r:Option Nat} {P:Program} {ops:Array Oper} {Q:Exit→Act→World→Prop} {rest:List Oper} {a:Act} {w:World}
variable {d:Nat} {ty:TypeId} {pos:String} {aP:Array Edge} {g:Option (Nat × Bool)}
theorem Hp.shape (h:Hp w0 F G0 G L w) {i b:Nat} {c:Array ak} {e:TypeId} {fz:Nat × Nat} (hi:L[i]?=some (b,.cells c e fz)):w.shape? b=some (e,c.size):=by
 have:=h.own _ (mg hi)
 simp only at this
 simp [World.shape?,this]
theorem atM {t u te e:TypeId} {x:Operand} {b o:Nat} {c:Array ak} {fz:Nat × Nat} (hs:P.underlying t=some (.pointer te)) (hu:P.underlying u=some .unsafePointer) (hj:Je P te) (H:St N D w0 F G0 G L T a w) (hw:Region.wanted ⟨some d,.convert t u x,ty,pos,aP,g⟩ (yielded ops a.tmps)=true)
  (hx:ev T x=some (.pointer (some ⟨b,o,none⟩))) (i:Nat) (hi:L[i]?=some (b,.cells c e fz)) (ho:Nat.blt o c.size=true) (hd:Nat.blt d N=true)
  (k:∀ a',St N D w0 F G0 G L ((d,.pointer (some ⟨b,o,none⟩)) :: T) a' w→WL r P ops Q rest a' w):WL r P ops Q (⟨some d,.convert t u x,ty,pos,aP,g⟩ :: rest) a w:=by
 obtain ⟨j,h1,h2⟩:=hj.parts
 refine fQ (v:=.pointer (some ⟨b,o,none⟩)) (w':=w) hw rfl ?_ (k _ (H.put hd _ H.hp))
 have h:=Lib.run_to_unsafe (P:=P) w ⟨b,o,none⟩ hs hu h1 h2 (H.hp.shape hi) (Eq.mp Nat.blt_eq ho)
 simp only [execOp,H.ev hx,dX,h,mM,tX]
theorem atB {t u te e:TypeId} {x:Operand} {b o:Nat} {c:Array ak} {fz:Nat × Nat} (hs:P.underlying t=some .unsafePointer) (hu:P.underlying u=some (.pointer te)) (hj:Je P te) (H:St N D w0 F G0 G L T a w) (hw:Region.wanted ⟨some d,.convert t u x,ty,pos,aP,g⟩ (yielded ops a.tmps)=true)
  (hx:ev T x=some (.pointer (some ⟨b,o,none⟩))) (i:Nat) (hi:L[i]?=some (b,.cells c e fz)) (hl:liesAt P P.depth e (c.size / P.cellsOf e) o te 1=true) (hd:Nat.blt d N=true)
  (k:∀ a',St N D w0 F G0 G L ((d,.pointer (some ⟨b,o,none⟩)) :: T) a' w→WL r P ops Q rest a' w):WL r P ops Q (⟨some d,.convert t u x,ty,pos,aP,g⟩ :: rest) a w:=by
 obtain ⟨j,h1,h2⟩:=hj.parts
 refine fQ (v:=.pointer (some ⟨b,o,none⟩)) (w':=w) hw rfl ?_ (k _ (H.put hd _ H.hp))
 have h:=Lib.run_from_unsafe (P:=P) w ⟨b,o,none⟩ hs hu h1 (H.hp.shape hi) hl
 simp only [execOp,H.ev hx,dX,h,mM,tX]
theorem atE {f:FuncId} {xs:List Operand} {v:ak} {ts:Array TypeId} (hcf:∀ (w:World),(callFunc f #[v]).run P w=.ok (.value v) w) (H:St N D w0 F G0 G L T a w) (hw:Region.wanted ⟨some d,.call { callee:=.value (.func f),args:=xs.toArray,argTypes:=ts },ty,pos,aP,g⟩ (yielded ops a.tmps)=true)
  (hx:evs T xs=some [v]) (hd:Nat.blt d N=true)
  (k:∀ a',St N D w0 F G0 G L ((d,v) :: T) a' w→WL r P ops Q rest a' w):WL r P ops Q (⟨some d,.call { callee:=.value (.func f),args:=xs.toArray,argTypes:=ts },ty,pos,aP,g⟩ :: rest) a w:=by
 refine fQ (v:=v) (w':=w) hw rfl ?_ (k _ (H.put hd _ H.hp))
 have h1:=H.evs hx
 simp [execOp,resolve,Act.eval,Deferred.ofValue,invoke,dX,h1,hcf]
theorem atl {f:FuncId} {fn:Func} (hf:P.funcs[f]?=some fn) (hname:(fn.name == "runtime.NumGoroutine")=false) (hb:fn.body.isNone=true) (hn:Extern.findNext fn=none) (he:Extern.find fn=some Extern.AbiNoEscape.same) (v:ak) (w:World):(callFunc f #[v]).run P w=.ok (.value v) w:=by
 rw [run_callFunc_extern hf hname hb hn he,Lib.run_noEscape]
 rfl
theorem aeZ {t u te:TypeId} (hs:P.underlying t=some (.pointer te)) {x:Operand} {p:Option Addr} (H:St N D w0 F G0 G L T a w) (hw:Region.wanted ⟨some d,.binOp .eql t x (.const (.pointer none)) u,ty,pos,aP,g⟩ (yielded ops a.tmps)=true) (hx:ev T x=some (.pointer p)) (hd:Nat.blt d N=true)
  (k:∀ a',St N D w0 F G0 G L ((d,.bool p.isNone) :: T) a' w→WL r P ops Q rest a' w):WL r P ops Q (⟨some d,.binOp .eql t x (.const (.pointer none)) u,ty,pos,aP,g⟩ :: rest) a w:=by
 refine fQ (v:=.bool p.isNone) (w':=w) hw rfl ?_ (k _ (H.put hd _ H.hp))
 have h1:(Op.equal t (.pointer p) (.pointer none)).run P w=.ok p.isNone w:=by
  show (Op.equalIn (9999+1) t (.pointer p) (.pointer none)).run P w=_
  rw [Op.equalIn.eq_2,dX,nO hs]
  cases p <;> simp
 have h2:(do eqGuard .eql t x (.const (.pointer none)) (.pointer p) (.pointer none);binOp .eql t (.pointer p) (.pointer none):Sem ak).run P w=.ok (.bool p.isNone) w:=by
  have e:(do eqGuard .eql t x (.const (.pointer none)) (.pointer p) (.pointer none);binOp .eql t (.pointer p) (.pointer none):Sem ak)=(do pure (.bool (← Op.equal t (.pointer p) (.pointer none))):Sem ak):=rfl
  rw [e,dX,h1];rfl
 have e0:execOp a.eval ⟨some d,.binOp .eql t x (.const (.pointer none)) u,ty,pos,aP,g⟩=(do pure (.value (← (do eqGuard .eql t x (.const (.pointer none)) (.pointer p) (.pointer none);binOp .eql t (.pointer p) (.pointer none):Sem ak))):Sem Next):=by
  simp only [execOp,H.ev hx];rfl
 rw [e0,dX,h2]
 rfl
theorem atD {t u te:TypeId} (hs:P.underlying t=some (.pointer te)) (hj:Je P te) {x y:Operand} {p:Addr} (H:St N D w0 F G0 G L T a w) (hw:Region.wanted ⟨some d,.binOp .neq t x y u,ty,pos,aP,g⟩ (yielded ops a.tmps)=true) (hx:ev T x=some (.pointer (some p))) (hy:ev T y=some (.pointer (some p))) (hd:Nat.blt d N=true)
  (k:∀ a',St N D w0 F G0 G L ((d,.bool false) :: T) a' w→WL r P ops Q rest a' w):WL r P ops Q (⟨some d,.binOp .neq t x y u,ty,pos,aP,g⟩ :: rest) a w:=by
 obtain ⟨j,h1,h2⟩:=hj.parts
 refine fQ (v:=.bool false) (w':=w) hw rfl ?_ (k _ (H.put hd _ H.hp))
 have h:=Lib.run_neq_ptr_same (P:=P) (w:=w) p hs h1
 simp only [execOp,H.ev hx,H.ev hy]
 simp [dX,eqGuard,h]
theorem atH {t:TypeId} {x:Operand} {p:Addr} {n c:Nat} (H:St N D w0 F G0 G L T a w) (hw:Region.wanted ⟨some d,.call { callee:=.builtin .unsafeSliceData,args:=#[x],argTypes:=#[t] },ty,pos,aP,g⟩ (yielded ops a.tmps)=true) (hx:ev T x=some (.slice (some p) n c)) (hc:c≠0) (hd:Nat.blt d N=true)
  (k:∀ a',St N D w0 F G0 G L ((d,.pointer (some p)) :: T) a' w→WL r P ops Q rest a' w):WL r P ops Q (⟨some d,.call { callee:=.builtin .unsafeSliceData,args:=#[x],argTypes:=#[t] },ty,pos,aP,g⟩ :: rest) a w:=by
 refine fQ (v:=.pointer (some p)) (w':=w) hw rfl ?_ (k _ (H.put hd _ H.hp))
 have h:=Lib.run_unsafeSliceData_row (P:=P) (w:=w) #[t] ty p n c hc
 simp [execOp,resolve,invoke,builtin,H.ev hx,dX,h]
theorem avi {w:World} {b n:Nat} {c:Array ak} {e:TypeId} {fz:Nat × Nat} (h:w.heap[b]?=some (.cells c e fz)) (hn:n≠0):∃ GZ,xP b (.cells c e GZ) w (w.freeze ⟨b,0,none⟩ n):=by
 unfold World.freeze
 rw [ah hn]
 refine ⟨if fz.1 == fz.2 then (0,0+n) else (min fz.1 0,max fz.2 (0+n)),rfl,rfl,rfl,by simp,?_,fun k hk=>?_⟩
 ·simp [Array.getElem?_modify,h]
 ·simp [Array.getElem?_modify,Ne.symm hk]
theorem atN {pt it e:TypeId} {x y:Operand} {b i:Nat} {cur:Array ak} {fz:Nat × Nat} (l:List UInt8) (hp:P.underlying pt=some (.pointer e)) (hc:P.cellsOf e=1) (h0:l≠[]) (h63:l.length≤9223372036854775807) (H:St N D w0 F G0 G L T a w)
  (hw:Region.wanted ⟨some d,.call { callee:=.builtin .unsafeString,args:=#[x,y],argTypes:=#[pt,it] },ty,pos,aP,g⟩ (yielded ops a.tmps)=true) (hx:ev T x=some (.pointer (some ⟨b,0,none⟩))) (hy:ev T y=some (.int .i64 (l.length:Int)))
  (hi:L[i]?=some (b,.cells cur e fz)) (hl:cur.toList.take l.length=Lib.byteCells l) (hd:Nat.blt d N=true)
  (k:∀ GZ a' w',St N D w0 F G0 G (L.set i (b,.cells cur e GZ)) ((d,.string ⟨l.toArray⟩) :: T) a' w'→WL r P ops Q rest a' w'):WL r P ops Q (⟨some d,.call { callee:=.builtin .unsafeString,args:=#[x,y],argTypes:=#[pt,it] },ty,pos,aP,g⟩ :: rest) a w:=by
 have hb:=H.hp.own _ (mg hi)
 simp only at hb
 have hlen:l.length≤cur.size:=by
  have:=aB List.length hl
  simp only [List.length_take,Lib.byteCells_length,wJ] at this
  omega
 obtain ⟨GZ,hu⟩:=avi (n:=l.length) hb (by simpa using h0)
 have h:=Lib.run_unsafeString_row (P:=P) w pt it ty e hp hc b cur.size (H.hp.shape hi) l h0 hlen h63 (fun j x hj=>by
  rw [add_lit,gX]
  simp only [World.cell?,hb]
  have h2:(cur.toList.take l.length)[j]?=some (.int .u8 x.toNat):=by rw [hl];simp [Lib.byteCells,hj]
  rw [xQ] at h2
  split at h2
  ·simpa using h2
  ·cases h2)
 refine fQ (v:=.string ⟨l.toArray⟩) (w':=w.freeze ⟨b,0,none⟩ l.length) hw rfl ?_ (k GZ _ _ (H.put hd _ (H.hp.upd hi hu)))
 simp [execOp,resolve,invoke,builtin,H.ev hx,H.ev hy,dX,h]
theorem abf (sz n:Nat):∀ (css:List (List ak)) (k:Nat) (pre z:List ak),pre.length=k*sz→z.length=css.length*sz→(∀ c∈css,c.length=sz)→k+css.length=n →
  Ce ((List.range n).map fun i=>(i*sz,sz)) (pre++z) ((css.zipIdx k).map fun p=>(p.2,p.1))=some (pre++css.flatten)
 | [],k,pre,z,_,hz,_,_=>by
  have:z=[]:=List.eq_nil_of_length_eq_zero (by simpa using hz)
  subst this
  simp [Ce]
 | c :: css,k,pre,z,hp,hz,hc,hn=>by
  have hcl:=hc c gP
  simp only [jS] at hz hn
  have hpl:((List.range n).map fun i=>(i*sz,sz))[k]?=some (k*sz,sz):=by
   rw [om,List.getElem?_range (by omega)];rfl
  have hz1:z.length=sz+css.length*sz:=by rw [hz,Nat.add_mul,Nat.one_mul,Nat.add_comm]
  have hle:k*sz+c.length≤(pre++z).length:=by rw [jc,hp,hcl];omega
  have e1:Nat.beq c.length sz=true:=by rw [hcl];exact Nat.beq_refl sz
  have e2:Nat.ble (k*sz+c.length) (pre++z).length=true:=Eq.mpr Nat.ble_eq hle
  rw [List.zipIdx_cons,dR]
  simp only [Ce,hpl,e1,e2,Bool.and_self,cond_true]
  have e3:setRow (pre++z) (k*sz) c=(pre++c)++z.drop sz:=by
   rw [RH _ _ _ hle,← hp,List.take_left' rfl,List.drop_append,eX (by omega),jv,hcl]
   congr 2;omega
  rw [e3,abf sz n css (k+1) (pre++c) (z.drop sz) (by rw [jc,hp,hcl,Nat.succ_mul]) (by rw [List.length_drop];omega) (fun q hq=>hc q (jT _ hq)) (by omega)]
  simp
theorem atv {t e:TypeId} {sz bytes:Nat} {zero:List ak} {agg:Bool} (hs:P.underlying t=some (.slice e)) (ht:Ty P e sz bytes zero agg) {n:Nat} {xs:List (Nat × Operand)} {vs:List (Nat × ak)} (css:List (List ak)) (H:St N D w0 F G0 G L T a w) (hw:Region.wanted ⟨some d,.buildSlice t n xs.toArray,ty,pos,aP,g⟩ (yielded ops a.tmps)=true)
  (hx:pts T xs=some vs) (hv:vs.map (fun x=>(x.1,x.2.cells.toList))=(css.zipIdx 0).map fun p=>(p.2,p.1)) (hl:css.all (fun c=>Nat.beq c.length sz)=true) (hcn:Nat.beq css.length n=true) (hn:Nat.ble (n*sz) 1000=true) (hn0:Nat.beq (n*sz) 0=false) (hd:Nat.blt d N=true)
  (k:∀ b a' w',w0.heap.size≤b→St N D w0 F G0 G ((b,.cells css.flatten.toArray e (0,0)) :: L) ((d,.slice (some ⟨b,0,none⟩) n n) :: T) a' w'→WL r P ops Q rest a' w'):WL r P ops Q (⟨some d,.buildSlice t n xs.toArray,ty,pos,aP,g⟩ :: rest) a w:=by
 have hcn':css.length=n:=Dg hcn
 refine iy (vs':=(css.zipIdx 0).map fun p=>(p.2,p.1)) hs ht ((List.range (n*sz)).map (fun i=>zero[i % zero.length]!)) css.flatten H hw hx hv hn hn0 rfl (fun i q h=>?_) ?_ hd k
 ·rw [om] at h
  obtain ⟨j,hj,rfl⟩:=oO.1 h
  obtain ⟨h1,h2⟩:=jr.1 hj
  rw [List.getElem_range] at h2
  rw [h2]
 ·have h:=abf sz n css 0 [] ((List.range (n*sz)).map (fun i=>zero[i % zero.length]!)) (by simp) (by simp [hcn']) (fun c hc=>Dg (mZ.1 hl c hc)) (by omega)
  simpa using h
end
end
section
open Go.RowKit
theorem lZ:prog.underlying 3=some (.int .i64):=by kernel_rfl
instance:kR prog 3 (.int .i64):=⟨lZ⟩
theorem Ky:prog.underlying 5=some (.int .u8):=by kernel_rfl
instance:kR prog 5 (.int .u8):=⟨Ky⟩
theorem jl:prog.underlying 9=some .string:=by kernel_rfl
instance:kR prog 9 .string:=⟨jl⟩
theorem akI:∀ args w,(callFunc 227 args).run prog w=.ok (.enter 227 args) w:=enters func227 rfl (by kernel_rfl)
theorem akt:∀ args w,(callFunc 202 args).run prog w=.ok (.enter 202 args) w:=enters func202 rfl (by kernel_rfl)
theorem ajL:∀ args w,(callFunc 157 args).run prog w=.ok (.enter 157 args) w:=enters func157 rfl (by kernel_rfl)
theorem ER:∀ args w,(callFunc 94 args).run prog w=.ok (.enter 94 args) w:=enters func94 rfl (by kernel_rfl)
def iX (b:Int):Int × Int × Int :=
  (if b=224 then 160 else if b=240 then 144 else 128,if b=237 then 159 else if b=244 then 143 else 191,
   if b < 128 then 1 else if b < 194∨244 < b then 0 else if b < 224 then 2 else if b < 240 then 3 else 4)
theorem XU (b:Int):0≤(iX b).2.2∧(iX b).2.2≤4:=by
 simp only [iX];split
 ·omega
 split
 ·omega
 split
 ·omega
 split <;> omega
theorem auR (G:GH) (w0:World) (hG:Hold G w0) (b:Int) :
  Calls prog 227 #[.int .u8 b] w0 (bB w0 G fun v G'=>v=.tuple #[.int .u8 (iX b).1,.int .u8 (iX b).2.1,.int .i64 (iX b).2.2]∧G=G'):=by
 refine eN [(0,_)] func227 rfl ntmps227 rfl rfl hG ?_;refine goB 16 ?_ ?_
 ·intro p5
  refine goB 12 ?_ ?_
  ·intro iT
   refine aj 11 ?_;intro a H;refine dw ?_;refine (gu H results227 (.cons (bG H rfl) (.cons (bG H rfl) (.cons (bG H rfl) .nil))) ?_).1
   first|(exfalso;omega)|exact H.rt ⟨by simp only [iX];repeat (first|rw [au (by omega)]|rw [ah (by omega)]),rfl⟩
  intro iT
  refine goB 4 ?_ ?_
  ·intro kN
   refine aj 11 ?_;intro a H;refine dw ?_;refine (gu H results227 (.cons (bG H rfl) (.cons (bG H rfl) (.cons (bG H rfl) .nil))) ?_).1
   first|(exfalso;omega)|exact H.rt ⟨by simp only [iX];repeat (first|rw [au (by omega)]|rw [ah (by omega)]),rfl⟩
  intro kN
  refine goB 4 ?_ ?_
  ·intro p26
   refine aj 11 ?_;intro a H;refine dw ?_;refine (gu H results227 (.cons (bG H rfl) (.cons (bG H rfl) (.cons (bG H rfl) .nil))) ?_).1
   first|(exfalso;omega)|exact H.rt ⟨by simp only [iX];repeat (first|rw [au (by omega)]|rw [ah (by omega)]),rfl⟩
  intro p26
  refine goB 4 ?_ ?_
  ·intro p28
   refine aj 11 ?_;intro a H;refine dw ?_;refine (gu H results227 (.cons (bG H rfl) (.cons (bG H rfl) (.cons (bG H rfl) .nil))) ?_).1
   first|(exfalso;omega)|exact H.rt ⟨by simp only [iX];repeat (first|rw [au (by omega)]|rw [ah (by omega)]),rfl⟩
  intro p28
  refine aj 9 ?_;intro a H;refine dw ?_;refine (gu H results227 (.cons (bG H rfl) (.cons (bG H rfl) (.cons (bG H rfl) .nil))) ?_).1
  first|(exfalso;omega)|exact H.rt ⟨by simp only [iX];repeat (first|rw [au (by omega)]|rw [ah (by omega)]),rfl⟩
 intro p5
 refine gV 4 11 ?_ ?_
 ·intro qg
  refine goB 18 ?_ ?_
  ·intro iT
   refine aj 11 ?_;intro a H;refine dw ?_;refine (gu H results227 (.cons (bG H rfl) (.cons (bG H rfl) (.cons (bG H rfl) .nil))) ?_).1
   first|(exfalso;omega)|exact H.rt ⟨by simp only [iX];repeat (first|rw [au (by omega)]|rw [ah (by omega)]),rfl⟩
  intro iT
  refine goB 4 ?_ ?_
  ·intro kN
   refine aj 11 ?_;intro a H;refine dw ?_;refine (gu H results227 (.cons (bG H rfl) (.cons (bG H rfl) (.cons (bG H rfl) .nil))) ?_).1
   first|(exfalso;omega)|exact H.rt ⟨by simp only [iX];repeat (first|rw [au (by omega)]|rw [ah (by omega)]),rfl⟩
  intro kN
  refine goB 4 ?_ ?_
  ·intro p26
   refine aj 11 ?_;intro a H;refine dw ?_;refine (gu H results227 (.cons (bG H rfl) (.cons (bG H rfl) (.cons (bG H rfl) .nil))) ?_).1
   first|(exfalso;omega)|exact H.rt ⟨by simp only [iX];repeat (first|rw [au (by omega)]|rw [ah (by omega)]),rfl⟩
  intro p26
  refine goB 4 ?_ ?_
  ·intro p28
   refine aj 11 ?_;intro a H;refine dw ?_;refine (gu H results227 (.cons (bG H rfl) (.cons (bG H rfl) (.cons (bG H rfl) .nil))) ?_).1
   first|(exfalso;omega)|exact H.rt ⟨by simp only [iX];repeat (first|rw [au (by omega)]|rw [ah (by omega)]),rfl⟩
  intro p28
  refine aj 9 ?_;intro a H;refine dw ?_;refine (gu H results227 (.cons (bG H rfl) (.cons (bG H rfl) (.cons (bG H rfl) .nil))) ?_).1
  first|(exfalso;omega)|exact H.rt ⟨by simp only [iX];repeat (first|rw [au (by omega)]|rw [ah (by omega)]),rfl⟩
 intro qg
 refine goB 5 ?_ ?_
 ·intro p8
  refine goB 12 ?_ ?_
  ·intro iT
   refine aj 11 ?_;intro a H;refine dw ?_;refine (gu H results227 (.cons (bG H rfl) (.cons (bG H rfl) (.cons (bG H rfl) .nil))) ?_).1
   first|(exfalso;omega)|exact H.rt ⟨by simp only [iX];repeat (first|rw [au (by omega)]|rw [ah (by omega)]),rfl⟩
  intro iT
  refine goB 4 ?_ ?_
  ·intro kN
   refine aj 11 ?_;intro a H;refine dw ?_;refine (gu H results227 (.cons (bG H rfl) (.cons (bG H rfl) (.cons (bG H rfl) .nil))) ?_).1
   first|(exfalso;omega)|exact H.rt ⟨by simp only [iX];repeat (first|rw [au (by omega)]|rw [ah (by omega)]),rfl⟩
  intro kN
  refine goB 4 ?_ ?_
  ·intro p26
   refine aj 11 ?_;intro a H;refine dw ?_;refine (gu H results227 (.cons (bG H rfl) (.cons (bG H rfl) (.cons (bG H rfl) .nil))) ?_).1
   first|(exfalso;omega)|exact H.rt ⟨by simp only [iX];repeat (first|rw [au (by omega)]|rw [ah (by omega)]),rfl⟩
  intro p26
  refine goB 4 ?_ ?_
  ·intro p28
   refine aj 11 ?_;intro a H;refine dw ?_;refine (gu H results227 (.cons (bG H rfl) (.cons (bG H rfl) (.cons (bG H rfl) .nil))) ?_).1
   first|(exfalso;omega)|exact H.rt ⟨by simp only [iX];repeat (first|rw [au (by omega)]|rw [ah (by omega)]),rfl⟩
  intro p28
  refine aj 9 ?_;intro a H;refine dw ?_;refine (gu H results227 (.cons (bG H rfl) (.cons (bG H rfl) (.cons (bG H rfl) .nil))) ?_).1
  first|(exfalso;omega)|exact H.rt ⟨by simp only [iX];repeat (first|rw [au (by omega)]|rw [ah (by omega)]),rfl⟩
 intro p8
 refine goB 5 ?_ ?_
 ·intro mE
  refine goB 12 ?_ ?_
  ·intro iT
   refine aj 11 ?_;intro a H;refine dw ?_;refine (gu H results227 (.cons (bG H rfl) (.cons (bG H rfl) (.cons (bG H rfl) .nil))) ?_).1
   first|(exfalso;omega)|exact H.rt ⟨by simp only [iX];repeat (first|rw [au (by omega)]|rw [ah (by omega)]),rfl⟩
  intro iT
  refine goB 4 ?_ ?_
  ·intro kN
   refine aj 11 ?_;intro a H;refine dw ?_;refine (gu H results227 (.cons (bG H rfl) (.cons (bG H rfl) (.cons (bG H rfl) .nil))) ?_).1
   first|(exfalso;omega)|exact H.rt ⟨by simp only [iX];repeat (first|rw [au (by omega)]|rw [ah (by omega)]),rfl⟩
  intro kN
  refine goB 4 ?_ ?_
  ·intro p26
   refine aj 11 ?_;intro a H;refine dw ?_;refine (gu H results227 (.cons (bG H rfl) (.cons (bG H rfl) (.cons (bG H rfl) .nil))) ?_).1
   first|(exfalso;omega)|exact H.rt ⟨by simp only [iX];repeat (first|rw [au (by omega)]|rw [ah (by omega)]),rfl⟩
  intro p26
  refine goB 4 ?_ ?_
  ·intro p28
   refine aj 11 ?_;intro a H;refine dw ?_;refine (gu H results227 (.cons (bG H rfl) (.cons (bG H rfl) (.cons (bG H rfl) .nil))) ?_).1
   first|(exfalso;omega)|exact H.rt ⟨by simp only [iX];repeat (first|rw [au (by omega)]|rw [ah (by omega)]),rfl⟩
  intro p28
  refine aj 9 ?_;intro a H;refine dw ?_;refine (gu H results227 (.cons (bG H rfl) (.cons (bG H rfl) (.cons (bG H rfl) .nil))) ?_).1
  first|(exfalso;omega)|exact H.rt ⟨by simp only [iX];repeat (first|rw [au (by omega)]|rw [ah (by omega)]),rfl⟩
 intro mE
 refine goB 5 ?_ ?_
 ·intro nM
  refine goB 12 ?_ ?_
  ·intro iT
   refine aj 11 ?_;intro a H;refine dw ?_;refine (gu H results227 (.cons (bG H rfl) (.cons (bG H rfl) (.cons (bG H rfl) .nil))) ?_).1
   first|(exfalso;omega)|exact H.rt ⟨by simp only [iX];repeat (first|rw [au (by omega)]|rw [ah (by omega)]),rfl⟩
  intro iT
  refine goB 4 ?_ ?_
  ·intro kN
   refine aj 11 ?_;intro a H;refine dw ?_;refine (gu H results227 (.cons (bG H rfl) (.cons (bG H rfl) (.cons (bG H rfl) .nil))) ?_).1
   first|(exfalso;omega)|exact H.rt ⟨by simp only [iX];repeat (first|rw [au (by omega)]|rw [ah (by omega)]),rfl⟩
  intro kN
  refine goB 4 ?_ ?_
  ·intro p26
   refine aj 11 ?_;intro a H;refine dw ?_;refine (gu H results227 (.cons (bG H rfl) (.cons (bG H rfl) (.cons (bG H rfl) .nil))) ?_).1
   first|(exfalso;omega)|exact H.rt ⟨by simp only [iX];repeat (first|rw [au (by omega)]|rw [ah (by omega)]),rfl⟩
  intro p26
  refine goB 4 ?_ ?_
  ·intro p28
   refine aj 11 ?_;intro a H;refine dw ?_;refine (gu H results227 (.cons (bG H rfl) (.cons (bG H rfl) (.cons (bG H rfl) .nil))) ?_).1
   first|(exfalso;omega)|exact H.rt ⟨by simp only [iX];repeat (first|rw [au (by omega)]|rw [ah (by omega)]),rfl⟩
  intro p28
  refine aj 9 ?_;intro a H;refine dw ?_;refine (gu H results227 (.cons (bG H rfl) (.cons (bG H rfl) (.cons (bG H rfl) .nil))) ?_).1
  first|(exfalso;omega)|exact H.rt ⟨by simp only [iX];repeat (first|rw [au (by omega)]|rw [ah (by omega)]),rfl⟩
 intro nM
 refine goB 12 ?_ ?_
 ·intro iT
  refine aj 11 ?_;intro a H;refine dw ?_;refine (gu H results227 (.cons (bG H rfl) (.cons (bG H rfl) (.cons (bG H rfl) .nil))) ?_).1
  first|(exfalso;omega)|exact H.rt ⟨by simp only [iX];repeat (first|rw [au (by omega)]|rw [ah (by omega)]),rfl⟩
 intro iT
 refine goB 4 ?_ ?_
 ·intro kN
  refine aj 11 ?_;intro a H;refine dw ?_;refine (gu H results227 (.cons (bG H rfl) (.cons (bG H rfl) (.cons (bG H rfl) .nil))) ?_).1
  first|(exfalso;omega)|exact H.rt ⟨by simp only [iX];repeat (first|rw [au (by omega)]|rw [ah (by omega)]),rfl⟩
 intro kN
 refine goB 4 ?_ ?_
 ·intro p26
  refine aj 11 ?_;intro a H;refine dw ?_;refine (gu H results227 (.cons (bG H rfl) (.cons (bG H rfl) (.cons (bG H rfl) .nil))) ?_).1
  first|(exfalso;omega)|exact H.rt ⟨by simp only [iX];repeat (first|rw [au (by omega)]|rw [ah (by omega)]),rfl⟩
 intro p26
 refine goB 4 ?_ ?_
 ·intro p28
  refine aj 11 ?_;intro a H;refine dw ?_;refine (gu H results227 (.cons (bG H rfl) (.cons (bG H rfl) (.cons (bG H rfl) .nil))) ?_).1
  first|(exfalso;omega)|exact H.rt ⟨by simp only [iX];repeat (first|rw [au (by omega)]|rw [ah (by omega)]),rfl⟩
 intro p28
 refine aj 9 ?_;intro a H;refine dw ?_;refine (gu H results227 (.cons (bG H rfl) (.cons (bG H rfl) (.cons (bG H rfl) .nil))) ?_).1
 first|(exfalso;omega)|exact H.rt ⟨by simp only [iX];repeat (first|rw [au (by omega)]|rw [ah (by omega)]),rfl⟩
def gF (s:ByteArray) (i:Nat):Int:=if h:i < s.size then (s[i].toNat:Int) else 0
theorem lS {s:ByteArray} {i:Nat} (h:i < s.size):gF s i=(s[i].toNat:Int):=by simp [gF,h]
def qx (s:ByteArray) (at_ n:Nat):(fuel k:Nat)→(low high p:Int)→Int × Nat × Bool
 | 0,k,_,_,p=>(p,k,true)
 | f+1,k,low,high,p =>
  if n≤k then (p,k,true)
  else if s.size≤at_+k∨gF s (at_+k) < low∨high < gF s (at_+k) then (0,k,false)
  else qx s at_ n f (k+1) 128 191 (xS .or .i64 (IntKind.i64.wrap (p*2 ^ 6)) (xS .and .i64 (gF s (at_+k)) 63))
def kJ (s:ByteArray) (at_:Nat):Int × Nat × Bool :=
 let b:=gF s at_
 let t:=iX b
 if t.2.2=0 then (0,0,false) else if t.2.2=1 then (b,1,true)
 else qx s at_ t.2.2.toNat 4 1 t.1 t.2.1 (xS .and .i64 b ((127:Int).fdiv (2 ^ t.2.2.toNat)))
theorem X8 (n:UInt8):IntKind.i64.wrap (n.toNat:Int)=(n.toNat:Int):=Il (by omega) (by have:=n.toNat_lt;omega)
theorem aiM (G:GH) (w0:World) (hG:Hold G w0) (s:ByteArray) (i:Nat) (hi:i < s.size) (hs:s.size < 4611686018427387904) :
  Calls prog 202 #[.string s,.int .i64 i] w0 (bB w0 G fun v G'=>v=.tuple #[.int .i64 (kJ s i).1,.int .i64 (kJ s i).2.1,.bool (kJ s i).2.2]∧G=G'):=by
 have hb:=lS hi;obtain ⟨n,hn⟩:∃ n:Nat,(iX (gF s i)).2.2=(n:Int):=⟨(iX (gF s i)).2.2.toNat,by have:=XU (gF s i);omega⟩
 have JV:n≤4:=by have:=XU (gF s i);omega
 refine eN [(0,_),(1,_)] func202 rfl ntmps202 rfl rfl hG ?_;refine aj 8 ?_;intro a H;refine qj _ jl H wn rfl rfl rfl (by first|assumption|omega) rfl ?_;clear H;refine aj 1 ?_;intro a H;rw [← hb] at H;refine aH 3 H ?_;clear H;intro a H;refine s_call akI H wn rfl (auR _ _ H.ro _) rfl ?_;clear H;rintro v16 _ a w ⟨rfl,rfl⟩ - H;refine aH 1 H ?_;clear H;intro a H;(iterate 3 refine qK H wn rfl rfl rfl ?_;clear H;intro a H);refine eO 13 H ?_ ?_ <;> clear H
 ·intro nN
  refine aj 5 ?_;intro a H;refine dw ?_;refine (gu H results202 (.cons (bG H rfl) (.cons (bG H rfl) (.cons (bG H rfl) .nil))) ?_).1;exact H.rt ⟨by simp [kJ,nN],rfl⟩
 intro nN
 refine goB 4 ?_ ?_
 ·intro Aa
  refine aj 2 ?_;intro a H;refine FI (gF s i) lZ Ky H wn rfl (by rw [hb];exact X8 _) rfl ?_;clear H;refine aj 4 ?_;intro a H;refine dw ?_;refine (gu H results202 (.cons (bG H rfl) (.cons (bG H rfl) (.cons (bG H rfl) .nil))) ?_).1;exact H.rt ⟨by simp [kJ,nN,Aa],rfl⟩
 intro Aa
 refine aj 3 ?_;intro a H;refine FI (gF s i) lZ Ky H wn rfl (by rw [hb];exact X8 _) rfl ?_;clear H;refine aj 1 ?_;intro a H;refine XE n H wn rfl rfl (by rw [hn]) (by show n≤64;omega) rfl ?_;clear H;intro a H;refine RB rfl H wn rfl rfl rfl ?_;clear H;refine aj 7 ?_;intro a H;refine dD (ι:=Nat × Int × Int × Int) (Tc:=[(0,_),(1,_),(10,_)]) (Lc:=[]) (fun gh=>[(4,.int .i64 gh.2.2.2),(5,.int .i64 (gh.1:Int)),(8,.int .u8 gh.2.1),(9,.int .u8 gh.2.2.1)]) (fun gh=>[]) (fun gh=>G) (fun gh=>gh.1≤4∧kJ s i=qx s i n (5 - gh.1) gh.1 gh.2.1 gh.2.2.1 gh.2.2.2) (fun gh=>5 - gh.1) ((1,_,_,_)) sB ?_ ?_
 ·refine ⟨by omega,?_⟩;simp only [kJ,hn];rw [ah (by omega),ah (by omega)];rfl
 clear H;rintro ⟨k,low,high,p⟩ a w hI H;dsimp only at hI H;obtain ⟨hk,hdec⟩:=hI;dsimp only [lca,aQ] at H;refine cK 6 H ?_ ?_ <;> clear H
 ·intro p34
  refine iV 12 43 ?_ ?_
  ·intro h43
   try have p43:=dT h43
   refine aj 25 ?_;intro a H;refine dw ?_
   have hfin:kJ s i=(if n≤k then (p,k,true) else (0,k,false)):=by
    rw [hdec];have e:5 - k=(4 - k)+1:=by omega
    rw [e,qx]
    by_cases hk2:n≤k
    ·rw [au hk2,au hk2]
    rw [ah hk2,ah hk2,au (by first|omega|(rw [lS (by omega)];omega))]
   refine (gu H results202 (.cons (bG H rfl) (.cons (bG H rfl) (.cons (bG H rfl) .nil))) ?_).1;exact H.rt ⟨by rw [hfin];first|rw [au (by omega)]|rw [ah (by omega)],rfl⟩
  intro h43
  try have p43:=dF h43
  refine aj 3 ?_;intro a H;refine RA _ H (wg H rfl rfl h43) rfl rfl rfl (by omega) (by omega) rfl ?_;clear H;intro a H;refine qj _ jl H (wg H rfl rfl h43) rfl rfl rfl (by first|assumption|omega) rfl ?_;clear H;refine iV 4 52 ?_ ?_
  ·intro Mj
   try have p52:=dT Mj
   refine aj 16 ?_;intro a H;refine dw ?_
   have hfin:kJ s i=(if n≤k then (p,k,true) else (0,k,false)):=by
    rw [hdec];have e:5 - k=(4 - k)+1:=by omega
    rw [e,qx]
    by_cases hk2:n≤k
    ·rw [au hk2,au hk2]
    rw [ah hk2,ah hk2,au (by first|omega|(rw [lS (by omega)];omega))]
   refine (gu H results202 (.cons (bG H rfl) (.cons (bG H rfl) (.cons (bG H rfl) .nil))) ?_).1;exact H.rt ⟨by rw [hfin];first|rw [au (by omega)]|rw [ah (by omega)],rfl⟩
  intro Mj
  try have p52:=dF Mj
  refine aj 3 ?_;intro a H;refine RA _ H (wg H rfl rfl Mj) rfl rfl rfl (by omega) (by omega) rfl ?_;clear H;intro a H;refine qj _ jl H (wg H rfl rfl Mj) rfl rfl rfl (by first|assumption|omega) rfl ?_;clear H;refine goB 4 ?_ ?_
  ·intro p60
   refine aj 6 ?_;intro a H;refine dw ?_
   have hfin:kJ s i=(if n≤k then (p,k,true) else (0,k,false)):=by
    rw [hdec];have e:5 - k=(4 - k)+1:=by omega
    rw [e,qx]
    by_cases hk2:n≤k
    ·rw [au hk2,au hk2]
    rw [ah hk2,ah hk2,au (by first|omega|(rw [lS (by omega)];omega))]
   refine (gu H results202 (.cons (bG H rfl) (.cons (bG H rfl) (.cons (bG H rfl) .nil))) ?_).1;exact H.rt ⟨by rw [hfin];first|rw [au (by omega)]|rw [ah (by omega)],rfl⟩
  intro p60
  refine aj 3 ?_;intro a H;refine atF _ H wn rfl rfl rfl (by decide) rfl ?_;clear H;refine aj 4 ?_;intro a H;refine qj _ jl H wn rfl rfl rfl (by first|assumption|omega) rfl ?_;clear H;intro a H;refine FI (gF s (i+k)) lZ Ky H wn rfl (by rw [lS (by omega)];exact X8 _) rfl ?_;clear H;intro a H;(iterate 2 refine RB rfl H wn rfl rfl rfl ?_;clear H;intro a H);refine aH 10 H ?_;clear H;intro a H;refine aI ?_;refine bR ((k+1,128,191,xS .or .i64 (IntKind.i64.wrap (p*2 ^ 6)) (xS .and .i64 (gF s (i+k)) 63))) sB ?_ ?_
  ·(try dsimp only);refine ⟨by omega,?_⟩
   have e:5 - k=(5 - (k+1))+1:=by omega
   rw [hdec,e,qx,ah (by omega),lS (by omega),ah (by omega)]
  first|omega|(dsimp only;omega)
 intro p34
 refine aj 8 ?_;intro a H;refine dw ?_
 have hfin:kJ s i=(if n≤k then (p,k,true) else (0,k,false)):=by
  rw [hdec];have e:5 - k=(4 - k)+1:=by omega
  rw [e,qx]
  by_cases hk2:n≤k
  ·rw [au hk2,au hk2]
  rw [ah hk2,ah hk2,au (by first|omega|(rw [lS (by omega)];omega))]
 refine (gu H results202 (.cons (bG H rfl) (.cons (bG H rfl) (.cons (bG H rfl) .nil))) ?_).1;exact H.rt ⟨by rw [hfin];first|rw [au (by omega)]|rw [ah (by omega)],rfl⟩
theorem Z8 (s:ByteArray) (at_ n:Nat):∀ (f k:Nat) (low high p:Int),n≤k+f→k≤n→k≤(qx s at_ n f k low high p).2.1∧(qx s at_ n f k low high p).2.1≤n∧((qx s at_ n f k low high p).2.2=true→at_+k≤s.size→at_+(qx s at_ n f k low high p).2.1≤s.size)
 | 0,k,low,high,p,h1,h2=>by simp only [qx];omega
 | f+1,k,low,high,p,h1,h2=>by
  unfold qx
  split
  ·simp only [];omega
  split
  ·simp only [];omega
  have ih:=Z8 s at_ n f (k+1) 128 191 (xS .or .i64 (IntKind.i64.wrap (p*2 ^ 6)) (xS .and .i64 (gF s (at_+k)) 63)) (by omega) (by omega);refine ⟨by have:=ih.1;omega,ih.2.1,fun h3 h4=>ih.2.2 h3 (by omega)⟩
theorem OJ (s:ByteArray) (i:Nat) (hi:i < s.size):(kJ s i).2.1≤4∧((kJ s i).2.2=true→1≤(kJ s i).2.1∧i+(kJ s i).2.1≤s.size):=by
 have ht:=XU (gF s i)
 unfold kJ
 simp only []
 split
 ·simp
 split
 ·simp;omega
 have:=Z8 s i (iX (gF s i)).2.2.toNat 4 1 (iX (gF s i)).1 (iX (gF s i)).2.1 (xS .and .i64 (gF s i) ((127:Int).fdiv (2 ^ (iX (gF s i)).2.2.toNat))) (by omega) (by omega);refine ⟨by omega,fun h=>⟨by omega,this.2.2 h (by omega)⟩⟩
def nT (s:ByteArray) (i:Nat):Int :=
 if h:i < s.size then (if h2:(kJ s i).2.2=true then nT s (i+(kJ s i).2.1) else i) else -1
 termination_by s.size - i
 decreasing_by have:=(OJ s i h).2 h2;omega
theorem amD (G:GH) (w0:World) (hG:Hold G w0) (s:ByteArray) (hs:s.size < 4611686018427387904) :
  Calls prog 157 #[.string s] w0 (bB w0 G fun v G'=>v=.int .i64 (nT s 0)∧G=G'):=by
 refine eN [(0,_)] func157 rfl ntmps157 rfl rfl hG ?_;refine aj 8 ?_;intro a H;refine dD (ι:=Nat) (Tc:=[(0,_)]) (Lc:=[]) (fun gh=>[(3,.int .i64 (gh:Int))]) (fun gh=>[]) (fun gh=>G) (fun gh=>gh≤s.size∧nT s 0=nT s gh) (fun gh=>s.size - gh) (0) sB ?_ ?_
 ·exact ⟨by omega,rfl⟩
 clear H;intro i a w hI H;obtain ⟨hk,hf⟩:=hI;dsimp only [lca,aQ] at H;refine cK 7 H ?_ ?_ <;> clear H
 ·intro kE
  refine aj 5 ?_;intro a H;refine s_call akt H wn rfl (aiM _ _ H.ro s i (by omega) hs) rfl ?_;clear H;rintro v14 _ a w ⟨rfl,rfl⟩ - H;have hd:=OJ s i (by omega);refine aH 1 H ?_;clear H;intro a H;(iterate 3 refine qK H wn rfl rfl rfl ?_;clear H;intro a H);refine fE 9 H ?_ ?_ <;> clear H
  ·intro h19
   try have uQ:=dT h19
   refine aJ 4 ?_;exact ⟨by rw [hf,nT,dif_pos (by omega),dif_neg (by simpa using h19)],rfl⟩
  intro h19
  try have uQ:=dF h19
  refine aj 6 ?_;intro a H;refine aI ?_;refine bR ((i+(kJ s i).2.1)) sB ?_ ?_
  ·have h1:(kJ s i).2.2=true:=by simpa using h19
   have h2:=hd.2 h1;refine ⟨by omega,?_⟩;rw [hf,nT,dif_pos (by omega),dif_pos h1]
  have h1:(kJ s i).2.2=true:=by simpa using h19
  have h2:=hd.2 h1
  omega
 intro kE
 refine aJ 4 ?_;exact ⟨by rw [hf,nT,dif_neg (by omega)],rfl⟩
def mX (s:ByteArray):Bool:=decide (nT s 0 < 0)
theorem FU (G:GH) (w0:World) (hG:Hold G w0) (s:ByteArray) (hs:s.size < 4611686018427387904) :
  Calls prog 94 #[.string s] w0 (bB w0 G fun v G'=>v=.bool (mX s)∧G=G'):=by
 refine eN [(0,_)] func94 rfl ntmps94 rfl rfl hG ?_;refine aj 5 ?_;intro a H;refine s_call ajL H wn rfl (amD _ _ H.ro s hs) rfl ?_;clear H;rintro v4 _ a w ⟨rfl,rfl⟩ - H;refine gK 3 H ?_;exact ⟨rfl,rfl⟩
def mQ (s:ByteArray) (i:Nat):Nat :=
 if i < s.size then (if xS .and .u8 (gF s i) 192=128 then 0 else 1)+mQ s (i+1) else 0
 termination_by s.size - i
theorem ZV (s:ByteArray):∀ (n i:Nat),s.size - i=n→mQ s i≤n
 | 0,i,h=>by rw [mQ,ah (by omega)];exact bX _
 | n+1,i,h=>by
  have ih:=ZV s n (i+1) (by omega);rw [mQ,au (by omega)]
  split <;> omega
def qP (s:ByteArray):Nat:=if mX s then mQ s 0 else 0
def IW (s:ByteArray):Int:=if mX s then 0 else 12
theorem GQ (s:ByteArray):qP s≤s.size:=by unfold qP;have:=ZV s s.size 0 (by omega);split <;> omega
theorem OE (G:GH) (w0:World) (hG:Hold G w0) (s:ByteArray) (hs:s.size < 4611686018427387904) :
  Calls prog 53 #[.string s] w0 (bB w0 G fun v G'=>v=.tuple #[vi (qP s),vi (IW s)]∧G=G'):=by
 refine eN [(0,_)] func53 rfl ntmps53 rfl rfl hG ?_;refine aj 7 ?_;intro a H;refine s_call ER H wn rfl (FU _ _ H.ro s hs) rfl ?_;clear H;rintro v6 _ a w ⟨rfl,rfl⟩ - H;refine fE 2 H ?_ ?_ <;> clear H
 ·intro h7
  refine aj 4 ?_;intro a H;refine dw ?_;refine (gu H results53 (.cons (bG H rfl) (.cons (bG H rfl) .nil)) ?_).1;exact H.rt ⟨by simp [qP,IW,show mX s=false by simpa using h7],rfl⟩
 intro h7
 try have p7:=dF h7
 refine aj 8 ?_;intro a H;refine dD (ι:=Nat × Nat) (Tc:=[(0,_),(9,_)]) (Lc:=[]) (fun gh=>[(2,vi gh.2),(10,vi gh.1)]) (fun gh=>[]) (fun gh=>G) (fun gh=>gh.1≤s.size∧gh.2≤gh.1∧gh.2+mQ s gh.1=qP s) (fun gh=>s.size - gh.1) ((0,0)) sB ?_ ?_
 ·exact ⟨by omega,by omega,by simp [qP,show mX s=true by simpa using h7]⟩
 clear H;rintro ⟨i,n⟩ a w hI H;dsimp only at hI H;obtain ⟨hk,hn,hf⟩:=hI;dsimp only [lca,aQ] at H;refine cK 4 H ?_ ?_ <;> clear H
 ·intro qg
  refine aj 10 ?_;intro a H;refine qj _ jl H wn rfl rfl rfl (by first|assumption|omega) rfl ?_;clear H;intro a H;refine RB rfl H wn rfl rfl rfl ?_;clear H;refine goB 2 ?_ ?_
  ·intro kF
   refine aj 8 ?_;intro a H;refine aI ?_;refine bR ((i+1,n+1)) sB ?_ ?_
   ·(try dsimp only);rw [← lS (by omega)] at kF;rw [mQ,au (by omega),ah kF] at hf;exact ⟨by omega,by omega,by omega⟩
   first|omega|(dsimp only;omega)
  intro kF
  refine aj 4 ?_;intro a H;refine aI ?_;refine bR ((i+1,n)) sB ?_ ?_
  ·(try dsimp only);rw [← lS (by omega),fD] at kF;rw [mQ,au (by omega),au kF] at hf;exact ⟨by omega,by omega,by omega⟩
  first|omega|(dsimp only;omega)
 intro qg
 refine aj 6 ?_;intro a H;refine dw ?_;refine (gu H results53 (.cons (bG H rfl) (.cons (bG H rfl) .nil)) ?_).1;exact H.rt ⟨by rw [mQ,ah (by omega),mO] at hf;rw [hf];simp [IW,show mX s=true by simpa using h7],rfl⟩
end
section
abbrev aK (b o : Nat) : Value := .pointer (some ⟨b, o, none⟩)
end
end Go.Proofs.YthmanofbmnfemaaGreat
