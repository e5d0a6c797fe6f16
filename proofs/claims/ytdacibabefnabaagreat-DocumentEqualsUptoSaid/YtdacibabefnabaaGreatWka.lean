/-
  What the claim stands on, part 1: Lg Op Oq Cb Rep Dr Sq Row Hv Dy Bd Ut Cp Prk Eq.
-/
import Derived.CallsIn
import Derived.TacticsIn
import Derived.RangeFuncIn
import Derived.RangeFuncLeaves
import Derived.RangeFuncRecord
import Derived.Below
import Derived.KernelRfl
import Derived.Maps.AppendAt
import Derived.IntWalk
import Derived.OrdersIn
import Derived.Lib.Builder
import Derived.Lib.UnsafeStr
import Derived.Lib.AppendStr
import Derived.Laws.Externs
import Derived.Lib.OthersKept
import Derived.Laws.IdiomStrings
import Derived.Laws.Cover4
import Derived.Laws.Slices
import Derived.Laws.Strings2
import Derived.Test.YtdacibabefnabaaGreatRows
import Derived.Laws.StructEq
import Derived.ChangeKeysEq
namespace Go.Proofs.YtdacibabefnabaaGreat
open Go.Proofs.Tryz
section
theorem ah.{u}:∀ {c:Prop} {h:Decidable c},¬c→∀ {α:Sort u} {t e:α},(if c then t else e)=e:=@if_neg
theorem aC:True:=trivial
theorem av.{u}:∀ {c:Prop} {h:Decidable c},c→∀ {α:Sort u} {t e:α},(if c then t else e)=t:=@if_pos
theorem aB.{u,v}:∀ {α:Sort u} {β:Sort v} {a₁ a₂:α} (f:α→β),a₁=a₂→f a₁=f a₂:=@congrArg
theorem aY.{u}:∀ {α:Sort u} {a b c:α},a=b→b=c→a=c:=@Eq.trans
theorem bV.{u_1,u_2}:∀ {α:Type u_1} {β:Type u_2} {xs:List α} (f:α→β),List.length (List.map f xs)=List.length xs:=@List.length_map
theorem cO.{u_1}:∀ {α:Type u_1} (l:List α),List.Sublist l l:=@List.Sublist.refl
theorem dJ:∀ (n:Nat),n≤n:=@Nat.le_refl
theorem eT:∀ {α β:Type} (P:Go.Program) (w:Go.World) (x:Go.Sem α) (f:α→Go.Sem β),   Go.Sem.run P (x >>= f) w=Go.Result.andThen (Go.Sem.run P x w) fun a w'=>Go.Sem.run P (f a) w':=@Go.Sem.run_bind
theorem fT.{u_1}:∀ {α:Type u_1} {l:List α} {i:Nat} (h:i < List.length l),l[i]?=some l[i]:=@List.getElem?_eq_getElem
theorem fZ:∀ {p:Prop} [inst:Decidable p],¬p→decide p=false:=@decide_eq_false
theorem gH:∀ {p:Prop} [Decidable p],¬¬p↔p:=@Decidable.not_not
theorem gW:∀ {p:Prop} [inst:Decidable p],p→decide p=true:=@decide_eq_true
theorem iq.{u,v}:∀ {α:Type u} {β:Type v} {f:α→β} {a:α} {l:List α},List.map f (a :: l)=f a :: List.map f l:=@List.map_cons
theorem iw.{u_1}:∀ {α:Type u_1} {i:Nat} {l:List α},List.length l≤i→List.drop i l=[]:=@List.drop_of_length_le
theorem iF:∀ (n:Nat),0≤n:=@Nat.zero_le
theorem iG.{u_1}:∀ {α:Type u_1} {i:Nat} {l:List α} (h:i < List.length l),List.take (i+1) l=List.take i l++[l[i]]:=@List.take_succ_eq_append_getElem
theorem iH.{u_1}:∀ {α:Type u_1} {i:Nat} {l:List α},List.length l≤i→List.take i l=l:=@List.take_of_length_le
theorem jh.{u,v}:∀ {α:Type u} {β:Type v} (fst:α) (snd:β) (Yj:α) (abe:β),   ((fst,snd)=(Yj,abe))=(fst=Yj∧snd=abe):=@Prod.mk.injEq
theorem jW.{u_1}:∀ {α:Type u_1} {l:List α} {n:Nat} (h:n < List.length l),l[n]∈l:=@List.getElem_mem
theorem lD:∀ (n:Nat),0+n=n:=@Nat.zero_add
theorem lW.{u_1}:∀ {α:Type u_1} {a:α} {l:List α},a∈a :: l:=@List.mem_cons_self
theorem mq.{u_1}:∀ {α:Type u_1} {i:Nat} {a:α} {l:List α},l[i]?=some a↔∃ h,l[i]=a:=@List.getElem?_eq_some_iff
theorem mD:(false=true)=False:=@Bool.false_eq_true
theorem mE:∀ {a b:Bool},a=b↔(a=true↔b=true):=@Bool.eq_iff_iff
theorem mQ.{u}:∀ {α:Type u} {l:List α},List.drop 0 l=l:=@List.drop_zero
theorem nC:∀ {α β:Type} (a:α) (w:Go.World) (f:α→Go.World→Go.Result β),Go.Result.andThen (Go.Result.ok a w) f=f a w:=@Go.Result.andThen_ok
theorem nD.{u_1}:∀ {α:Type u_1} {i:Nat} {l:List α} (h:i < List.length l),List.drop i l=l[i] :: List.drop (i+1) l:=@List.drop_eq_getElem_cons
theorem nE.{u_1}:∀ {α:Type u_1} (y:α) {a:α} {l:List α},a∈l→a∈y :: l:=@List.mem_cons_of_mem
theorem nM.{u}:∀ {α:Type u} (val abO:α),(some val=some abO)=(val=abO):=@Option.some.injEq
theorem nN.{u}:∀ {α:Type u} (xs bs cs:List α),xs++bs++cs=xs++(bs++cs):=@List.append_assoc
theorem nY:∀ (n:Nat),n+0=n:=@Nat.add_zero
theorem nZ.{u}:∀ {α:Type u} {a:α} {l:List α} {i:Nat},List.drop (i+1) (a :: l)=List.drop i l:=@List.drop_succ_cons
theorem oD.{u_1}:∀ {α:Type u_1} {l:List α} {i:Nat} {a:α},l[i]?=some a→a∈l:=@List.mem_of_getElem?
theorem oF:∀ (a b:Bool),((a && b)=true)=(a=true∧b=true):=@Bool.and_eq_true
theorem oG.{u}:∀ {α:Type u} {a:α} {xs bs:List α},a :: xs++bs=a :: (xs++bs):=@List.cons_append
theorem oH.{u}:∀ {α:Type u} (xs:List α),[]++xs=xs:=@List.nil_append
theorem oU.{u_1}:∀ {α:Type u_1} {p:α→Bool} {l:List α},List.all l p=true↔∀ (x:α),x∈l→p x=true:=@List.all_eq_true
theorem ql.{u_1,u_2}:∀ {α:Type u_1} {b:α} {acr:Type u_2} {x:Option acr} {f:acr→α},   Option.map f x=some b↔∃ a,x=some a∧f a=b:=@Option.map_eq_some_iff
theorem qH.{u}:∀ {α:Type u} {a:α} {xs:List α},List.length (a :: xs)=List.length xs+1:=@List.length_cons
theorem qI:∀ {p:Prop} [inst:Decidable p],(decide p=true)=p:=@decide_eq_true_eq
theorem tu.{u_1,u_2}:∀ {α:Type u_1} {β:Type u_2} {f:α→β} {l:List α} {i:Nat},(List.map f l)[i]?=Option.map f l[i]?:=@List.getElem?_map
theorem tC:∀ {p:Prop} [inst:Decidable p],decide p=true→p:=@of_decide_eq_true
theorem uo.{u_1}:∀ {α:Type u_1} {b:α} {l:List α} {a:α},a∈b :: l↔a=b∨a∈l:=@List.mem_cons
theorem uq:∀ {α:Type} (P:Go.Program) (w:Go.World) (a:α),Go.Sem.run P (pure a) w=Go.Result.ok a w:=@Go.Sem.run_pure
theorem uw:∀ (b:Bool),(false && b)=false:=@Bool.false_and
theorem uy:∀ (b:Bool),((!b)=true)=(b=false):=@Bool.not_eq_true'
theorem vg:∀ (b:Bool),(true && b)=b:=@Bool.true_and
theorem vk:∀ {p:Prop} {x:Decidable p},decide p=false↔¬p:=@decide_eq_false_iff_not
theorem vv.{u_1}:∀ {α:Type u_1} {l₁ l₂:List α},List.Perm (l₁++l₂) (l₂++l₁):=@List.perm_append_comm
theorem wD:∀ {m n:Nat},m∈List.range n↔m < n:=@List.mem_range
theorem wE.{u}:∀ {α:Type u} {xs bs:List α},List.length (xs++bs)=List.length xs+List.length bs:=@List.length_append
theorem xI.{u_1}:∀ {α:Type u_1} {a b:α},a∈[b]↔a=b:=@List.mem_singleton
theorem yS.{u_1}:∀ {α:Type u_1} {xs:Array α},List.length xs.toList=Array.size xs:=@Array.length_toList
theorem yT.{u,v}:∀ {α:Type u} {β:Type v} {f:α→β},List.map f []=[]:=@List.map_nil
theorem Ae.{u}:∀ {α:Type u} {R:α→α→Prop} {a:α} {l:List α},   List.Pairwise R (a :: l)↔(∀ (a':α),a'∈l→R a a')∧List.Pairwise R l:=@List.pairwise_cons
theorem Af.{u_1}:∀ {α:Type u_1} {l:List α} {i j:Nat},(List.take i l)[j]?=if j < i then l[j]? else none:=@List.getElem?_take
theorem Ag.{u_1}:∀ {α:Type u_1} {l₁ l₂:List α} {i:Nat},List.length l₁≤i→(l₁++l₂)[i]?=l₂[i - List.length l₁]?:=@List.getElem?_append_right
theorem Ah.{u}:∀ {α:Type u} (xs:List α),xs++[]=xs:=@List.append_nil
theorem AZ.{u_1}:∀ {α:Type u_1} {a:α} {s t:List α},a∈s++t↔a∈s∨a∈t:=@List.mem_append
theorem A9.{u_1}:∀ {α:Type u_1} [inst:BEq α] [LawfulBEq α] {a:α} {xs:List α},List.contains xs a=true↔a∈xs:=@List.contains_iff_mem
theorem Cn.{u_1}:∀ {α:Type u_1} {a:α} {l:List α},(a :: l)[0]?=some a:=@List.getElem?_cons_zero
theorem Co.{u_1}:∀ {α:Type u_1} (a:α) (l:List α),List.Sublist l (a :: l):=@List.sublist_cons_self
theorem Dy.{u_1}:∀ {α:Type u_1} {l₁ l₂:List α} {i:Nat},i < List.length l₁→(l₁++l₂)[i]?=l₁[i]?:=@List.getElem?_append_left
theorem EN:∀ {n m:Nat},Nat.beq n m=true→n=m:=@Nat.eq_of_beq_eq_true
theorem QF:∀ (n m:Nat),n+m - n=m:=@Nat.add_sub_cancel_left
abbrev ak := Value
theorem aL {a b:Bool} (h:a=b):Value.bool a=Value.bool b:=congrArg _ h
end
section
open Go.RowKit
def FW (r:Option Nat):Fence:={ Fence.wide with round:=r }
theorem Nf (r:Option Nat):(FW r).depth.isSome=true→1≤(0:Nat):=by intro h;cases h
abbrev WP (r:Option Nat) (P:Program) (c:Code) (Q:Exit→Act→World→Prop) (a:Act) (w:World):Prop:=c.wpIn (FW r) 0 P Q a w
abbrev WL (r:Option Nat) (P:Program) (ops:Array Oper) (Q:Exit→Act→World→Prop) (l:List Oper) (a:Act) (w:World):Prop:=wpListIn (FW r) 0 P ops Q l a w
theorem QK {r:Option Nat} {n:Nat} {P:Program} {f:FuncId} {args:Array ak} {w:World} {R:Ending→World→Prop} (h:Calls P f args w R):CallsIn (FW r) n P f args w R:=callsIn_wide.2 h
theorem acW {r:Option Nat} {n:Nat} {P:Program} {f:FuncId} {args:Array ak} {w:World} {R:Ending→World→Prop} (h:CallsIn (FW r) n P f args w R):Calls P f args w R:=callsIn_wide.1 h
def lk:List (Nat × ak)→Nat→Option ak
 | [],_=>none
 | (s,v) :: r,t=>bif Nat.beq s t then some v else lk r t
theorem yB (t:Nat) (v:ak) (T:List (Nat × ak)):lk ((t,v) :: T) t=some v:=by simp [lk]
theorem wZ {s t:Nat} (h:s≠t) (v:ak) (T:List (Nat × ak)):lk ((s,v) :: T) t=lk T t:=by
 have:Nat.beq s t=false:=by
  cases h':Nat.beq s t with
  | false=>rfl
  | true=>exact absurd (EN h') h
 simp [lk,this]
def ev (T:List (Nat × ak)):Operand→Option ak
 | .tmp t=>lk T t
 | .const v=>some v
 | .global g=>some (.pointer (some ⟨g,0,none⟩))
 | .func f=>some (.func (.func f) #[] #[])
def evs (T:List (Nat × ak)):List Operand→Option (List ak)
 | []=>some []
 | x :: r=>match ev T x,evs T r with|some v,some vs=>some (v :: vs)|_,_=>none
abbrev GH:=Nat→Option Obj
structure Hp (w0:World) (F:Nat→Prop) (G0 G:GH) (L:List (Nat × Obj)) (w:World):Prop where
 os:w.os=w0.os
 tape:w.tape=w0.tape
 output:w.output=w0.output
 size:w0.heap.size≤w.heap.size
 wO:∀ k,F k→k < w0.heap.size
 fr:∀ k,F k→w.heap[k]?=w0.heap[k]?
 ro:∀ k o,G k=some o→w.heap[k]?=some o
 gm:∀ k o,G0 k=some o→G k=some o
 gx:∀ k o,G k=some o→G0 k=some o∨¬ F k
 own:∀ p∈L,w.heap[p.1]?=some p.2
 tY:∀ p∈L,G p.1=none
 uV:∀ p∈L,¬ F p.1
 nd:L.Pairwise fun p q=>p.1≠q.1
structure St (N:Nat) (D:List Deferred) (w0:World) (F:Nat→Prop) (G0 G:GH) (L:List (Nat × Obj)) (T:List (Nat × ak)) (a:Act) (w:World):Prop where
 og:a.tmps.size=N
 get:∀ t v,lk T t=some v→a.tmps[t]?=some v
 uH:a.defers=D
 hp:Hp w0 F G0 G L w
theorem lt_of_heap {w:World} {k:Nat} {o:Obj} (h:w.heap[k]?=some o):k < w.heap.size:=(Array.getElem?_eq_some_iff.1 h).1
structure xH (b:Nat) (o:Obj) (w w':World):Prop where
 os:w'.os=w.os
 tape:w'.tape=w.tape
 output:w'.output=w.output
 size:w'.heap.size=w.heap.size
 this:w'.heap[b]?=some o
 others:∀ k,k≠b→w'.heap[k]?=w.heap[k]?
section
variable {N:Nat} {D:List Deferred} {w0 w w':World} {F:Nat→Prop} {G0 G G':GH} {L L':List (Nat × Obj)} {T:List (Nat × ak)} {a:Act} {b:Nat} {o o':Obj}
theorem Hp.lt (h:Hp w0 F G0 G L w) {p:Nat × Obj} (hp:p∈L):p.1 < w.heap.size:=lt_of_heap (h.own p hp)
theorem Hp.alloc (h:Hp w0 F G0 G L w) (o:Obj):Hp w0 F G0 G ((w.heap.size,o) :: L) (w.alloc o):=by
 have hold:∀ k,k < w.heap.size→(w.alloc o).heap[k]?=w.heap[k]?:=fun k hk=>Below.heap_alloc w o k hk
 refine ⟨h.os,h.tape,h.output,by simp;exact Nat.le_succ_of_le h.size,h.wO,fun k hk=>(hold k (Nat.lt_of_lt_of_le (h.wO k hk) h.size)).trans (h.fr k hk),fun k o' hk=>(hold k (lt_of_heap (h.ro k o' hk))).trans (h.ro k o' hk),h.gm,h.gx,?_,?_,?_,?_⟩
 ·intro p hp
  rcases uo.1 hp with rfl|hp
  ·show (w.heap.push o)[w.heap.size]?=some o;simp
  ·exact (hold _ (h.lt hp)).trans (h.own p hp)
 ·intro p hp
  rcases uo.1 hp with rfl|hp
  ·cases hg:G w.heap.size with
   | none=>rfl
   | some o'=>exact absurd (lt_of_heap (h.ro _ _ hg)) (Nat.lt_irrefl _)
  ·exact h.tY p hp
 ·intro p hp
  rcases uo.1 hp with rfl|hp
  ·intro hf;exact absurd (Nat.lt_of_lt_of_le (h.wO _ hf) h.size) (Nat.lt_irrefl _)
  ·exact h.uV p hp
 ·refine Ae.2 ⟨fun q hq=>?_,h.nd⟩
  have:=h.lt hq
  simp only;omega
theorem Hp.below (h:Hp w0 F G0 G L w) (hb:Below w.heap.size w w'):Hp w0 F G0 G L w':=by
 refine ⟨hb.os.trans h.os,hb.tape.trans h.tape,hb.output.trans h.output,Nat.le_trans h.size hb.size,h.wO,fun k hk=>(hb.block k (Nat.lt_of_lt_of_le (h.wO k hk) h.size)).trans (h.fr k hk),fun k o hk=>(hb.block k (lt_of_heap (h.ro k o hk))).trans (h.ro k o hk),h.gm,h.gx,fun p hp=>(hb.block _ (h.lt hp)).trans (h.own p hp),h.tY,h.uV,h.nd⟩
def Ext (n1:Nat) (G G':GH) (w':World):Prop:=(∀ k o,G k=some o→G' k=some o)∧(∀ k o,G' k=some o→G k=some o∨n1≤k)∧(∀ k o,G' k=some o→w'.heap[k]?=some o)
theorem Hp.WO (h:Hp w0 F G0 G L w) (hb:Below w.heap.size w w') (hx:Ext w.heap.size G G' w'):Hp w0 F G0 G' L w':=by
 have h':=h.below hb
 refine ⟨h'.os,h'.tape,h'.output,h'.size,h'.wO,h'.fr,hx.2.2,fun k o hk=>hx.1 k o (h.gm k o hk),fun k o hk=>?_,h'.own,fun p hp=>?_,h'.uV,h'.nd⟩
 ·rcases hx.2.1 k o hk with hk|hk
  ·exact h.gx k o hk
  ·exact .inr fun hf=>absurd (Nat.lt_of_lt_of_le (h.wO k hf) h.size) (by omega)
 ·cases hg:G' p.1 with
  | none=>rfl
  | some o =>
   rcases hx.2.1 _ _ hg with hk|hk
   ·rw [h.tY p hp] at hk;cases hk
   ·exact absurd (h.lt hp) (by omega)
theorem U0:∀ {L:List (Nat × Obj)} {i b:Nat} {o o':Obj},L.Pairwise (fun p q=>p.1≠q.1)→L[i]?=some (b,o)→(L.set i (b,o')).Pairwise fun p q=>p.1≠q.1
 | [],_,_,_,_,h,_=>h
 | p :: L,0,b,o,o',h,hi=>by
  simp only [Cn,nM] at hi
  subst hi
  exact Ae.2 ⟨(Ae.1 h).1,(Ae.1 h).2⟩
 | p :: L,i+1,b,o,o',h,hi=>by
  simp only [List.getElem?_cons_succ] at hi
  refine Ae.2 ⟨fun q hq=>?_,U0 (Ae.1 h).2 hi⟩
  rcases List.mem_or_eq_of_mem_set hq with hq|rfl
  ·exact (Ae.1 h).1 q hq
  ·exact (Ae.1 h).1 (b,o) (oD hi)
theorem UA:∀ {L:List (Nat × Obj)} {i:Nat} {p q:Nat × Obj},L.Pairwise (fun p q=>p.1≠q.1)→L[i]?=some p→q∈L→q.1=p.1→q=p
 | [],_,_,_,_,h,_,_=>by simp at h
 | x :: L,0,p,q,h,hi,hq,e=>by
  simp only [Cn,nM] at hi
  subst hi
  rcases uo.1 hq with rfl|hq
  ·rfl
  ·exact absurd e.symm ((Ae.1 h).1 q hq)
 | x :: L,i+1,p,q,h,hi,hq,e=>by
  simp only [List.getElem?_cons_succ] at hi
  rcases uo.1 hq with rfl|hq
  ·exact absurd e ((Ae.1 h).1 p (oD hi))
  ·exact UA (Ae.1 h).2 hi hq e
theorem Hp.upd (h:Hp w0 F G0 G L w) {i:Nat} (hi:L[i]?=some (b,o)) (hu:xH b o' w w'):Hp w0 F G0 G (L.set i (b,o')) w':=by
 have hm:(b,o)∈L:=oD hi
 refine ⟨hu.os.trans h.os,hu.tape.trans h.tape,hu.output.trans h.output,hu.size ▸ h.size,h.wO,fun k hk=>?_,fun k o hk=>?_,h.gm,h.gx,fun p hp=>?_,fun p hp=>?_,fun p hp=>?_,U0 h.nd hi⟩
 ·exact (hu.others k (fun e=>h.uV _ hm (e ▸ hk))).trans (h.fr k hk)
 ·refine (hu.others k (fun e=>?_)).trans (h.ro k o hk)
  have:=h.tY _ hm
  rw [← e,hk] at this;cases this
 ·by_cases e:p.1=b
  ·rcases List.mem_or_eq_of_mem_set hp with hp'|rfl
   ·obtain ⟨j,hj⟩:=List.getElem?_of_mem hp
    have hib:i < L.length:=(mq.1 hi).1
    have hset:(L.set i (b,o'))[i]?=some (b,o'):=by simp [hib]
    have:=UA (U0 (o':=o') h.nd hi) hset hp e
    rw [this];exact hu.this
   ·exact hu.this
  ·rcases List.mem_or_eq_of_mem_set hp with hp|rfl
   ·exact (hu.others _ e).trans (h.own p hp)
   ·exact absurd rfl e
 ·rcases List.mem_or_eq_of_mem_set hp with hp|rfl
  ·exact h.tY p hp
  ·exact (h.tY (b,o) hm:G b=none)
 ·rcases List.mem_or_eq_of_mem_set hp with hp|rfl
  ·exact h.uV p hp
  ·exact (h.uV (b,o) hm:¬ F b)
theorem Hp.drew (h:Hp w0 F G0 G L w):Hp w0 F G0 G L w.drew:=⟨h.os,h.tape,h.output,h.size,h.wO,h.fr,h.ro,h.gm,h.gx,h.own,h.tY,h.uV,h.nd⟩
theorem Hp.drop (h:Hp w0 F G0 G L w) (hs:L'.Sublist L):Hp w0 F G0 G L' w:=⟨h.os,h.tape,h.output,h.size,h.wO,h.fr,h.ro,h.gm,h.gx,fun p hp=>h.own p (hs.subset hp),fun p hp=>h.tY p (hs.subset hp),fun p hp=>h.uV p (hs.subset hp),h.nd.sublist hs⟩
theorem Hp.dS {Pl dL Lo:List (Nat × Obj)} (h:Hp w0 F G0 G (Pl++Lo) w) (idx:List Nat) (hi:idx.Nodup) (hL:idx.map (fun i=>Pl[i]?)=dL.map some):Hp w0 F G0 G (dL++Lo) w:=by
 have hget:∀ (j:Nat) (p:Nat × Obj),dL[j]?=some p→∃ i:Nat,idx[j]?=some i∧Pl[i]?=some p:=by
  intro j p hp
  have h1:(idx.map (fun i=>Pl[i]?))[j]?=some (some p):=by rw [hL];simp [hp]
  rw [tu] at h1
  obtain ⟨i,hi1,hi2⟩:=ql.1 h1
  exact ⟨i,hi1,hi2⟩
 have hmem:∀ p∈dL++Lo,p∈Pl++Lo:=by
  intro p hp
  rcases AZ.1 hp with hp|hp
  ·obtain ⟨j,hj⟩:=List.getElem?_of_mem hp
   obtain ⟨i,_,hi2⟩:=hget j p hj
   exact List.mem_append_left _ (oD hi2)
  ·exact List.mem_append_right _ hp
 have hnd:=List.pairwise_append.1 h.nd
 refine ⟨h.os,h.tape,h.output,h.size,h.wO,h.fr,h.ro,h.gm,h.gx,fun p hp=>h.own p (hmem p hp),fun p hp=>h.tY p (hmem p hp),fun p hp=>h.uV p (hmem p hp),List.pairwise_append.2 ⟨?_,hnd.2.1,fun p hp q hq=>?_⟩⟩
 ·refine List.pairwise_iff_getElem.2 fun x y hx hy hxy=>?_
  obtain ⟨i,hi1,hi2⟩:=hget x _ (fT hx)
  obtain ⟨j,hj1,hj2⟩:=hget y _ (fT hy)
  have hij:i≠j:=by
   intro e
   subst e
   obtain ⟨hx1,hx2⟩:=mq.1 hi1
   obtain ⟨hy1,hy2⟩:=mq.1 hj1
   exact (List.pairwise_iff_getElem.1 hi x y hx1 hy1 hxy) (by rw [hx2,hy2])
  obtain ⟨hi3,hi4⟩:=mq.1 hi2
  obtain ⟨hj3,Y3⟩:=mq.1 hj2
  rcases Nat.lt_or_ge i j with hlt|hge
  ·rw [← hi4,← Y3];exact List.pairwise_iff_getElem.1 hnd.1 i j hi3 hj3 hlt
  ·rw [← hi4,← Y3];exact Ne.symm (List.pairwise_iff_getElem.1 hnd.1 j i hj3 hi3 (by omega))
 ·obtain ⟨j,hj⟩:=List.getElem?_of_mem hp
  obtain ⟨i,_,hi2⟩:=hget j p hj
  exact hnd.2.2 p (oD hi2) q hq
def GH.add (G:GH) (b:Nat) (o:Obj):GH:=fun k=>if k=b then some o else G k
theorem GH.GD (G:GH) {b:Nat} {o:Obj} (hn:G b=none) (k:Nat) (o':Obj) (h:G k=some o'):(G.add b o) k=some o':=by
 unfold GH.add;rw [ah (fun e=>by subst e;rw [hn] at h;cases h)];exact h
theorem GH.I6 (G:GH) (b:Nat) (o:Obj):(G.add b o) b=some o:=by simp [GH.add]
theorem Hp.giveUp (h:Hp w0 F G0 G L w) (i:Nat) (hi:L[i]?=some (b,o)):Hp w0 F G0 (G.add b o) (L.eraseIdx i) w:=by
 have hm:(b,o)∈L:=oD hi
 have hsub:(L.eraseIdx i).Sublist L:=List.eraseIdx_sublist L i
 have hne:∀ p∈L.eraseIdx i,p.1≠b:=by
  intro p hp e
  have h1:=UA h.nd hi (hsub.subset hp) e
  subst h1
  obtain ⟨j,hj,hjp⟩:=List.mem_eraseIdx_iff_getElem?.1 hp
  have hnd:=h.nd
  have hij:j≠i:=hj
  have hlt1:j < L.length:=(mq.1 hjp).1
  have hlt2:i < L.length:=(mq.1 hi).1
  have e1:=(mq.1 hjp).2
  have e2:=(mq.1 hi).2
  rcases Nat.lt_or_ge j i with hlt|hge
  ·exact (List.pairwise_iff_getElem.1 hnd j i hlt1 hlt2 hlt) (by rw [e1,e2])
  ·exact (List.pairwise_iff_getElem.1 hnd i j hlt2 hlt1 (by omega)) (by rw [e1,e2])
 refine ⟨h.os,h.tape,h.output,h.size,h.wO,h.fr,fun k o' hk=>?_,fun k o' hk=>GH.GD G (h.tY _ hm) k o' (h.gm k o' hk),fun k o' hk=>?_,fun p hp=>h.own p (hsub.subset hp),fun p hp=>?_,fun p hp=>h.uV p (hsub.subset hp),h.nd.sublist hsub⟩
 ·unfold GH.add at hk
  split at hk
  ·rename_i e;subst e;cases hk;exact h.own _ hm
  ·exact h.ro k o' hk
 ·unfold GH.add at hk
  split at hk
  ·rename_i e;subst e;exact .inr (h.uV _ hm)
  ·exact h.gx k o' hk
 ·unfold GH.add
  rw [ah (hne p hp)]
  exact h.tY p (hsub.subset hp)
theorem St.ev (h:St N D w0 F G0 G L T a w) {x:Operand} {v:ak} (hx:Proofs.YtdacibabefnabaaGreat.ev T x=some v):a.eval x=v:=by
 cases x with
 | tmp t =>
  have:=h.get t v hx
  simp only [Act.eval,Array.getD_eq_getD_getElem?,this,Option.getD_some]
 | const u=>simp only [Proofs.YtdacibabefnabaaGreat.ev,nM] at hx;subst hx;rfl
 | global g=>simpa [Proofs.YtdacibabefnabaaGreat.ev,Act.eval] using hx
 | func f=>simpa [Proofs.YtdacibabefnabaaGreat.ev,Act.eval] using hx
theorem St.evs (h:St N D w0 F G0 G L T a w):∀ {xs:List Operand} {vs:List ak},Proofs.YtdacibabefnabaaGreat.evs T xs=some vs→xs.map a.eval=vs
 | [],vs,hx=>by simp [Proofs.YtdacibabefnabaaGreat.evs] at hx;subst hx;rfl
 | x :: xs,vs,hx=>by
  unfold Proofs.YtdacibabefnabaaGreat.evs at hx
  split at hx
  ·rename_i v vs' h1 h2
   simp only [nM] at hx
   subst hx
   rw [iq,h.ev h1,h.evs h2]
  ·cases hx
theorem St.put (h:St N D w0 F G0 G L T a w) {d:Nat} (hd:Nat.blt d N=true) (v:ak) (H':Hp w0 F G0 G' L' w'):St N D w0 F G0 G' L' ((d,v) :: T) (a.put (some d) v) w':=by
 have hlt:d < a.tmps.size:=by rw [h.og];exact Eq.mp Nat.blt_eq hd
 refine ⟨by simp [Act.put,h.og],fun t u ht=>?_,h.uH,H'⟩
 simp only [Act.put,Array.getElem?_setIfInBounds]
 by_cases e:d=t
 ·subst e
  rw [yB] at ht
  simp [hlt];simpa using ht
 ·rw [wZ e] at ht
  simp [e];exact h.get t u ht
theorem St.move (h:St N D w0 F G0 G L T a w) (H':Hp w0 F G0 G' L' w'):St N D w0 F G0 G' L' T a w':=⟨h.og,h.get,h.uH,H'⟩
def Vm (T:List (Nat × ak)):List (Nat × ak)→Prop
 | []=>True
 | (t,v) :: r=>lk T t=some v∧Vm T r
theorem abq {T:List (Nat × ak)}:∀ {T':List (Nat × ak)},Vm T T'→∀ {t v},lk T' t=some v→lk T t=some v
 | [],_,_,_,h=>by simp [lk] at h
 | (s,u) :: r,hs,t,v,h=>by
  by_cases e:s=t
  ·subst e;rw [yB] at h;exact h ▸ hs.1
  ·rw [wZ e] at h;exact abq hs.2 h
theorem St.sub (h:St N D w0 F G0 G L T a w) {T':List (Nat × ak)} (hs:Vm T T'):St N D w0 F G0 G L T' a w:=⟨h.og,fun t v ht=>h.get t v (abq hs ht),h.uH,h.hp⟩
theorem St.dS {Pl dL Lo:List (Nat × Obj)} (h:St N D w0 F G0 G (Pl++Lo) T a w) (idx:List Nat) (hi:idx.Nodup) (hL:idx.map (fun i=>Pl[i]?)=dL.map some):St N D w0 F G0 G (dL++Lo) T a w:=⟨h.og,h.get,h.uH,h.hp.dS idx hi hL⟩
end
end
section
open Go.RowKit
section base
variable {r:Option Nat} {P:Program} {ops:Array Oper} {Q:Exit→Act→World→Prop} {rest:List Oper} {a:Act} {w w':World} {o:Oper}
def Pw:Op→Bool
 | .defer _=>false
 | _=>true
theorem Ve {o:Oper} {ro:Option Nat} {ρ:Operand→ak} (h:Pw o.op=true):o.semAt ro ρ=execOp ρ o :=
 Oper.semAt_eq ro ρ o fun c e=>by rw [e] at h;cases h
theorem aH (h:Q .normal a w):WL r P ops Q [] a w:=wpListIn_nil h
theorem Vy (hw:Region.wanted o (yielded ops a.tmps)=true) (h:o.wpIn (FW r) 0 P a w (WL r P ops Q rest) Q):WL r P ops Q (o :: rest) a w:=by
 show wpListIn (FW r) 0 P ops Q (o :: rest) a w
 unfold wpListIn
 rw [av hw]
 exact h
theorem acd (hw:Region.wanted o (yielded ops a.tmps)=false) (h:WL r P ops Q rest (a.put o.dst undef) w):WL r P ops Q (o :: rest) a w:=by
 show wpListIn (FW r) 0 P ops Q (o :: rest) a w
 unfold wpListIn
 rw [ah (by simp [hw])]
 exact ⟨fun _ _=>trivial,h⟩
theorem gZ {v:ak} (hw:Region.wanted o (yielded ops a.tmps)=true) (hd:Pw o.op=true) (h:(execOp a.eval o).run P w=.ok (.value v) w')
  (k:WL r P ops Q rest (a.put o.dst v) w'):WL r P ops Q (o :: rest) a w:=by
 refine Vy hw ⟨fun _ _=>trivial,?_⟩
 rw [Ve hd,h]
 exact k
theorem acf (hw:Region.wanted o (yielded ops a.tmps)=true) (hd:Pw o.op=true) (h:(execOp a.eval o).run P w=.ok .skip w')
  (k:WL r P ops Q rest (a.put o.dst undef) w'):WL r P ops Q (o :: rest) a w:=by
 refine Vy hw ⟨fun _ _=>trivial,?_⟩
 rw [Ve hd,h]
 exact k
def After (P:Program) (nx:Result Next) (R:Ending→World→Prop):Prop :=
 match nx with
 | .ok (.enter f args) w'=>Calls P f args w' R
 | .ok (.round l f tmps assign body) w'=>RoundIn (FW none) 0 P l f tmps assign body w' R
 | _=>False
structure xB (P:Program) (fv:ak) (args:List ak) (w:World) (R:Ending→World→Prop):Prop where
 go:After P ((do let d ← Deferred.ofValue fv args.toArray;invoke d.target d.args:Sem Next).run P w) R
theorem Qk {nx:Result Next} {R:Ending→World→Prop} (hw:Region.wanted o (yielded ops a.tmps)=true) (hd:Pw o.op=true) (h:(execOp a.eval o).run P w=nx) (hc:After P nx R)
  (k:∀ e w',R e w'→∃ v,e=.returned v∧WL r P ops Q rest (a.put o.dst v) w'):WL r P ops Q (o :: rest) a w:=by
 refine Vy hw ⟨fun _ _=>trivial,?_⟩
 rw [Ve hd,h]
 cases nx with
 | halt x y=>exact hc.elim
 | ok x w1 =>
  cases x with
  | enter f args =>
   refine ⟨Nf r,(QK hc).mono fun e w2 hR=>?_⟩
   obtain ⟨v,rfl,hk⟩:=k e w2 hR
   exact hk
  | round l f tmps assign body =>
   have hc':RoundIn (FW none) 0 P l f tmps assign body w1 R:=hc
   refine ⟨Nf r,?_⟩
   have h2:RoundIn (FW r) (0 - 1) P l f tmps assign body w1 R:=⟨aC,fun c cs hr=>hc'.2 c cs (room_wide _)⟩
   exact h2.mono fun e w2 hR=>by obtain ⟨v,rfl,hk⟩:=k e w2 hR;exact hk
  | _=>exact hc.elim
end base
section steps
variable {N:Nat} {D:List Deferred} {w0:World} {F:Nat→Prop} {G0 G:GH} {L:List (Nat × Obj)} {T:List (Nat × ak)}
variable {r:Option Nat} {P:Program} {ops:Array Oper} {Q:Exit→Act→World→Prop} {rest:List Oper} {a:Act} {w:World}
variable {d:Nat} {ty:TypeId} {pos:String} {aU:Array Edge} {g:Option (Nat × Bool)}
theorem wn {op:Op} {dst:Option Tmp} {y:Nat→Option Bool}:Region.wanted ⟨dst,op,ty,pos,aU,none⟩ y=true:=rfl
theorem ach (H:St N D w0 F G0 G L T a w) {j t:Nat} {b:Bool} (hj:(ops[j]?).bind (·.dst)=some t) (ht:lk T t=some (.bool b)):yielded ops a.tmps j=some b:=by
 unfold yielded
 rw [hj]
 simp [H.get t _ ht]
theorem wg (H:St N D w0 F G0 G L T a w) {op:Op} {dst:Option Tmp} {j t:Nat} {want b:Bool} (hj:(ops[j]?).bind (·.dst)=some t) (ht:lk T t=some (.bool b)) (hb:b=want) :
  Region.wanted ⟨dst,op,ty,pos,aU,some (j,want)⟩ (yielded ops a.tmps)=true:=by
 simp [Region.wanted,ach H hj ht,hb]
theorem aaT (H:St N D w0 F G0 G L T a w) {op:Op} {j t:Nat} {want b:Bool} (hj:(ops[j]?).bind (·.dst)=some t) (ht:lk T t=some (.bool b)) (hb:b=!want) (hd:Nat.blt d N=true)
  (k:∀ a',St N D w0 F G0 G L ((d,undef) :: T) a' w→WL r P ops Q rest a' w):WL r P ops Q (⟨some d,op,ty,pos,aU,some (j,want)⟩ :: rest) a w:=by
 refine acd ?_ (k _ (H.put hd undef H.hp))
 simp only [Region.wanted,ach H hj ht,hb]
 cases want <;> rfl
theorem amA (H:St N D w0 F G0 G L T a w) {op:Op} {j t:Nat} {want:Bool} (hj:(ops[j]?).bind (·.dst)=some t) (ht:lk T t=some undef) (hd:Nat.blt d N=true)
  (k:∀ a',St N D w0 F G0 G L ((d,undef) :: T) a' w→WL r P ops Q rest a' w):WL r P ops Q (⟨some d,op,ty,pos,aU,some (j,want)⟩ :: rest) a w:=by
 refine acd ?_ (k _ (H.put hd undef H.hp))
 have h:yielded ops a.tmps j=none:=by
  unfold yielded
  rw [hj]
  simp [H.get t _ ht,undef]
 simp only [Region.wanted,h]
 cases want <;> rfl
theorem Vb (_H:St N D w0 F G0 G L T a w) (t:Nat) {b:Bool} {X:Prop} (_ht:lk T t=some (.bool b)) (h1:b=true→X) (h0:b=false→X):X:=by cases b <;> simp_all
theorem J4 {x:Operand} {v:ak} (H:St N D w0 F G0 G L T a w) (hw:Region.wanted ⟨some d,.move x,ty,pos,aU,g⟩ (yielded ops a.tmps)=true) (hx:ev T x=some v) (hd:Nat.blt d N=true)
  (k:∀ a',St N D w0 F G0 G L ((d,v) :: T) a' w→WL r P ops Q rest a' w):WL r P ops Q (⟨some d,.move x,ty,pos,aU,g⟩ :: rest) a w :=
 gZ (v:=v) (w':=w) hw rfl (by simp [execOp,H.ev hx]) (k _ (H.put hd v H.hp))
theorem amq {x:Operand} {v:ak} (H:St N D w0 F G0 G L T a w) (hw:Region.wanted ⟨some d,.assign x,ty,pos,aU,g⟩ (yielded ops a.tmps)=true) (hx:ev T x=some v) (hd:Nat.blt d N=true)
  (k:∀ a',St N D w0 F G0 G L ((d,v) :: T) a' w→WL r P ops Q rest a' w):WL r P ops Q (⟨some d,.assign x,ty,pos,aU,g⟩ :: rest) a w :=
 gZ (v:=v) (w':=w) hw rfl (by simp [execOp,H.ev hx]) (k _ (H.put hd v H.hp))
theorem MU {c x y:Operand} {b:Bool} {v:ak} (H:St N D w0 F G0 G L T a w) (hw:Region.wanted ⟨some d,.pick c x y,ty,pos,aU,g⟩ (yielded ops a.tmps)=true) (hc:ev T c=some (.bool b)) (hb:b=true) (hx:ev T x=some v) (hd:Nat.blt d N=true)
  (k:∀ a',St N D w0 F G0 G L ((d,v) :: T) a' w→WL r P ops Q rest a' w):WL r P ops Q (⟨some d,.pick c x y,ty,pos,aU,g⟩ :: rest) a w :=
 gZ (v:=v) (w':=w) hw rfl (by simp [execOp,H.ev hx,H.ev hc,asBool,hb]) (k _ (H.put hd v H.hp))
theorem P5 {c x y:Operand} {b:Bool} {v:ak} (H:St N D w0 F G0 G L T a w) (hw:Region.wanted ⟨some d,.pick c x y,ty,pos,aU,g⟩ (yielded ops a.tmps)=true) (hc:ev T c=some (.bool b)) (hb:b=false) (hx:ev T y=some v) (hd:Nat.blt d N=true)
  (k:∀ a',St N D w0 F G0 G L ((d,v) :: T) a' w→WL r P ops Q rest a' w):WL r P ops Q (⟨some d,.pick c x y,ty,pos,aU,g⟩ :: rest) a w :=
 gZ (v:=v) (w':=w) hw rfl (by simp [execOp,H.ev hx,H.ev hc,asBool,hb]) (k _ (H.put hd v H.hp))
structure Ty (P:Program) (t:TypeId) (sz bytes:Nat) (zero:List ak) (agg:Bool):Prop where
 info:(P.info? t).map (fun i=>(i.size,i.bytes,i.zero.map fun z=>z.cells.toList))=some (sz,bytes,some zero)
 ag:(P.underlying t).map (fun|.struct _=>true|.array _ _=>true|_=>false)=some agg
theorem Ty.parts {t:TypeId} {sz bytes:Nat} {zero:List ak} {agg:Bool} (h:Ty P t sz bytes zero agg):∃ i z,P.info? t=some i∧i.size=sz∧i.bytes=bytes∧i.zero=some z∧z.cells=zero.toArray:=by
 obtain ⟨i,hi,hx⟩:=ql.1 h.info
 simp only [jh] at hx
 obtain ⟨z,hz,hzz⟩:=ql.1 hx.2.2
 exact ⟨i,z,hi,hx.1,hx.2.1,hz,by rw [← hzz]⟩
theorem Iw {t:TypeId} {i:TypeInfo} (h:P.info? t=some i) (w:World):(typeInfo t).run P w=.ok i w:=by simp [typeInfo,program,Sem.run,eT,h]
theorem Ty.FC {t:TypeId} {sz bytes:Nat} {zero:List ak} {agg:Bool} (h:Ty P t sz bytes zero agg) (w:World):(sizeOf t).run P w=.ok sz w:=by
 obtain ⟨i,z,hi,h1,-,-,-⟩:=h.parts
 simp [sizeOf,eT,Iw hi,h1]
theorem Ty.aaL {t:TypeId} {sz bytes:Nat} {zero:List ak} {agg:Bool} (h:Ty P t sz bytes zero agg) (w:World):∃ z,(zeroValue t).run P w=.ok z w∧z.cells=zero.toArray:=by
 obtain ⟨i,z,hi,-,-,h1,h2⟩:=h.parts
 exact ⟨z,by simp [zeroValue,eT,Iw hi,h1],h2⟩
theorem rT {t:TypeId} {u:TypeDesc} (h:P.underlying t=some u) (w:World):(underlying t).run P w=.ok u w:=by simp [underlying,program,Sem.run,eT,h]
theorem Ty.PU {t:TypeId} {sz bytes:Nat} {zero:List ak} {agg:Bool} (h:Ty P t sz bytes zero agg) (w:World):(isAgg t).run P w=.ok agg w:=by
 obtain ⟨u,hu,hx⟩:=ql.1 h.ag
 unfold isAgg
 simp only [eT,rT hu,nC]
 cases u <;> simp_all
theorem dU {elem:TypeId} {sz bytes:Nat} {zero:List ak} {agg:Bool} (ht:Ty P elem sz bytes zero agg) (H:St N D w0 F G0 G L T a w) (hw:Region.wanted ⟨some d,.alloc elem,ty,pos,aU,g⟩ (yielded ops a.tmps)=true) (hd:Nat.blt d N=true)
  (k:∀ b a' w',w0.heap.size≤b→St N D w0 F G0 G ((b,.cells zero.toArray elem (0,0)) :: L) ((d,.pointer (some ⟨b,0,none⟩)) :: T) a' w'→WL r P ops Q rest a' w'):WL r P ops Q (⟨some d,.alloc elem,ty,pos,aU,g⟩ :: rest) a w:=by
 obtain ⟨z,hz,hzc⟩:=ht.aaL w
 refine gZ (v:=.pointer (some ⟨w.heap.size,0,none⟩)) (w':=w.alloc (.cells zero.toArray elem (0,0))) hw rfl ?_ (k _ _ _ H.hp.size (H.put hd _ (H.hp.alloc _)))
 simp [execOp,Instr.alloc,eT,hz,newVar,newRow,newObj,Sem.run,hzc]
theorem eD {elem:TypeId} {x:Operand} {v:ak} {cs:List ak} (H:St N D w0 F G0 G L T a w) (hw:Region.wanted ⟨some d,.box elem x,ty,pos,aU,g⟩ (yielded ops a.tmps)=true) (hx:ev T x=some v) (hc:v.cells=cs.toArray) (hd:Nat.blt d N=true)
  (k:∀ b a' w',w0.heap.size≤b→St N D w0 F G0 G ((b,.cells cs.toArray elem (0,0)) :: L) ((d,.pointer (some ⟨b,0,none⟩)) :: T) a' w'→WL r P ops Q rest a' w'):WL r P ops Q (⟨some d,.box elem x,ty,pos,aU,g⟩ :: rest) a w:=by
 refine gZ (v:=.pointer (some ⟨w.heap.size,0,none⟩)) (w':=w.alloc (.cells cs.toArray elem (0,0))) hw rfl ?_ (k _ _ _ H.hp.size (H.put hd _ (H.hp.alloc _)))
 simp [execOp,Instr.box,eT,newVar,newRow,newObj,Sem.run,H.ev hx,hc]
def aF (G:GH) (b o:Nat):Option ak:=match G b with|some (.cells c _ _)=>c[o]?|_=>none
theorem Hp.aF (h:Hp w0 F G0 G L w) {b o:Nat} {v:ak} (hg:Proofs.YtdacibabefnabaaGreat.aF G b o=some v):w.cell? ⟨b,o,none⟩=some v:=by
 unfold Proofs.YtdacibabefnabaaGreat.aF at hg
 split at hg
 ·rename_i c e f he
  simp only [World.cell?,h.ro b _ he]
  exact hg
 ·cases hg
theorem Hp.tV (h:Hp w0 F G0 G L w) (i:Nat) {b o:Nat} {c:Array ak} {e:TypeId} {fz:Nat × Nat} {v:ak} (hi:L[i]?=some (b,.cells c e fz)) (hv:c[o]?=some v):w.cell? ⟨b,o,none⟩=some v:=by
 have:=h.own _ (oD hi)
 simp only [World.cell?] at *
 rw [this]
 exact hv
theorem add_lit (b o n:Nat):(⟨b,o,none⟩:Addr).add n=⟨b,o+n,none⟩:=by
 unfold Addr.add
 split
 ·rename_i h;subst h;rfl
 ·rfl
theorem U7 {b o:Nat} {v:ak} (h:w.cell? ⟨b,o,none⟩=some v):(load ⟨b,o,none⟩).run P w=.ok v w:=by simp [load,Sem.run,h]
theorem run_loadCells (b:Nat) (w:World):∀ (cs:List ak) (o i:Nat) (acc:Array ak),(∀ j v,cs[j]?=some v→w.cell? ⟨b,o+i+j,none⟩=some v) →
  (loadCellsFrom ⟨b,o,none⟩ i cs.length acc).run P w=.ok (acc++cs.toArray) w
 | [],o,i,acc,_=>by simp [loadCellsFrom,Sem.run]
 | c :: cs,o,i,acc,h=>by
  have h0:=h 0 c rfl
  have ih:=run_loadCells b w cs o (i+1) (acc.push c) (fun j v hj=>by have:=h (j+1) v (by simpa using hj);rw [← this];congr 2;omega)
  simp only [loadCellsFrom,qH,eT,add_lit,U7 (P:=P) (by simpa using h0),nC,ih]
  congr 1
  apply Array.ext'
  simp
theorem zT {t:TypeId} {sz bytes:Nat} {zero:List ak} (ht:Ty P t sz bytes zero false) {x:Operand} {b o:Nat} {v:ak} (H:St N D w0 F G0 G L T a w) (hw:Region.wanted ⟨some d,.load t x,ty,pos,aU,g⟩ (yielded ops a.tmps)=true)
  (hx:ev T x=some (.pointer (some ⟨b,o,none⟩))) (hc:w.cell? ⟨b,o,none⟩=some v) (hd:Nat.blt d N=true)
  (k:∀ a',St N D w0 F G0 G L ((d,v) :: T) a' w→WL r P ops Q rest a' w):WL r P ops Q (⟨some d,.load t x,ty,pos,aU,g⟩ :: rest) a w:=by
 refine gZ (v:=v) (w':=w) hw rfl ?_ (k _ (H.put hd v H.hp))
 simp only [execOp,Instr.loadAt,Instr.sureAddr,loadVar,eT,H.ev hx,ht.PU,nC,uq,mD,if_false,U7 hc]
theorem aW {t:TypeId} {sz bytes:Nat} {zero:List ak} (ht:Ty P t sz bytes zero true) {x:Operand} {b o:Nat} {cs:List ak} (H:St N D w0 F G0 G L T a w) (hw:Region.wanted ⟨some d,.load t x,ty,pos,aU,g⟩ (yielded ops a.tmps)=true)
  (hx:ev T x=some (.pointer (some ⟨b,o,none⟩))) (hl:cs.length=sz) (hc:∀ j v,cs[j]?=some v→w.cell? ⟨b,o+j,none⟩=some v) (hd:Nat.blt d N=true)
  (k:∀ a',St N D w0 F G0 G L ((d,.agg cs.toArray) :: T) a' w→WL r P ops Q rest a' w):WL r P ops Q (⟨some d,.load t x,ty,pos,aU,g⟩ :: rest) a w:=by
 refine gZ (v:=.agg cs.toArray) (w':=w) hw rfl ?_ (k _ (H.put hd _ H.hp))
 have h1:=run_loadCells (P:=P) b w cs o 0 #[] (fun j v hj=>by simpa using hc j v hj)
 simp only [Array.empty_append,hl] at h1
 simp [execOp,Instr.loadAt,Instr.sureAddr,loadVar,eT,H.ev hx,ht.PU,ht.FC,loadCells,h1]
theorem Hp.dX (h:Hp w0 F G0 G L w) (i:Nat) {b o:Nat} {c:List ak} {e:TypeId} {fz:Nat × Nat} {cs:List ak} (hi:L[i]?=some (b,.cells c.toArray e fz)) (hv:(c.drop o).take cs.length=cs):∀ j v,cs[j]?=some v→w.cell? ⟨b,o+j,none⟩=some v:=by
 intro j v hj
 refine h.tV i hi ?_
 rw [← hv,Af] at hj
 split at hj
 ·rw [List.getElem?_drop] at hj
  simpa using hj
 ·cases hj
theorem anT {b o:Nat} {c:Array ak} {e:TypeId} {fz:Nat × Nat} (h:w.heap[b]?=some (.cells c e fz)) (v:ak):xH b (.cells (c.setIfInBounds o v) e fz) w (w.setCell ⟨b,o,none⟩ v):=by
 refine ⟨rfl,rfl,rfl,by simp,?_,fun k hk=>Below.heap_setCell w _ v k hk⟩
 simp [World.setCell,Array.getElem?_modify,h]
theorem xH.trans {b:Nat} {o1 o2:Obj} {w1 w2 w3:World} (h:xH b o1 w1 w2) (k:xH b o2 w2 w3):xH b o2 w1 w3 :=
 ⟨k.os.trans h.os,k.tape.trans h.tape,k.output.trans h.output,k.size.trans h.size,k.this,fun j hj=>(k.others j hj).trans (h.others j hj)⟩
theorem xH.refl {b:Nat} {o:Obj} {w:World} (h:w.heap[b]?=some o):xH b o w w:=⟨rfl,rfl,rfl,rfl,h,fun _ _=>rfl⟩
def oneCell':ak→Bool
 | .agg _|.tuple _=>false
 | _=>true
def setRow (c:List ak):Nat→List ak→List ak
 | _,[]=>c
 | o,v :: vs=>setRow (c.set o v) (o+1) vs
theorem aml {b o:Nat} {c:Array ak} {e:TypeId} {v:ak} (hb:w.heap[b]?=some (.cells c e (0,0))) (ho:o < c.size) (hv:oneCell' v=true) :
  (store ⟨b,o,none⟩ v).run P w=.ok () (w.setCell ⟨b,o,none⟩ v):=by
 have h1:w.cell? ⟨b,o,none⟩=some c[o]:=by simp [World.cell?,hb,ho]
 have h2:w.frozen? ⟨b,o,none⟩=false:=by simp [World.frozen?,hb]
 unfold store
 cases v <;> first|(simp [oneCell'] at hv;done)|(simp only [Sem.run,h1,h2];rfl)
theorem aaK (b:Nat) (e:TypeId) (o0:Nat):∀ (vs:List ak) (i:Nat) (c:List ak) (w:World),w.heap[b]?=some (.cells c.toArray e (0,0))→o0+i+vs.length≤c.length→(∀ v∈vs,oneCell' v=true) →
  ∃ w',(storeCells ⟨b,o0,none⟩ vs i).run P w=.ok () w'∧xH b (.cells (setRow c (o0+i) vs).toArray e (0,0)) w w'
 | [],i,c,w,hb,_,_=>⟨w,by simp [storeCells,Sem.run],xH.refl hb⟩
 | v :: vs,i,c,w,hb,hl,hv=>by
  simp only [qH] at hl
  have hr:=aml (P:=P) (o:=o0+i) (v:=v) hb (by simp;omega) (hv v (by simp))
  have hu:=anT (o:=o0+i) hb v
  have hb':=hu.this
  simp only [List.setIfInBounds_toArray] at hb' hu
  obtain ⟨w2,h2,u2⟩:=aaK b e o0 vs (i+1) (c.set (o0+i) v) _ hb' (by simp;omega) (fun u hu=>hv u (by simp [hu]))
  refine ⟨w2,?_,?_⟩
  ·simp only [storeCells,eT,add_lit,hr,nC,h2]
  ·exact hu.trans u2
theorem bN {t:TypeId} {sz bytes:Nat} {zero:List ak} {agg:Bool} (ht:Ty P t sz bytes zero agg) {x y:Operand} (i:Nat) {b o:Nat} {c:List ak} {e:TypeId} {v:ak} {vs:List ak} (c':List ak) (H:St N D w0 F G0 G L T a w) (hw:Region.wanted ⟨none,.store t x y,ty,pos,aU,g⟩ (yielded ops a.tmps)=true)
  (hx:ev T x=some (.pointer (some ⟨b,o,none⟩))) (hi:L[i]?=some (b,.cells c.toArray e (0,0))) (hy:ev T y=some v) (hvs:v.cells=vs.toArray) (hl:Nat.beq vs.length sz=true) (h1:vs.all oneCell'=true) (hle:Nat.ble (o+vs.length) c.length=true) (hset:setRow c o vs=c')
  (k:∀ w',St N D w0 F G0 G (L.set i (b,.cells c'.toArray e (0,0))) T a w'→WL r P ops Q rest a w'):WL r P ops Q (⟨none,.store t x y,ty,pos,aU,g⟩ :: rest) a w:=by
 have hb:=H.hp.own _ (oD hi)
 obtain ⟨w2,h2,u2⟩:=aaK (P:=P) b e o vs 0 c w hb (by simpa using Nat.le_of_ble_eq_true hle) (fun u hu=>oU.1 h1 u hu)
 simp only [nY,hset] at u2
 refine acf (w':=w2) hw rfl ?_ (k w2 (H.move (H.hp.upd hi u2)))
 have hl':vs.length=sz:=EN hl
 simp [execOp,Instr.storeAt,Instr.sureAddr,storeVar,eT,H.ev hx,H.ev hy,ht.FC,hvs,hl',h2]
structure dV (P:Program) (s n off:Nat):Prop where
 h:(match P.underlying s with|some (.struct fs)=>(fs[n]?).bind fun f=>(P.info? f.type).map fun i=>(f.offset,i.size == 0)|_=>none)=some (off,false)
theorem dV.parts {s n off:Nat} (h:dV P s n off):∃ fs fl i,P.underlying s=some (.struct fs)∧fs[n]?=some fl∧P.info? fl.type=some i∧fl.offset=off∧i.size≠0:=by
 obtain ⟨h⟩:=h
 split at h
 ·rename_i fs hs
  obtain ⟨fl,hf,h2⟩:=Option.bind_eq_some_iff.1 h
  obtain ⟨i,hi,h3⟩:=ql.1 h2
  simp only [jh,beq_eq_false_iff_ne] at h3
  exact ⟨fs,fl,i,hs,hf,hi,h3.1,h3.2⟩
 ·cases h
theorem J2 {s:TypeId} {x:Operand} {n b o off:Nat} (hs:dV P s n off) (H:St N D w0 F G0 G L T a w) (hw:Region.wanted ⟨some d,.fieldAddr s x n,ty,pos,aU,g⟩ (yielded ops a.tmps)=true)
  (hx:ev T x=some (.pointer (some ⟨b,o,none⟩))) (hd:Nat.blt d N=true)
  (k:∀ a',St N D w0 F G0 G L ((d,.pointer (some ⟨b,o+off,none⟩)) :: T) a' w→WL r P ops Q rest a' w):WL r P ops Q (⟨some d,.fieldAddr s x n,ty,pos,aU,g⟩ :: rest) a w:=by
 obtain ⟨fs,fl,i,h1,h2,h3,h4,h5⟩:=hs.parts
 refine gZ (v:=.pointer (some ⟨b,o+off,none⟩)) (w':=w) hw rfl ?_ (k _ (H.put hd _ H.hp))
 simp only [execOp,Instr.fieldAt,Instr.sureAddr,eT,H.ev hx,rT h1,h2,nC,uq,fieldPlace,sizeOf,Iw h3,ah h5,add_lit,h4]
theorem PY {s e:TypeId} {sz bytes:Nat} {zero:List ak} {agg:Bool} (hs:P.underlying s=some (.slice e)) (ht:Ty P e sz bytes zero agg) {x y:Operand} {b o n c:Nat} {kd:IntKind} {z:Int} (i:Nat) (H:St N D w0 F G0 G L T a w) (hw:Region.wanted ⟨some d,.indexAddr s x y,ty,pos,aU,g⟩ (yielded ops a.tmps)=true)
  (hx:ev T x=some (.slice (some ⟨b,o,none⟩) n c)) (hy:ev T y=some (.int kd z)) (hz:z=(i:Int)) (hn:i < n) (hd:Nat.blt d N=true)
  (k:∀ a',St N D w0 F G0 G L ((d,.pointer (some ⟨b,o+i*sz,none⟩)) :: T) a' w→WL r P ops Q rest a' w):WL r P ops Q (⟨some d,.indexAddr s x y,ty,pos,aU,g⟩ :: rest) a w:=by
 subst hz
 refine gZ (v:=.pointer (some ⟨b,o+i*sz,none⟩)) (w':=w) hw rfl ?_ (k _ (H.put hd _ H.hp))
 have hr:(0:Int)≤i∧(i:Int) < (n:Int):=by omega
 simp only [execOp,Instr.indexAt,asIntOf,eT,H.ev hx,H.ev hy,rT hs,nC,uq,av hr,ht.FC,add_lit,Int.toNat_natCast]
theorem uT {x:Operand} {n:Nat} {vs:List ak} {v:ak} (H:St N D w0 F G0 G L T a w) (hw:Region.wanted ⟨some d,.extract x n,ty,pos,aU,g⟩ (yielded ops a.tmps)=true) (hx:ev T x=some (.tuple vs.toArray)) (hv:vs[n]?=some v) (hd:Nat.blt d N=true)
  (k:∀ a',St N D w0 F G0 G L ((d,v) :: T) a' w→WL r P ops Q rest a' w):WL r P ops Q (⟨some d,.extract x n,ty,pos,aU,g⟩ :: rest) a w :=
 gZ (v:=v) (w':=w) hw rfl (by simp [execOp,Instr.extract,H.ev hx,hv]) (k _ (H.put hd _ H.hp))
theorem uU {x:Operand} {p:Addr} (H:St N D w0 F G0 G L T a w) (hw:Region.wanted ⟨some d,.nilCheck x,ty,pos,aU,g⟩ (yielded ops a.tmps)=true) (hx:ev T x=some (.pointer (some p))) (hd:Nat.blt d N=true)
  (k:∀ a',St N D w0 F G0 G L ((d,.pointer (some p)) :: T) a' w→WL r P ops Q rest a' w):WL r P ops Q (⟨some d,.nilCheck x,ty,pos,aU,g⟩ :: rest) a w :=
 gZ (v:=.pointer (some p)) (w':=w) hw rfl (by simp [execOp,H.ev hx]) (k _ (H.put hd _ H.hp))
theorem qX {fn:Fn} {xs:List Operand} {vs:List ak} (H:St N D w0 F G0 G L T a w) (hw:Region.wanted ⟨some d,.makeFunc fn #[] xs.toArray,ty,pos,aU,g⟩ (yielded ops a.tmps)=true) (hx:evs T xs=some vs) (hd:Nat.blt d N=true)
  (k:∀ a',St N D w0 F G0 G L ((d,.func fn #[] vs.toArray) :: T) a' w→WL r P ops Q rest a' w):WL r P ops Q (⟨some d,.makeFunc fn #[] xs.toArray,ty,pos,aU,g⟩ :: rest) a w :=
 gZ (v:=.func fn #[] vs.toArray) (w':=w) hw rfl (by simp [execOp,Instr.makeFunc,H.evs hx]) (k _ (H.put hd _ H.hp))
def CB (pl:List (Nat × Nat)):List ak→List (Nat × List ak)→Option (List ak)
 | c,[]=>some c
 | c,(i,vs) :: rest=>match pl[i]? with
  | none=>none
  | some (off,size)=>bif Nat.beq vs.length size && Nat.ble (off+vs.length) c.length then CB pl (setRow c off vs) rest else none
theorem Yi (off:Nat):∀ (vs:List ak) (j:Nat) (c:List ak),
  ((vs.zipIdx j).toArray).foldl (fun cs (x:ak × Nat)=>cs.setIfInBounds (off+x.2) x.1) c.toArray=(setRow c (off+j) vs).toArray
 | [],j,c=>by simp [setRow]
 | v :: vs,j,c=>by
  have ih:=Yi off vs (j+1) (c.set (off+j) v)
  simp only [List.zipIdx_cons,List.foldl_toArray'] at *
  simp only [List.foldl_cons,List.setIfInBounds_toArray]
  exact ih
theorem fill_eq (place:Nat→Option (Nat × Nat)) (pl:List (Nat × Nat)) (hp:∀ i q,pl[i]?=some q→place i=some q):∀ (parts:List (Nat × ak)) (PI:List (Nat × List ak)) (c c':List ak),
  parts.map (fun x=>(x.1,x.2.cells.toList))=PI→CB pl c PI=some c'→Instr.fill place c.toArray parts=some c'.toArray
 | [],PI,c,c',hm,h=>by subst hm;simp [CB] at h;subst h;rfl
 | (i,v) :: parts,PI,c,c',hm,h=>by
  subst hm
  simp only [iq,CB] at h
  split at h
  ·cases h
  ·rename_i off size hq
   cases hcond:(Nat.beq v.cells.toList.length size && Nat.ble (off+v.cells.toList.length) c.length) with
   | false=>rw [hcond] at h;cases h
   | true =>
    rw [hcond] at h
    simp only [oF] at hcond
    have e1:=EN hcond.1
    have e2:=Nat.le_of_ble_eq_true hcond.2
    have ih:=fill_eq place pl hp parts _ (setRow c off v.cells.toList) c' rfl h
    have hf:=Yi off v.cells.toList 0 c
    simp only [nY] at hf
    simp only [yS] at e1 e2
    unfold Instr.fill
    rw [hp i _ hq]
    have hz:(v.cells.zipIdx:Array (ak × Nat))=((v.cells.toList.zipIdx 0).toArray):=by
     apply Array.ext';simp
    simp only [e1,ne_eq,not_true_eq_false,mD,decide_false,Bool.false_or,List.size_toArray]
    rw [ah (by simp;omega),hz,hf]
    exact ih
structure uj (P:Program) (t:TypeId) (pl:List (Nat × Nat)) (zero:List ak):Prop where
 h:(match P.underlying t with|some (.struct fs)=>some (fs.toList.map fun f=>(f.offset,(P.info? f.type).map (·.size)))|_=>none)=some (pl.map fun q=>(q.1,some q.2))
 z:(P.info? t).map (fun i=>i.zero.map fun z=>z.cells.toList)=some (some zero)
end steps
end
section
open Go.RowKit
section steps
variable {N:Nat} {D:List Deferred} {w0:World} {F:Nat→Prop} {G0 G:GH} {L:List (Nat × Obj)} {T:List (Nat × ak)}
variable {r:Option Nat} {P:Program} {ops:Array Oper} {Q:Exit→Act→World→Prop} {rest:List Oper} {a:Act} {w:World}
variable {d:Nat} {ty:TypeId} {pos:String} {aU:Array Edge} {g:Option (Nat × Bool)}
theorem uj.parts {t:TypeId} {pl:List (Nat × Nat)} {zero:List ak} (h:uj P t pl zero):∃ fs i z,P.underlying t=some (.struct fs)∧P.info? t=some i∧i.zero=some z∧z.cells=zero.toArray ∧
  fs.toList.map (fun f=>(f.offset,(P.info? f.type).map (·.size)))=pl.map fun q=>(q.1,some q.2):=by
 obtain ⟨h,hz⟩:=h
 obtain ⟨i,hi,hx⟩:=ql.1 hz
 obtain ⟨z,hz1,hz2⟩:=ql.1 hx
 split at h
 ·rename_i fs hs
  exact ⟨fs,i,z,hs,hi,hz1,by rw [← hz2],by simpa using h⟩
 ·cases h
theorem aaI (w:World):∀ (fs:List Field) (pl:List (Nat × Nat)),fs.map (fun f=>(f.offset,(P.info? f.type).map (·.size)))=pl.map (fun q=>(q.1,some q.2)) →
  (fs.mapM (fun f=>(do pure (f.offset,← sizeOf f.type):Sem (Nat × Nat)))).run P w=.ok pl w
 | [],[],_=>by simp [Sem.run]
 | [],q :: pl,h=>by simp at h
 | f :: fs,[],h=>by simp at h
 | f :: fs,q :: pl,h=>by
  simp only [iq,List.cons.injEq,jh] at h
  obtain ⟨⟨h1,h2⟩,h3⟩:=h
  obtain ⟨i,hi,hs⟩:=ql.1 h2
  have ih:=aaI w fs pl h3
  have hsz:(sizeOf f.type).run P w=.ok q.2 w:=by simp only [sizeOf,eT,Iw hi,nC,uq,hs]
  simp only [List.mapM_cons,eT,hsz,nC,uq,ih,h1]
theorem run_build {t:TypeId} {pl:List (Nat × Nat)} {zero:List ak} (h:uj P t pl zero) {parts:Array (Nat × ak)} {cs:List ak}
  (hf:CB pl zero (parts.toList.map fun x=>(x.1,x.2.cells.toList))=some cs) (w:World):(Instr.build t parts).run P w=.ok (.agg cs.toArray) w:=by
 obtain ⟨fs,i,z,h1,h2,h3,h4,h5⟩:=h.parts
 have hm:=aaI (P:=P) w fs.toList pl h5
 have hm':(fs.mapM (fun f=>(do pure (f.offset,← sizeOf f.type):Sem (Nat × Nat)))).run P w=.ok pl.toArray w:=by
  rw [Array.mapM_eq_mapM_toList]
  simp only [map_eq_pure_bind,eT,hm,nC,uq]
 have Tn:=fill_eq (fun i=>pl.toArray[i]?) pl (fun i q hq=>by simpa using hq) parts.toList _ zero cs rfl hf
 simp only [Instr.build,zeroValue,eT,Iw h2,h3,nC,uq,h4,rT h1,hm',Tn]
def pts (T:List (Nat × ak)):List (Nat × Operand)→Option (List (Nat × ak))
 | []=>some []
 | (i,x) :: q=>match ev T x,pts T q with|some v,some vs=>some ((i,v) :: vs)|_,_=>none
theorem St.pts (H:St N D w0 F G0 G L T a w):∀ {xs:List (Nat × Operand)} {vs:List (Nat × ak)},Proofs.YtdacibabefnabaaGreat.pts T xs=some vs→xs.map (fun x=>(x.1,a.eval x.2))=vs
 | [],vs,hx=>by simp [Proofs.YtdacibabefnabaaGreat.pts] at hx;subst hx;rfl
 | (i,x) :: xs,vs,hx=>by
  unfold Proofs.YtdacibabefnabaaGreat.pts at hx
  split at hx
  ·rename_i v vs' h1 h2
   simp only [nM] at hx
   subst hx
   rw [iq,H.ev h1,H.pts h2]
  ·cases hx
theorem nk {t:TypeId} {pl:List (Nat × Nat)} {zero:List ak} (ht:uj P t pl zero) {xs:List (Nat × Operand)} {vs:List (Nat × ak)} {vs':List (Nat × List ak)} (cs:List ak) (H:St N D w0 F G0 G L T a w) (hw:Region.wanted ⟨some d,.build t xs.toArray,ty,pos,aU,g⟩ (yielded ops a.tmps)=true)
  (hx:pts T xs=some vs) (hv:vs.map (fun x=>(x.1,x.2.cells.toList))=vs') (hf:CB pl zero vs'=some cs) (hd:Nat.blt d N=true)
  (k:∀ a',St N D w0 F G0 G L ((d,.agg cs.toArray) :: T) a' w→WL r P ops Q rest a' w):WL r P ops Q (⟨some d,.build t xs.toArray,ty,pos,aU,g⟩ :: rest) a w:=by
 refine gZ (v:=.agg cs.toArray) (w':=w) hw rfl ?_ (k _ (H.put hd _ H.hp))
 have h1:=run_build ht (parts:=(vs.toArray)) (cs:=cs) (by simpa [hv] using hf) w
 simp only [execOp,List.map_toArray,H.pts hx,eT,h1,nC,uq]
theorem jJ {t e:TypeId} {sz bytes:Nat} {zero:List ak} {agg:Bool} (hs:P.underlying t=some (.slice e)) (ht:Ty P e sz bytes zero agg) {n:Nat} {xs:List (Nat × Operand)} {vs:List (Nat × ak)} {vs':List (Nat × List ak)} (z:List ak) (cs:List ak) (H:St N D w0 F G0 G L T a w) (hw:Region.wanted ⟨some d,.buildSlice t n xs.toArray,ty,pos,aU,g⟩ (yielded ops a.tmps)=true)
  (hx:pts T xs=some vs) (hv:vs.map (fun x=>(x.1,x.2.cells.toList))=vs') (hn:Nat.ble (n*sz) 1000=true) (hn0:Nat.beq (n*sz) 0=false) (hz:(List.range (n*sz)).map (fun i=>zero[i % zero.length]!)=z) (hpl:∀ i q,((List.range n).map fun i=>(i*sz,sz))[i]?=some q→(some (i*sz,sz):Option (Nat × Nat))=some q)
  (hf:CB ((List.range n).map fun i=>(i*sz,sz)) z vs'=some cs) (hd:Nat.blt d N=true)
  (k:∀ b a' w',w0.heap.size≤b→St N D w0 F G0 G ((b,.cells cs.toArray e (0,0)) :: L) ((d,.slice (some ⟨b,0,none⟩) n n) :: T) a' w'→WL r P ops Q rest a' w'):WL r P ops Q (⟨some d,.buildSlice t n xs.toArray,ty,pos,aU,g⟩ :: rest) a w:=by
 refine gZ (v:=.slice (some ⟨w.heap.size,0,none⟩) n n) (w':=w.alloc (.cells cs.toArray e (0,0))) hw rfl ?_ (k _ _ _ H.hp.size (H.put hd _ (H.hp.alloc _)))
 obtain ⟨z0,hz0,hzc⟩:=ht.aaL w
 have h16:¬ n*sz > 2 ^ 24:=by have:=Nat.le_of_ble_eq_true hn;simp;omega
 have h0:¬ n*sz=0:=by intro e;rw [e] at hn0;cases hn0
 have Tn:=fill_eq (fun i=>some (i*sz,sz)) _ hpl vs vs' z cs hv hf
 have hz':(Array.range (n*sz)).map (fun x=>zero.toArray[x % zero.toArray.size]!)=z.toArray:=by
  rw [← hz];apply Array.ext';simp
 simp only [execOp,List.map_toArray,H.pts hx,Instr.buildSlice,eT,rT hs,nC,ht.FC,ah h16,ah h0,hz0,hzc,uq,hz',Tn,newRow,newObj,Sem.run]
 rfl
theorem JK {z:Int} (h1:-9223372036854775808≤z) (h2:z < 9223372036854775808):IntKind.i64.wrap z=z:=by
 unfold IntKind.wrap
 have e:(2:Int) ^ 64=18446744073709551616:=by decide
 have e':(2:Int) ^ (64 - 1)=9223372036854775808:=by decide
 simp only [IntKind.bits,IntKind.signed,vg,e,e',qI]
 split <;> omega
theorem PW {x y:Operand} {t yt:TypeId} {p q:Int} (z:Int) (H:St N D w0 F G0 G L T a w) (hw:Region.wanted ⟨some d,.binOp .add t x y yt,ty,pos,aU,g⟩ (yielded ops a.tmps)=true) (hx:ev T x=some (.int .i64 p)) (hy:ev T y=some (.int .i64 q)) (hz:p+q=z) (h1:-9223372036854775808≤z) (h2:z < 9223372036854775808) (hd:Nat.blt d N=true)
  (k:∀ a',St N D w0 F G0 G L ((d,.int .i64 z) :: T) a' w→WL r P ops Q rest a' w):WL r P ops Q (⟨some d,.binOp .add t x y yt,ty,pos,aU,g⟩ :: rest) a w :=
 gZ (v:=.int .i64 z) (w':=w) hw rfl (by simp [execOp,eqGuard,binOp,Op.intArith,H.ev hx,H.ev hy,eT,hz,JK h1 h2]) (k _ (H.put hd _ H.hp))
theorem nU {x y:Operand} {t yt:TypeId} {p q:Int} (z:Int) (H:St N D w0 F G0 G L T a w) (hw:Region.wanted ⟨some d,.binOp .sub t x y yt,ty,pos,aU,g⟩ (yielded ops a.tmps)=true) (hx:ev T x=some (.int .i64 p)) (hy:ev T y=some (.int .i64 q)) (hz:p - q=z) (h1:-9223372036854775808≤z) (h2:z < 9223372036854775808) (hd:Nat.blt d N=true)
  (k:∀ a',St N D w0 F G0 G L ((d,.int .i64 z) :: T) a' w→WL r P ops Q rest a' w):WL r P ops Q (⟨some d,.binOp .sub t x y yt,ty,pos,aU,g⟩ :: rest) a w :=
 gZ (v:=.int .i64 z) (w':=w) hw rfl (by simp [execOp,eqGuard,binOp,Op.intArith,H.ev hx,H.ev hy,eT,hz,JK h1 h2]) (k _ (H.put hd _ H.hp))
def KJ:BinOp→Int→Int→Option Bool
 | .eql,x,y=>some (decide (x=y))
 | .neq,x,y=>some (decide (¬ x=y))
 | .lss,x,y=>some (decide (x < y))
 | .leq,x,y=>some (decide (x≤y))
 | .gtr,x,y=>some (decide (y < x))
 | .geq,x,y=>some (decide (y≤x))
 | _,_,_=>none
theorem ami {op:BinOp} {kd:IntKind} {x y:Int} {b:Bool} (h:KJ op x y=some b) (t:TypeId) (X Y:Operand) (w:World):(do eqGuard op t X Y (.int kd x) (.int kd y);binOp op t (.int kd x) (.int kd y):Sem ak).run P w=.ok (.bool b) w:=by
 cases op <;> simp only [KJ,nM,reduceCtorEq] at h <;> subst h <;> simp [eqGuard,binOp,Op.intCmp,eT]
 ·rfl
 ·rfl
theorem MR {op:BinOp} {x y:Operand} {t yt:TypeId} {kd:IntKind} {p q:Int} {b:Bool} (H:St N D w0 F G0 G L T a w) (hw:Region.wanted ⟨some d,.binOp op t x y yt,ty,pos,aU,g⟩ (yielded ops a.tmps)=true) (hx:ev T x=some (.int kd p)) (hy:ev T y=some (.int kd q)) (hb:KJ op p q=some b) (hd:Nat.blt d N=true)
  (k:∀ a',St N D w0 F G0 G L ((d,.bool b) :: T) a' w→WL r P ops Q rest a' w):WL r P ops Q (⟨some d,.binOp op t x y yt,ty,pos,aU,g⟩ :: rest) a w:=by
 refine gZ (v:=.bool b) (w':=w) hw rfl ?_ (k _ (H.put hd _ H.hp))
 have h1:=ami (P:=P) (kd:=kd) hb t x y w
 simp only [execOp,H.ev hx,H.ev hy]
 rw [eT,h1]
 rfl
theorem MS {x:Operand} {t:TypeId} {b:Bool} (H:St N D w0 F G0 G L T a w) (hw:Region.wanted ⟨some d,.unOp .not t x,ty,pos,aU,g⟩ (yielded ops a.tmps)=true) (hx:ev T x=some (.bool b)) (hd:Nat.blt d N=true)
  (k:∀ a',St N D w0 F G0 G L ((d,.bool (!b)) :: T) a' w→WL r P ops Q rest a' w):WL r P ops Q (⟨some d,.unOp .not t x,ty,pos,aU,g⟩ :: rest) a w :=
 gZ (v:=.bool (!b)) (w':=w) hw rfl (by simp [execOp,Op.unary,H.ev hx,eT]) (k _ (H.put hd _ H.hp))
def qK (op:BinOp) (k:IntKind) (x y:Int):Int :=
 let a:=BitVec.ofInt k.bits x
 let b:=BitVec.ofInt k.bits y
 k.wrap (match op with|.and=>(a &&& b).toNat|.or=>(a ||| b).toNat|.xor=>(a ^^^ b).toNat|_=>(a &&& ~~~b).toNat)
theorem MQ {op:BinOp} {x y:Operand} {t yt:TypeId} {kd:IntKind} {p q:Int} (hop:(match op with|.and|.or|.xor|.andNot=>true|_=>false)=true) (H:St N D w0 F G0 G L T a w) (hw:Region.wanted ⟨some d,.binOp op t x y yt,ty,pos,aU,g⟩ (yielded ops a.tmps)=true) (hx:ev T x=some (.int kd p)) (hy:ev T y=some (.int kd q)) (hd:Nat.blt d N=true)
  (k:∀ a',St N D w0 F G0 G L ((d,.int kd (qK op kd p q)) :: T) a' w→WL r P ops Q rest a' w):WL r P ops Q (⟨some d,.binOp op t x y yt,ty,pos,aU,g⟩ :: rest) a w:=by
 refine gZ (v:=.int kd (qK op kd p q)) (w':=w) hw rfl ?_ (k _ (H.put hd _ H.hp))
 cases op <;> simp only [mD] at hop <;> simp [execOp,eqGuard,binOp,Op.intBits,H.ev hx,H.ev hy,qK]
theorem amy {x y:Operand} {t yt:TypeId} {kd ky:IntKind} {p q:Int} (n:Nat) (H:St N D w0 F G0 G L T a w) (hw:Region.wanted ⟨some d,.binOp .shl t x y yt,ty,pos,aU,g⟩ (yielded ops a.tmps)=true) (hx:ev T x=some (.int kd p)) (hy:ev T y=some (.int ky q)) (hq:q=(n:Int)) (hn:n≤kd.bits) (hd:Nat.blt d N=true)
  (k:∀ a',St N D w0 F G0 G L ((d,.int kd (kd.wrap (p*2 ^ n))) :: T) a' w→WL r P ops Q rest a' w):WL r P ops Q (⟨some d,.binOp .shl t x y yt,ty,pos,aU,g⟩ :: rest) a w:=by
 subst hq
 refine gZ (v:=.int kd (kd.wrap (p*2 ^ n))) (w':=w) hw rfl ?_ (k _ (H.put hd _ H.hp))
 have h0:¬ ((n:Int) < 0):=by omega
 have h1:min n kd.bits=n:=by omega
 simp [execOp,eqGuard,binOp,Op.shift,H.ev hx,H.ev hy,h0,h1]
theorem aaS {x y:Operand} {t yt:TypeId} {kd ky:IntKind} {p q:Int} (n:Nat) (H:St N D w0 F G0 G L T a w) (hw:Region.wanted ⟨some d,.binOp .shr t x y yt,ty,pos,aU,g⟩ (yielded ops a.tmps)=true) (hx:ev T x=some (.int kd p)) (hy:ev T y=some (.int ky q)) (hq:q=(n:Int)) (hn:n≤kd.bits) (hd:Nat.blt d N=true)
  (k:∀ a',St N D w0 F G0 G L ((d,.int kd (p.fdiv (2 ^ n))) :: T) a' w→WL r P ops Q rest a' w):WL r P ops Q (⟨some d,.binOp .shr t x y yt,ty,pos,aU,g⟩ :: rest) a w:=by
 subst hq
 refine gZ (v:=.int kd (p.fdiv (2 ^ n))) (w':=w) hw rfl ?_ (k _ (H.put hd _ H.hp))
 have h0:¬ ((n:Int) < 0):=by omega
 have h1:min n kd.bits=n:=by omega
 simp [execOp,eqGuard,binOp,Op.shift,H.ev hx,H.ev hy,h0,h1]
theorem JZ {x:Operand} {t u:TypeId} {kd ks:IntKind} {p:Int} {su:TypeDesc} (z:Int) (hu:P.underlying u=some (.int kd)) (ht:P.underlying t=some su) (H:St N D w0 F G0 G L T a w) (hw:Region.wanted ⟨some d,.convert t u x,ty,pos,aU,g⟩ (yielded ops a.tmps)=true) (hx:ev T x=some (.int ks p)) (hz:kd.wrap p=z) (hd:Nat.blt d N=true)
  (k:∀ a',St N D w0 F G0 G L ((d,.int kd z) :: T) a' w→WL r P ops Q rest a' w):WL r P ops Q (⟨some d,.convert t u x,ty,pos,aU,g⟩ :: rest) a w:=by
 refine gZ (v:=.int kd z) (w':=w) hw rfl ?_ (k _ (H.put hd _ H.hp))
 simp [execOp,convert,rT hu,rT ht,H.ev hx,eT,Conv.intToInt,hz]
theorem qC {x y:Operand} {t:TypeId} {s:ByteArray} {kd:IntKind} {z:Int} (i:Nat) (ht:P.underlying t=some .string) (H:St N D w0 F G0 G L T a w) (hw:Region.wanted ⟨some d,.index t x y,ty,pos,aU,g⟩ (yielded ops a.tmps)=true) (hx:ev T x=some (.string s)) (hy:ev T y=some (.int kd z)) (hz:z=(i:Int)) (hi:i < s.size) (hd:Nat.blt d N=true)
  (k:∀ a',St N D w0 F G0 G L ((d,.int .u8 (s[i].toNat:Int)) :: T) a' w→WL r P ops Q rest a' w):WL r P ops Q (⟨some d,.index t x y,ty,pos,aU,g⟩ :: rest) a w:=by
 subst hz
 refine gZ (v:=.int .u8 (s[i].toNat:Int)) (w':=w) hw rfl ?_ (k _ (H.put hd _ H.hp))
 simp [execOp,Instr.index,asIntOf,rT ht,H.ev hx,H.ev hy,eT,hi]
theorem aaN {x:Operand} {t e:TypeId} {A:Option Addr} {n c:Nat} (hs:P.underlying t=some (.slice e)) (H:St N D w0 F G0 G L T a w) (hw:Region.wanted ⟨some d,.call { callee:=.builtin .len,args:=#[x],argTypes:=#[t] },ty,pos,aU,g⟩ (yielded ops a.tmps)=true) (hx:ev T x=some (.slice A n c)) (hd:Nat.blt d N=true)
  (k:∀ a',St N D w0 F G0 G L ((d,.int .i64 n) :: T) a' w→WL r P ops Q rest a' w):WL r P ops Q (⟨some d,.call { callee:=.builtin .len,args:=#[x],argTypes:=#[t] },ty,pos,aU,g⟩ :: rest) a w :=
 gZ (v:=.int .i64 n) (w':=w) hw rfl (by simp [execOp,resolve,invoke,builtin,Builtin.len_,H.ev hx,eT,rT hs,goInt]) (k _ (H.put hd _ H.hp))
theorem BU {x:Operand} {t:TypeId} {s:ByteArray} (hs:P.underlying t=some .string) (H:St N D w0 F G0 G L T a w) (hw:Region.wanted ⟨some d,.call { callee:=.builtin .len,args:=#[x],argTypes:=#[t] },ty,pos,aU,g⟩ (yielded ops a.tmps)=true) (hx:ev T x=some (.string s)) (hd:Nat.blt d N=true)
  (k:∀ a',St N D w0 F G0 G L ((d,.int .i64 s.size) :: T) a' w→WL r P ops Q rest a' w):WL r P ops Q (⟨some d,.call { callee:=.builtin .len,args:=#[x],argTypes:=#[t] },ty,pos,aU,g⟩ :: rest) a w :=
 gZ (v:=.int .i64 s.size) (w':=w) hw rfl (by simp [execOp,resolve,invoke,builtin,Builtin.len_,H.ev hx,eT,rT hs,goInt]) (k _ (H.put hd _ H.hp))
theorem FD {x y:Operand} {t t':TypeId} {kd:IntKind} {p q:Int} (H:St N D w0 F G0 G L T a w) (hw:Region.wanted ⟨some d,.call { callee:=.builtin .max,args:=#[x,y],argTypes:=#[t,t'] },ty,pos,aU,g⟩ (yielded ops a.tmps)=true) (hx:ev T x=some (.int kd p)) (hy:ev T y=some (.int kd q)) (hd:Nat.blt d N=true)
  (k:∀ a',St N D w0 F G0 G L ((d,.int kd (max p q)) :: T) a' w→WL r P ops Q rest a' w):WL r P ops Q (⟨some d,.call { callee:=.builtin .max,args:=#[x,y],argTypes:=#[t,t'] },ty,pos,aU,g⟩ :: rest) a w:=by
 refine gZ (v:=.int kd (max p q)) (w':=w) hw rfl ?_ (k _ (H.put hd _ H.hp))
 have e:(if q > p then q else p)=max p q:=by omega
 simp [execOp,resolve,invoke,builtin,Builtin.max_,Builtin.max2,H.ev hx,H.ev hy,eT,e]
theorem PZ {x y:Operand} {t t':TypeId} {kd:IntKind} {p q:Int} (H:St N D w0 F G0 G L T a w) (hw:Region.wanted ⟨some d,.call { callee:=.builtin .min,args:=#[x,y],argTypes:=#[t,t'] },ty,pos,aU,g⟩ (yielded ops a.tmps)=true) (hx:ev T x=some (.int kd p)) (hy:ev T y=some (.int kd q)) (hd:Nat.blt d N=true)
  (k:∀ a',St N D w0 F G0 G L ((d,.int kd (min p q)) :: T) a' w→WL r P ops Q rest a' w):WL r P ops Q (⟨some d,.call { callee:=.builtin .min,args:=#[x,y],argTypes:=#[t,t'] },ty,pos,aU,g⟩ :: rest) a w:=by
 refine gZ (v:=.int kd (min p q)) (w':=w) hw rfl ?_ (k _ (H.put hd _ H.hp))
 have e:(if q < p then q else p)=min p q:=by omega
 simp [execOp,resolve,invoke,builtin,Builtin.min_,Builtin.min2,H.ev hx,H.ev hy,eT,e]
def bJ (w:World) (G:GH) (R:ak→GH→Prop):Ending→World→Prop:=fun e w'=>∃ v G',e=.returned v∧Below w.heap.size w w'∧Ext w.heap.size G G' w'∧R v G'
def Hold (G:GH) (w:World):Prop:=∀ k o,G k=some o→w.heap[k]?=some o
theorem s_call {f:FuncId} {xs:List Operand} {vs:List ak} {ts:Array TypeId} {R:ak→GH→Prop} (en:∀ args w,(callFunc f args).run P w=.ok (.enter f args) w) (H:St N D w0 F G0 G L T a w) (hw:Region.wanted ⟨some d,.call { callee:=.value (.func f),args:=xs.toArray,argTypes:=ts },ty,pos,aU,g⟩ (yielded ops a.tmps)=true)
  (hx:evs T xs=some vs) (hc:Calls P f vs.toArray w (bJ w G R)) (hd:Nat.blt d N=true)
  (k:∀ v G' a' w',R v G'→(∀ k o,G k=some o→G' k=some o)→St N D w0 F G0 G' L ((d,v) :: T) a' w'→WL r P ops Q rest a' w'):WL r P ops Q (⟨some d,.call { callee:=.value (.func f),args:=xs.toArray,argTypes:=ts },ty,pos,aU,g⟩ :: rest) a w:=by
 refine Qk (nx:=.ok (.enter f vs.toArray) w) (R:=bJ w G R) hw rfl ?_ hc ?_
 ·have h1:=H.evs hx
  simp [execOp,resolve,Act.eval,Deferred.ofValue,invoke,eT,h1,en]
 ·rintro e w' ⟨v,G',rfl,hb,hX,hR⟩
  exact ⟨v,rfl,k v G' _ w' hR hX.1 (H.put hd v (H.hp.WO hb hX))⟩
theorem aS {x y:Code} (h:∀ K:Act→World→Prop,(∀ a w,WP r P y Q a w→K a w)→WP r P x (Exit.then K Q) a w):WP r P (.seq x y) Q a w:=wpIn_seq_k h
theorem nG {id:Nat} {l:List Oper} (h:WL r P l.toArray Q l a w):WP r P (.region id l.toArray false) Q a w:=wpIn_region_lit h
theorem dw {id:Nat} {l:List Oper} {y:Code} (h:∀ K:Act→World→Prop,(∀ a w,WP r P y Q a w→WL r P l.toArray (Exit.then K Q) [] a w)→WL r P l.toArray (Exit.then K Q) l a w):WP r P (.seq (.region id l.toArray false) y) Q a w:=aS fun K hK=>nG (h K fun a w h=>aH (hK a w h))
theorem fu (h:Q .normal a w):WP r P .skip Q a w:=wpIn_skip h
theorem dR (h:Q .ret a w):WP r P .ret Q a w:=wpIn_ret h
theorem dW {id:Nat} (h:Q (.exit id) a w):WP r P (.exit id) Q a w:=wpIn_exit h
theorem vC {id:Nat} {c:Code} (h:WP r P c (Exit.inBlock id Q) a w):WP r P (.block id c) Q a w:=wpIn_block h
theorem jX {c:Operand} {x y:Code} {b:Bool} (H:St N D w0 F G0 G L T a w) (hc:ev T c=some (.bool b)) (h1:b=true→WP r P x Q a w) (h0:b=false→WP r P y Q a w):WP r P (.cond c x y) Q a w :=
 wpIn_cond_split (H.ev hc) h1 h0
theorem yV {c:Operand} {x y:Code} {b:Bool} (H:St N D w0 F G0 G L T a w) (hc:ev T c=some (.bool b)) (hb:b=true) (h1:WP r P x Q a w):WP r P (.cond c x y) Q a w :=
 wpIn_cond_true (by rw [H.ev hc,hb]) h1
theorem om {c:Operand} {x y:Code} {b:Bool} (H:St N D w0 F G0 G L T a w) (hc:ev T c=some (.bool b)) (hb:b=false) (h1:WP r P y Q a w):WP r P (.cond c x y) Q a w :=
 wpIn_cond_false (by rw [H.ev hc,hb]) h1
theorem WV {ι:Type} {c:Code} (I:ι→Act→World→Prop) (m:ι→Nat) (i0:ι) (h0:I i0 a w)
  (round:∀ i a w,I i a w→WP r P c (Exit.then (fun a' w'=>∃ i',I i' a' w'∧m i' < m i) Q) a w):WP r P (.loop c) Q a w:=by
 intro b k cs hro hb hr
 have key:∀ j i a w,m i=j→I i a w →
   ∃ e a' w',Q e a' w'∧ArrivesIn (Machine.fenced P (FW r)) P (lone (b.atR a (.code c :: .inLoop c :: k)) cs w) b k cs e a' w':=by
  intro j
  induction j using Nat.strongRecOn with
  | _ j ih =>
   intro i a w hn hI
   obtain ⟨e,a₁,w₁,hq,harr⟩:=round i a w hI b (.inLoop c :: k) cs hro hb hr
   cases e with
   | normal =>
    obtain ⟨i',hI₁,hlt⟩:=hq
    obtain ⟨e₂,a₂,w₂,hq₂,harr₂⟩:=ih (m i') (hn ▸ hlt) i' a₁ w₁ rfl hI₁
    exact ⟨e₂,a₂,w₂,hq₂,.of_steps (StepsIn.trans harr (.one (fenced_calm hb hr rfl) stepR_inLoop)) harr₂⟩
   | exit id=>exact ⟨_,a₁,w₁,hq,.pass (x:=.inLoop c) rfl (fun _ _=>.inl (by simp)) harr⟩
   | goto l=>exact ⟨_,a₁,w₁,hq,.pass (x:=.inLoop c) rfl (fun _ _=>.inl (by simp)) harr⟩
   | ret=>exact ⟨_,a₁,w₁,hq,.pass (x:=.inLoop c) rfl (fun _ _=>.inl (by simp)) harr⟩
   | panic ch=>exact ⟨_,a₁,w₁,hq,.pass (x:=.inLoop c) rfl (fun _ _=>.inl (by simp)) harr⟩
   | outgrown=>exact ⟨_,a₁,w₁,hq,.pass (x:=.inLoop c) rfl (fun _ _=>.inl (by simp)) harr⟩
 obtain ⟨e,a',w',hq,harr⟩:=key _ i0 a w rfl h0
 exact ⟨e,a',w',hq,.of_steps (.one (fenced_calm hb hr rfl) stepR_loop) harr⟩
theorem eH {ι:Type} {c:Code} {Tc:List (Nat × ak)} {Lc:List (Nat × Obj)} (Tv:ι→List (Nat × ak)) (Lv:ι→List (Nat × Obj)) (Gv:ι→GH) (Pr:ι→Prop) (m:ι→Nat) (i0:ι)
  (H:St N D w0 F G0 (Gv i0) (Lc++Lv i0) (Tv i0++Tc) a w) (hP:Pr i0)
  (round:∀ i a w,Pr i→St N D w0 F G0 (Gv i) (Lc++Lv i) (Tv i++Tc) a w →
   WP r P c (Exit.then (fun a' w'=>∃ i',(St N D w0 F G0 (Gv i') (Lc++Lv i') (Tv i'++Tc) a' w'∧Pr i')∧m i' < m i) Q) a w):WP r P (.loop c) Q a w :=
 WV (fun i a w=>St N D w0 F G0 (Gv i) (Lc++Lv i) (Tv i++Tc) a w∧Pr i) m i0 ⟨H,hP⟩ fun i a w hI=>round i a w hI.2 hI.1
theorem qL {ι:Type} {x y:Code} {Tc:List (Nat × ak)} {Lc Lr:List (Nat × Obj)} {Gh:GH} (Tv:ι→List (Nat × ak)) (Lv:ι→List (Nat × Obj)) (Gv:ι→GH) (Pr:ι→Prop)
  (_:St N D w0 F G0 Gh (Lc++Lr) Tc a w) (h1:WP r P x (Exit.then (fun a w=>∃ i,St N D w0 F G0 (Gv i) (Lc++Lv i) (Tv i++Tc) a w∧Pr i) Q) a w)
  (h2:∀ i a w,Pr i→St N D w0 F G0 (Gv i) (Lc++Lv i) (Tv i++Tc) a w→WP r P y Q a w):WP r P (.seq x y) Q a w :=
 wpIn_seq (wpIn_mono h1 fun e a w h=>by
  cases e with
  | normal=>obtain ⟨i,H,hP⟩:=h;exact h2 i a w hP H
  | _=>exact h)
theorem dK {ι:Type} {Tc:List (Nat × ak)} {Lc:List (Nat × Obj)} {Tv:ι→List (Nat × ak)} {Lv:ι→List (Nat × Obj)} {Gv:ι→GH} {Pr:ι→Prop} {m:ι→Nat} {i:ι} (i':ι)
  (H:St N D w0 F G0 (Gv i') (Lc++Lv i') (Tv i'++Tc) a w) (hP:Pr i') (hm:m i' < m i) :
  ∃ i',(St N D w0 F G0 (Gv i') (Lc++Lv i') (Tv i'++Tc) a w∧Pr i')∧m i' < m i:=⟨i',⟨H,hP⟩,hm⟩
def GI:Nat→List ak→List (Nat × ak)
 | _,[]=>[]
 | i,v :: vs=>(i,v) :: GI (i+1) vs
theorem enters {f:FuncId} {fn:Func} {c:Code} (hf:P.funcs[f]?=some fn) (hb:fn.body=some c) (hname:(fn.name == "runtime.NumGoroutine")=false) (args:Array ak) (w:World):(callFunc f args).run P w=.ok (.enter f args) w:=by
 have h1:fn.name ≠ "runtime.NumGoroutine":=by simpa using hname
 simp [callFunc,hf,h1,hb,mark]
theorem enter {f:FuncId} {fn:Func} {c:Code} {vs:List ak} {R:Ending→World→Prop} (hf:P.funcs[f]?=some fn) (hb:fn.body=some c) (hN:fn.ntmps=N) (hle:Nat.ble vs.length N=true)
  (hT:GI 0 vs=T) (hG:Hold G w) (hF:∀ k,F k→k < w.heap.size) (hL:∀ p∈L,w.heap[p.1]?=some p.2) (hLG:∀ p∈L,G p.1=none) (hLF:∀ p∈L,¬ F p.1) (hnd:L.Pairwise fun p q=>p.1≠q.1)
  (h:∀ a,St N [] w F G G L T a w→WP none P c (bodyPostM (FW none) 0 P fn R) a w):Calls P f vs.toArray w R:=by
 refine acW (r:=none) (n:=0) (callsIn_of_wp_marks hf hb trivial (h _ ⟨?_,?_,rfl,⟨rfl,rfl,rfl,dJ _,hF,fun _ _=>rfl,hG,fun _ _ h=>h,fun _ _ h=>.inl h,hL,hLG,hLF,hnd⟩⟩) rfl)
 ·have:=Nat.le_of_ble_eq_true hle
  simp [hN];omega
 ·intro t v ht
  have hlen:t < vs.length∧vs[t]?=some v:=by
   subst hT
   have key:∀ (vs:List ak) (s:Nat),lk (GI s vs) t=some v→s≤t∧vs[t - s]?=some v:=by
    intro vs
    induction vs with
    | nil=>intro s h;simp [GI,lk] at h
    | cons u vs ih =>
     intro s h
     simp only [GI] at h
     by_cases e:s=t
     ·subst e;rw [yB] at h;simpa using h
     ·rw [wZ e] at h
      obtain ⟨h1,h2⟩:=ih (s+1) h
      refine ⟨by omega,?_⟩
      have:t - s=(t - (s+1))+1:=by omega
      rw [this];simpa using h2
   have:=key vs 0 ht
   simp only [iF,Nat.sub_zero,true_and] at this
   exact ⟨(mq.1 this).1,this⟩
  rw [Array.getElem?_append_left (by simpa using hlen.1)]
  simpa using hlen.2
def JX (tmps:Array ak):ResultVar→Sem ak
 | .tmp t=>pure (tmps.getD t undef)
 | .cell a t=>do loadVar t (← asAddr (tmps.getD a undef))
def RV (P:Program) (w:World) (tmps:Array ak) (rv:ResultVar) (v:ak):Prop:=(JX tmps rv).run P w=.ok v w
theorem bM (H:St N D w0 F G0 G L T a w) {t:Nat} {v:ak} (h:lk T t=some v):RV P w a.tmps (.tmp t) v:=by
 have:=H.ev (x:=.tmp t) h
 simp only [Act.eval] at this
 simp [RV,JX,this]
theorem BS {t:TypeId} {sz bytes:Nat} {zero:List ak} (ht:Ty P t sz bytes zero true) (H:St N D w0 F G0 G L T a w) {s b o:Nat} {cs:List ak} (h:lk T s=some (.pointer (some ⟨b,o,none⟩))) (hl:cs.length=sz) (hc:∀ j v,cs[j]?=some v→w.cell? ⟨b,o+j,none⟩=some v) :
  RV P w a.tmps (.cell s t) (.agg cs.toArray):=by
 have:=H.ev (x:=.tmp s) h
 simp only [Act.eval] at this
 have h1:=run_loadCells (P:=P) b w cs o 0 #[] (fun j v hj=>by simpa using hc j v hj)
 simp only [Array.empty_append,hl] at h1
 simp [RV,JX,this,asAddr,loadVar,eT,ht.PU,ht.FC,loadCells,h1]
theorem BR {t:TypeId} {sz bytes:Nat} {zero:List ak} (ht:Ty P t sz bytes zero false) (H:St N D w0 F G0 G L T a w) {s b o:Nat} {v:ak} (h:lk T s=some (.pointer (some ⟨b,o,none⟩))) (hc:w.cell? ⟨b,o,none⟩=some v) :
  RV P w a.tmps (.cell s t) v:=by
 have:=H.ev (x:=.tmp s) h
 simp only [Act.eval] at this
 simp only [RV,JX,this,asAddr,loadVar,eT,ht.PU,nC,uq,mD,if_false,U7 hc]
inductive EM (P:Program) (w:World) (tmps:Array ak):List ResultVar→List ak→Prop
 | nil:EM P w tmps [] []
 | cons {rv rs v vs}:RV P w tmps rv v→EM P w tmps rs vs→EM P w tmps (rv :: rs) (v :: vs)
def UG:List ak→ak
 | [v]=>v
 | vs=>.tuple vs.toArray
theorem amk {fn:Func} {rs:List ResultVar} {vs:List ak} {tmps:Array ak} (hr:fn.results=rs.toArray) (h:EM P w tmps rs vs):(results fn tmps).run P w=.ok (UG vs) w:=by
 have hm:∀ {rs:List ResultVar} {vs:List ak},EM P w tmps rs vs→(rs.mapM (JX tmps)).run P w=.ok vs w:=by
  intro rs vs h
  induction h with
  | nil=>simp
  | cons h1 _ ih =>
   unfold RV at h1
   simp only [List.mapM_cons,eT,h1,nC,ih,uq]
 have hm':=hm h
 have hres:results fn tmps=(do let vs ← fn.results.mapM (JX tmps);pure (if h:vs.size=1 then vs[0] else .tuple vs)):=rfl
 rw [hres,hr,Array.mapM_eq_mapM_toList]
 simp only [map_eq_pure_bind,eT,hm',nC,uq]
 match vs with
 | []=>rfl
 | [v]=>rfl
 | v :: u :: vs=>simp [UG]
theorem leave {fn:Func} {rs:List ResultVar} {vs:List ak} {R:Ending→World→Prop} (v:ak) (H:St N [] w0 F G0 G L T a w) (hr:fn.results=rs.toArray) (h:EM P w a.tmps rs vs) (hv:UG vs=v) (hR:R (.returned v) w) :
  bodyPostM (FW none) 0 P fn R .ret a w∧bodyPostM (FW none) 0 P fn R .normal a w:=by
 subst hv
 have h1:LeavesInM (FW none) 0 P fn a.tmps R a.defers .returning w:=by
  rw [H.uH]
  exact ⟨_,amk hr h,hR⟩
 exact ⟨h1,h1⟩
theorem leave0 {fn:Func} {R:Ending→World→Prop} (H:St N [] w0 F G0 G L T a w) (hr:fn.results=#[]) (hR:R (.returned (.tuple #[])) w) :
  bodyPostM (FW none) 0 P fn R .ret a w∧bodyPostM (FW none) 0 P fn R .normal a w:=leave (rs:=[]) _ H hr .nil rfl hR
theorem leave1 {fn:Func} {rs:List ResultVar} {v:ak} {R:Ending→World→Prop} (H:St N [] w0 F G0 G L T a w) (hr:fn.results=rs.toArray) (h:EM P w a.tmps rs [v]) (hR:R (.returned v) w) :
  bodyPostM (FW none) 0 P fn R .ret a w∧bodyPostM (FW none) 0 P fn R .normal a w:=leave _ H hr h rfl hR
theorem iB {fn:Func} {rs:List ResultVar} {v u:ak} {vs:List ak} {R:Ending→World→Prop} (H:St N [] w0 F G0 G L T a w) (hr:fn.results=rs.toArray) (h:EM P w a.tmps rs (v :: u :: vs)) (hR:R (.returned (.tuple (v :: u :: vs).toArray)) w) :
  bodyPostM (FW none) 0 P fn R .ret a w∧bodyPostM (FW none) 0 P fn R .normal a w:=leave _ H hr h rfl hR
theorem Hp.ret {R:ak→GH→Prop} {v:ak} (h:Hp w0 (fun k=>k < w0.heap.size) G0 G L w) (hR:R v G):bJ w0 G0 R (.returned v) w :=
 ⟨v,G,rfl,⟨h.os,h.tape,h.output,h.size,h.fr⟩,⟨h.gm,fun k o hk=>(h.gx k o hk).imp id (fun hn=>Nat.le_of_not_lt hn),h.ro⟩,hR⟩
end steps
end
section
open Go.RowKit
abbrev OL:=List (Nat × Obj)
structure ig (G:GH) (L:OL) (w:World):Prop where
 ro:Hold G w
 own:∀ p∈L,w.heap[p.1]?=some p.2
 sep:∀ p∈L,G p.1=none
 nd:L.Pairwise fun p q=>p.1≠q.1
structure Change (w w':World) (G G':GH) (L L':OL):Prop where
 os:w'.os=w.os
 tape:w'.tape=w.tape
 output:w'.output=w.output
 size:w.heap.size≤w'.heap.size
 fr:∀ k,k < w.heap.size→(∀ p∈L,p.1≠k)→w'.heap[k]?=w.heap[k]?
 gm:∀ k o,G k=some o→G' k=some o
 gx:∀ k o,G' k=some o→G k=some o∨w.heap.size≤k∨∃ p∈L,p.1=k
 owns:ig G' L' w'
 lx:∀ p∈L',w.heap.size≤p.1∨∃ q∈L,q.1=p.1
def Fr (w:World) (L0:OL):Nat→Prop:=fun k=>k < w.heap.size∧∀ p∈L0,p.1≠k
section
variable {N:Nat} {D:List Deferred} {w0 w w':World} {F:Nat→Prop} {G0 G G':GH} {L L' Li L0:OL} {T:List (Nat × ak)} {a:Act}
theorem Hp.owns (h:Hp w0 F G0 G (Li++L) w):ig G L w :=
 ⟨h.ro,fun p hp=>h.own p (List.mem_append_right _ hp),fun p hp=>h.tY p (List.mem_append_right _ hp),(List.pairwise_append.1 h.nd).2.1⟩
theorem Hp.change (h:Hp w0 F G0 G (Li++L) w) (hc:Change w w' G G' L L'):Hp w0 F G0 G' (Li++L') w':=by
 have hnd:=List.pairwise_append.1 h.nd
 have Sk:∀ k,F k→k < w.heap.size:=fun k hk=>Nat.lt_of_lt_of_le (h.wO k hk) h.size
 have CK:∀ p∈Li,p.1 < w.heap.size∧∀ q∈L,q.1≠p.1:=fun p hp=>⟨lt_of_heap (h.own p (List.mem_append_left _ hp)),fun q hq e=>hnd.2.2 p hp q hq e.symm⟩
 refine ⟨hc.os.trans h.os,hc.tape.trans h.tape,hc.output.trans h.output,Nat.le_trans h.size hc.size,h.wO,fun k hk=>?_,hc.owns.ro,fun k o hk=>hc.gm k o (h.gm k o hk),fun k o hk=>?_,fun p hp=>?_,fun p hp=>?_,fun p hp=>?_,?_⟩
 ·exact (hc.fr k (Sk k hk) fun p hp e=>h.uV p (List.mem_append_right _ hp) (e ▸ hk)).trans (h.fr k hk)
 ·rcases hc.gx k o hk with hk|hk|⟨p,hp,rfl⟩
  ·exact h.gx k o hk
  ·exact .inr fun hf=>absurd (Sk k hf) (by omega)
  ·exact .inr (h.uV p (List.mem_append_right _ hp))
 ·rcases AZ.1 hp with hp|hp
  ·exact (hc.fr _ (CK p hp).1 (CK p hp).2).trans (h.own p (List.mem_append_left _ hp))
  ·exact hc.owns.own p hp
 ·rcases AZ.1 hp with hp|hp
  ·cases hg:G' p.1 with
   | none=>rfl
   | some o =>
    rcases hc.gx _ o hg with hk|hk|⟨q,hq,e⟩
    ·rw [h.tY p (List.mem_append_left _ hp)] at hk;cases hk
    ·exact absurd (CK p hp).1 (by omega)
    ·exact absurd e ((CK p hp).2 q hq)
  ·exact hc.owns.sep p hp
 ·rcases AZ.1 hp with hp|hp
  ·exact h.uV p (List.mem_append_left _ hp)
  ·rcases hc.lx p hp with hk|⟨q,hq,e⟩
   ·exact fun hf=>absurd (Sk _ hf) (by omega)
   ·exact e ▸ h.uV q (List.mem_append_right _ hq)
 ·refine List.pairwise_append.2 ⟨hnd.1,hc.owns.nd,fun p hp q hq e=>?_⟩
  rcases hc.lx q hq with hk|⟨q',hq',e'⟩
  ·have:=(CK p hp).1;omega
  ·exact (CK p hp).2 q' hq' (e'.trans e.symm)
theorem Hp.abu (h:Hp w0 (Fr w0 L0) G0 G L w):Change w0 w G0 G L0 L:=by
 have hn:∀ k,¬ Fr w0 L0 k→w0.heap.size≤k∨∃ p∈L0,p.1=k:=by
  intro k hk
  by_cases hlt:k < w0.heap.size
  ·right
   apply Classical.byContradiction
   intro hno
   exact hk ⟨hlt,fun p hp e=>hno ⟨p,hp,e⟩⟩
  ·exact .inl (by omega)
 exact ⟨h.os,h.tape,h.output,h.size,fun k h1 h2=>h.fr k ⟨h1,h2⟩,h.gm,fun k o hk=>(h.gx k o hk).imp id (hn k),⟨h.ro,h.own,h.tY,h.nd⟩,fun p hp=>hn _ (h.uV p hp)⟩
theorem ig.hp (h:ig G L w):Hp w (Fr w L) G G L w :=
 ⟨rfl,rfl,rfl,dJ _,fun _ hk=>hk.1,fun _ _=>rfl,h.ro,fun _ _ h=>h,fun _ _ h=>.inl h,h.own,h.sep,fun p hp hf=>hf.2 p hp rfl,h.nd⟩
theorem Change.trans {w2:World} {G2:GH} {L2:OL} (h1:Change w w' G G' L L') (h2:Change w' w2 G' G2 L' L2) (hG:Hold G w) (hL:∀ p∈L,p.1 < w.heap.size):Change w w2 G G2 L L2:=by
 refine ⟨h2.os.trans h1.os,h2.tape.trans h1.tape,h2.output.trans h1.output,Nat.le_trans h1.size h2.size,fun k hk hn=>?_,fun k o hk=>h2.gm k o (h1.gm k o hk),fun k o hk=>?_,h2.owns,fun p hp=>?_⟩
 ·refine (h2.fr k (Nat.lt_of_lt_of_le hk h1.size) fun p hp e=>?_).trans (h1.fr k hk hn)
  rcases h1.lx p hp with hk'|⟨q,hq,e'⟩
  ·omega
  ·exact hn q hq (e'.trans e)
 ·rcases h2.gx k o hk with hk|hk|⟨p,hp,rfl⟩
  ·exact h1.gx k o hk
  ·exact .inr (.inl (Nat.le_trans h1.size hk))
  ·rcases h1.lx p hp with hk'|⟨q,hq,e'⟩
   ·exact .inr (.inl hk')
   ·exact .inr (.inr ⟨q,hq,e'⟩)
 ·rcases h2.lx p hp with hk|⟨q,hq,e⟩
  ·exact .inl (Nat.le_trans h1.size hk)
  ·rcases h1.lx q hq with hk'|⟨q',hq',e'⟩
   ·exact .inl (e ▸ hk')
   ·exact .inr ⟨q',hq',e'.trans e⟩
theorem Hp.perm (h:Hp w0 F G0 G L w) (hp:L.Perm L'):Hp w0 F G0 G L' w :=
 ⟨h.os,h.tape,h.output,h.size,h.wO,h.fr,h.ro,h.gm,h.gx,fun p hq=>h.own p (hp.mem_iff.2 hq),fun p hq=>h.tY p (hp.mem_iff.2 hq),fun p hq=>h.uV p (hp.mem_iff.2 hq),(hp.pairwise_iff (fun {x y} (h:x.1≠y.1) e=>h e.symm)).1 h.nd⟩
theorem St.perm (h:St N D w0 F G0 G L T a w) (hp:L.Perm L'):St N D w0 F G0 G L' T a w:=⟨h.og,h.get,h.uH,h.hp.perm hp⟩
def gy (w:World) (G:GH) (L:OL) (R:ak→GH→OL→Prop):Ending→World→Prop:=fun e w'=>∃ v G' L',e=.returned v∧Change w w' G G' L L'∧R v G' L'
theorem Hp.eB {R:ak→GH→OL→Prop} {v:ak} (h:Hp w0 (Fr w0 L0) G0 G L w) (hR:R v G L):gy w0 G0 L0 R (.returned v) w:=⟨v,G,L,rfl,h.abu,hR⟩
end
section steps
variable {N:Nat} {D:List Deferred} {w0:World} {F:Nat→Prop} {G0 G:GH} {L Li L0:OL} {T:List (Nat × ak)}
variable {r:Option Nat} {P:Program} {ops:Array Oper} {Q:Exit→Act→World→Prop} {rest:List Oper} {a:Act} {w:World}
variable {d:Nat} {ty:TypeId} {pos:String} {aU:Array Edge} {g:Option (Nat × Bool)}
theorem mF {f:FuncId} {caps args:List ak} {R:Ending→World→Prop} (en:∀ args w,(callFunc f args).run P w=.ok (.enter f args) w) (h:Calls P f (args++caps).toArray w R):xB P (.func (.func f) #[] caps.toArray) args w R:=by
 refine ⟨?_⟩
 have e:(do let d ← Deferred.ofValue (.func (.func f) #[] caps.toArray) args.toArray;invoke d.target d.args:Sem Next).run P w=.ok (.enter f (args++caps).toArray) w:=by
  simp [Deferred.ofValue,eT,invoke,en]
 rw [e]
 exact h
theorem yG {x:Operand} {fv:ak} {xs:List Operand} {vs:List ak} {ts:Array TypeId} {R:ak→GH→OL→Prop} (H:St N D w0 F G0 G (Li++L) T a w) (hw:Region.wanted ⟨some d,.call { callee:=.value x,args:=xs.toArray,argTypes:=ts },ty,pos,aU,g⟩ (yielded ops a.tmps)=true)
  (hf:ev T x=some fv) (hx:evs T xs=some vs) (hc:xB P fv vs w (gy w G L R)) (hd:Nat.blt d N=true)
  (k:∀ v G' L' a' w',R v G' L'→(∀ k o,G k=some o→G' k=some o)→St N D w0 F G0 G' (Li++L') ((d,v) :: T) a' w'→WL r P ops Q rest a' w'):WL r P ops Q (⟨some d,.call { callee:=.value x,args:=xs.toArray,argTypes:=ts },ty,pos,aU,g⟩ :: rest) a w:=by
 refine Qk (nx:=_) (R:=gy w G L R) hw rfl rfl ?_ ?_
 ·have h1:=H.evs hx
  have e:(execOp a.eval ⟨some d,.call { callee:=.value x,args:=xs.toArray,argTypes:=ts },ty,pos,aU,g⟩)=(do let d ← Deferred.ofValue fv vs.toArray;invoke d.target d.args:Sem Next):=by
   simp only [execOp,resolve,H.ev hf,List.map_toArray,h1]
  rw [e]
  exact hc.go
 ·rintro e w' ⟨v,G',L',rfl,hb,hR⟩
  exact ⟨v,rfl,k v G' L' _ w' hR hb.gm (H.put hd v (H.hp.change hb))⟩
theorem gB {f:FuncId} {xs:List Operand} {vs:List ak} {ts:Array TypeId} {R:ak→GH→OL→Prop} (en:∀ args w,(callFunc f args).run P w=.ok (.enter f args) w) (H:St N D w0 F G0 G (Li++L) T a w) (hw:Region.wanted ⟨some d,.call { callee:=.value (.func f),args:=xs.toArray,argTypes:=ts },ty,pos,aU,g⟩ (yielded ops a.tmps)=true)
  (hx:evs T xs=some vs) (hc:Calls P f vs.toArray w (gy w G L R)) (hd:Nat.blt d N=true)
  (k:∀ v G' L' a' w',R v G' L'→(∀ k o,G k=some o→G' k=some o)→St N D w0 F G0 G' (Li++L') ((d,v) :: T) a' w'→WL r P ops Q rest a' w'):WL r P ops Q (⟨some d,.call { callee:=.value (.func f),args:=xs.toArray,argTypes:=ts },ty,pos,aU,g⟩ :: rest) a w:=by
 refine yG (fv:=.func (.func f) #[] #[]) H hw rfl hx ?_ hd k
 have h:=mF (caps:=[]) (args:=vs) en (by simpa using hc)
 exact h
abbrev AP:=List ak→GH→Prop
def yN (xs:List AP) (k:Nat) (args:List ak) (g:GH):Prop:=∃ p,xs[k]?=some p∧p args g
def Ew (P:Program) (fv:ak) (Gi:GH) (xs:List AP) (J:Nat→GH→OL→Prop) (Jx:GH→OL→Prop):Prop :=
 ∀ k args G L w,yN xs k args G→(∀ b o,Gi b=some o→G b=some o)→J k G L→ig G L w →
  xB P fv args w (gy w G L fun v G' L'=>∃ b,v=.bool b∧(b=true→J (k+1) G' L')∧(b=false→Jx G' L'))
def F4 (J:Nat→GH→OL→Prop):Prop:=∀ k (G G':GH) L,(∀ b o,G b=some o→G' b=some o)→J k G L→J k G' L
def GA (J:GH→OL→Prop):Prop:=∀ (G G':GH) L,(∀ b o,G b=some o→G' b=some o)→J G L→J G' L
def Iter (P:Program) (Gi:GH) (gv:ak) (xs:List AP):Prop :=
 ∀ (J:Nat→GH→OL→Prop) (Jx:GH→OL→Prop) (fv:ak) (G:GH) (L:OL) (w:World),fv.cells=#[fv]→(∀ b o,Gi b=some o→G b=some o)→F4 J→GA Jx→J 0 G L→ig G L w→Ew P fv G xs J Jx →
  xB P gv [fv] w (gy w G L fun _ G' L'=>J xs.length G' L'∨Jx G' L')
theorem Iter.mono {Gi EB:GH} {gv:ak} {xs:List AP} (h:Iter P Gi gv xs) (hm:∀ b o,Gi b=some o→EB b=some o):Iter P EB gv xs :=
 fun J Jx fv G L w h0 h1=>h J Jx fv G L w h0 fun b o hb=>h1 b o (hm b o hb)
def uD:List Nat→List ak→List (Nat × ak)→List (Nat × ak)
 | p :: ps,v :: vs,T=>uD ps vs ((p,v) :: T)
 | _,_,T=>T
theorem abm:∀ (ps:List Nat) (vs:List ak) (T:List (Nat × ak)) (tm:Array ak),tm.size=N→(∀ t v,lk T t=some v→tm[t]?=some v)→ps.all (Nat.blt · N)=true →
  ((ps.zip vs).foldl (fun t (x:Nat × ak)=>t.setIfInBounds x.1 x.2) tm).size=N∧∀ t v,lk (uD ps vs T) t=some v→((ps.zip vs).foldl (fun t (x:Nat × ak)=>t.setIfInBounds x.1 x.2) tm)[t]?=some v
 | [],_,T,tm,h1,h2,_=>⟨h1,by simpa [uD] using h2⟩
 | p :: ps,[],T,tm,h1,h2,_=>⟨h1,by simpa [uD] using h2⟩
 | p :: ps,v :: vs,T,tm,h1,h2,h3=>by
  simp only [List.all_cons,oF] at h3
  have hp:p < tm.size:=by rw [h1];exact Eq.mp Nat.blt_eq h3.1
  simp only [List.zip_cons_cons,List.foldl_cons,uD]
  refine abm ps vs _ _ (by simpa using h1) (fun t u ht=>?_) h3.2
  rw [Array.getElem?_setIfInBounds]
  by_cases e:p=t
  ·subst e;rw [yB] at ht;simp [hp];simpa using ht
  ·rw [wZ e] at ht;simp [e];exact h2 t u ht
structure Rec where
 fn:FuncId
 tmps:Array ak
 params:Array Tmp
 assign:Code
 body:Code
 defers:Nat
def Rec.at (q:Rec) (s:LoopState) (p:Option Code):Obj:=.loop { state:=s,pending:=p,fn:=q.fn,tmps:=q.tmps,params:=q.params,assign:=q.assign,body:=q.body,defers:=q.defers }
def VH (w1:World) (G:GH) (L:OL) (Jn:GH→OL→Prop) (Jx:GH→OL→Prop):Ending→World→Prop:=gy w1 G L fun v G' L'=>∃ b,v=.bool b∧(b=true→Jn G' L')∧(b=false→Jx G' L')
theorem FJ {b:Nat} {o:Obj} (o':Obj) (h:w.heap[b]?=some o):xH b o' w (w.putObj b o') :=
 ⟨rfl,rfl,rfl,World.putObj_size,World.putObj_heap_same (lt_of_heap h),fun _ hk=>World.putObj_heap_other hk⟩
theorem WS {l:Nat} {q:Rec} {c:Code} {R:Ending→World→Prop} (H:St N D w0 F G0 G ((l,q.at .ready none) :: L) T a w)
  (k:∀ w',St N D w0 F G0 G ((l,q.at .busy none) :: L) T a w'→WP (some l) P c (roundPost P l R) a w') :
  ∃ w₂,(Instr.beginRound l).run P w=.ok () w₂∧c.wpIn (FW (some l)) 0 P (roundPost P l R) a w₂:=by
 have hl:=H.hp.own _ (lW)
 refine ⟨_,run_beginRound hl rfl,k _ (H.move ?_)⟩
 exact H.hp.upd (i:=0) rfl (FJ _ hl)
theorem JU {l:Nat} {q:Rec} {w1:World} {G1:GH} {L1:OL} {Jn Jx:GH→OL→Prop} (jump:Option Code) (H:St N D w1 (Fr w1 L1) G1 G ((l,q.at .busy none) :: L) T a w)
  (h:match jump with|none=>Jn G ((l,q.at .ready none) :: L)|some c=>Jx G ((l,q.at .done (some c)) :: L)) :
  ∃ v w',(Instr.endRound l jump).run P w=.ok v w'∧VH w1 G1 L1 Jn Jx (.returned v) w':=by
 have hl:=H.hp.own _ (lW)
 refine ⟨_,_,run_endRound jump hl,?_⟩
 cases jump with
 | none=>exact Hp.eB (H.hp.upd (i:=0) rfl (FJ _ hl)) ⟨true,rfl,fun _=>h,fun e=>by cases e⟩
 | some c=>exact Hp.eB (H.hp.upd (i:=0) rfl (FJ _ hl)) ⟨false,rfl,fun e=>(by cases e),fun _=>h⟩
def Jr (l:Nat) (q:Rec) (bk:OL) (J:GH→OL→Prop):GH→OL→Prop:=fun G L=>∃ Lu,L=(l,q.at .ready none) :: (bk++Lu)∧J G Lu
def Nh (l:Nat) (q:Rec) (bk:OL) (Jx:Code→GH→OL→Prop):GH→OL→Prop:=fun G L=>∃ c Lu,L=(l,q.at .done (some c)) :: (bk++Lu)∧Jx c G Lu
def Qy (P:Program) (N:Nat) (ps:List Nat) (assign body:Code) (T:List (Nat × ak)) (G:GH) (J:Nat→GH→OL→Prop) (Jx:Code→GH→OL→Prop) (xs:List AP):Prop :=
 ∀ (l:Nat) (q:Rec) (bk:OL) (k:Nat) (args:List ak) (G1:GH) (L1:OL) (w1:World) (a1:Act),yN xs k args G1→(∀ b o,G b=some o→G1 b=some o)→J k G1 L1 →
  St N [] w1 (Fr w1 ((l,q.at .ready none) :: (bk++L1))) G1 G1 ((l,q.at .ready none) :: (bk++L1)) (uD ps args T) a1 w1 →
  WP (some l) P assign (Exit.then (fun a2 w2=>∃ w3,(Instr.beginRound l).run P w2=.ok () w3∧body.wpIn (FW (some l)) 0 P (roundPost P l (VH w1 G1 ((l,q.at .ready none) :: (bk++L1)) (Jr l q bk (J (k+1))) (Nh l q bk Jx))) a2 w3) (fun _ _ _=>False)) a1 w1
theorem WW {fn:FuncId} {tm:Array ak} {ps:List Nat} {assign body:Code} {df l:Nat} {bk:OL} {J:Nat→GH→OL→Prop} {Jx:Code→GH→OL→Prop} {xs:List AP} (h1:tm.size=N) (h2:∀ t v,lk T t=some v→tm[t]?=some v)
  (hps:ps.all (Nat.blt · N)=true) (hlen:∀ k args g,yN xs k args g→args.length=ps.length) (hr:Qy P N ps assign body T G J Jx xs) :
  Ew P (.func (.yield l) #[] #[]) G xs (fun k=>Jr l ⟨fn,tm,ps.toArray,assign,body,df⟩ bk (J k)) (Nh l ⟨fn,tm,ps.toArray,assign,body,df⟩ bk Jx):=by
 intro k args G1 L1 w1 hk hm hJ ho
 obtain ⟨Lu,rfl,hJ⟩:=hJ
 have hl:=ho.own _ (lW)
 have hargs:args.toArray.size=ps.toArray.size:=by simpa using hlen k args _ hk
 have hy:=run_yield (P:=P) (args:=args.toArray) hl hargs
 have hz:(ps.toArray.zip args.toArray).foldl (fun tmps (x:Nat × ak)=>tmps.setIfInBounds x.1 x.2) tm=(ps.zip args).foldl (fun t (x:Nat × ak)=>t.setIfInBounds x.1 x.2) tm:=by
  simp [List.zip_toArray]
 obtain ⟨z1,z2⟩:=abm ps args T tm h1 h2 hps
 refine ⟨?_⟩
 have e:(do let d ← Deferred.ofValue (.func (.yield l) #[] #[]) args.toArray;invoke d.target d.args:Sem Next).run P w1=.ok (.round l fn ((ps.zip args).foldl (fun t (x:Nat × ak)=>t.setIfInBounds x.1 x.2) tm) assign body) w1:=by
  simp only [Deferred.ofValue,pure_bind,invoke,Array.empty_append]
  rw [← hz]
  exact hy
 rw [e]
 refine roundIn_of_wpIn (F:=FW none) trivial ?_
 exact hr l _ bk k args G1 Lu w1 { tmps:=_,defers:=[] } hk hm hJ ⟨z1,z2,rfl,ho.hp⟩
theorem acT {Bl:Operand} {ps:List Nat} {assign body:Code} {gf:FuncId} {caps:List ak} {xs:List AP} {Gi:GH}
  (H:St N D w0 F G0 G L T a w) (hg:ev T Bl=some (.func (.func gf) #[] caps.toArray)) (en:∀ args w,(callFunc gf args).run P w=.ok (.enter gf args) w) (hit:Iter P Gi (.func (.func gf) #[] caps.toArray) xs) (hGi:∀ b o,Gi b=some o→G b=some o)
  (hps:ps.all (Nat.blt · N)=true) (hlen:∀ k args g,yN xs k args g→args.length=ps.length)
  (J:Nat→GH→OL→Prop) (Jx:Code→GH→OL→Prop) (nR:F4 J) (hJx:∀ c,GA (Jx c)) (h0:J 0 G L) (TT:Qy P N ps assign body T G J Jx xs)
  (hdone:∀ Dk G1 L1 a1 w1,(∀ b o,G b=some o→G1 b=some o)→J xs.length G1 L1→St N ({ target:=.collected Dk,args:=#[] } :: D) w0 F G0 G1 ((Dk,.deferred (some [])) :: L1) T a1 w1→Q .normal a1 w1)
  (hstop:∀ Dk c G1 L1 a1 w1,(∀ b o,G b=some o→G1 b=some o)→Jx c G1 L1→St N ({ target:=.collected Dk,args:=#[] } :: D) w0 F G0 G1 ((Dk,.deferred (some [])) :: L1) T a1 w1→WP none P c Q a1 w1) :
  WP none P (.rangeFunc Bl ps.toArray assign body) Q a w:=by
 refine wpIn_rangeFunc ?_
 intro fn _
 have hev:=H.ev hg
 let q:Rec:=⟨fn,a.tmps,ps.toArray,assign,body,w.heap.size⟩
 obtain ⟨W1,hW1⟩:∃ W1,W1=(w.alloc (.deferred (some []))).alloc (q.at .ready none):=⟨_,rfl⟩
 have H1:Hp w0 F G0 G ((w.heap.size+1,q.at .ready none) :: (w.heap.size,.deferred (some [])) :: L) W1:=by
  have:=(H.hp.alloc (.deferred (some []))).alloc (q.at .ready none)
  rw [World.size_alloc] at this
  rw [hW1];exact this
 refine ⟨w.heap.size+1,[{ target:=.collected w.heap.size,args:=#[] }],W1,{ target:=.fn (.func gf) caps.toArray,args:=#[.func (.yield (w.heap.size+1)) #[] #[]] },W1,gf,
  #[.func (.yield (w.heap.size+1)) #[] #[]]++caps.toArray,W1,by rw [hW1];exact run_enterLoop_outer fn a.tmps ps.toArray assign body,?_,fun _ _=>trivial,?_,Nf none,?_⟩
 ·simp only [resolve,rangeCall,hev]
  simp [Deferred.ofValue,Act.eval]
 ·simp [invoke,en]
 ·have hcv:=hit (fun k=>Jr (w.heap.size+1) q [(w.heap.size,.deferred (some []))] (J k)) (Nh (w.heap.size+1) q [(w.heap.size,.deferred (some []))] Jx) (.func (.yield (w.heap.size+1)) #[] #[]) G
   ((w.heap.size+1,q.at .ready none) :: (w.heap.size,.deferred (some [])) :: L) W1 rfl hGi (fun k G G' L hm ⟨Lu,e,h⟩=>⟨Lu,e,nR k G G' Lu hm h⟩) (fun G G' L hm ⟨c,Lu,e,h⟩=>⟨c,Lu,e,hJx c G G' Lu hm h⟩) ⟨L,rfl,h0⟩ (Hp.owns (Li:=[]) H1) (WW H.og H.get hps hlen TT)
  replace hcv:=hcv.go
  have e:(do let d ← Deferred.ofValue (.func (.func gf) #[] caps.toArray) [Value.func (.yield (w.heap.size+1)) #[] #[]].toArray;invoke d.target d.args:Sem Next).run P W1=.ok (.enter gf (#[.func (.yield (w.heap.size+1)) #[] #[]]++caps.toArray)) W1:=by
   simp [Deferred.ofValue,invoke,en]
  rw [e] at hcv
  refine (QK hcv).mono ?_
  rintro e w2 ⟨v,G2,L2,rfl,hch,hJ⟩
  have H2:=Hp.change (Li:=[]) H1 hch
  rcases hJ with ⟨Lu,rfl,hJ⟩|⟨c,Lu,rfl,hJ⟩
  ·have hl:=H2.own _ (lW)
   have H3:=(H2.upd (i:=0) rfl (FJ (q.at .exhausted none) hl)).drop (Co _ _)
   exact ⟨none,_,run_endLoop hl (by simp),hdone _ G2 Lu _ _ hch.gm hJ ⟨H.og,H.get,by simp [H.uH],H3⟩⟩
  ·have hl:=H2.own _ (lW)
   have H3:=(H2.upd (i:=0) rfl (FJ (q.at .exhausted (some c)) hl)).drop (Co _ _)
   exact ⟨some c,_,run_endLoop hl (by simp),hstop _ c G2 Lu _ _ hch.gm hJ ⟨H.og,H.get,by simp [H.uH],H3⟩⟩
theorem BO {fn:Func} {R:Ending→World→Prop} {b:Nat} (H:St N ({ target:=.collected b,args:=#[] } :: D) w0 F G0 G L T a w) (i:Nat) (hi:L[i]?=some (b,.deferred (some [])))
  (k:∀ a' w',St N D w0 F G0 G (L.eraseIdx i) T a' w'→bodyPostM (FW none) 0 P fn R .ret a' w'):bodyPostM (FW none) 0 P fn R .ret a w∧bodyPostM (FW none) 0 P fn R .normal a w:=by
 have hb:=H.hp.own _ (oD hi)
 have H2:=(H.hp.upd hi (FJ (.deferred none) hb)).drop (L':=L.eraseIdx i) (by
  have h1:(L.set i (b,.deferred none)).eraseIdx i=L.eraseIdx i:=by
   apply List.ext_getElem?
   intro j
   simp only [List.getElem?_eraseIdx,List.getElem?_set]
   split <;> split <;> first|rfl|omega
  rw [← h1];exact List.eraseIdx_sublist _ _)
 have hk:=k { a with defers:=D } _ ⟨H.og,H.get,rfl,H2⟩
 have h1:LeavesInM (FW none) 0 P fn a.tmps R a.defers .returning w:=by
  rw [H.uH]
  exact ⟨by simp,.inl ⟨b,_,rfl,run_takeDeferred hb,hk⟩⟩
 exact ⟨h1,h1⟩
theorem St.giveUp {b:Nat} {o:Obj} (h:St N D w0 F G0 G L T a w) (i:Nat) (hi:L[i]?=some (b,o)):St N D w0 F G0 (G.add b o) (L.eraseIdx i) T a w:=⟨h.og,h.get,h.uH,h.hp.giveUp i hi⟩
theorem St.Yl {b:Nat} {o:Obj} (h:St N D w0 F G0 G L T a w) (i:Nat) (hi:L[i]?=some (b,o)):G b=none:=h.hp.tY _ (oD hi)
theorem jB {f:FuncId} {fn:Func} {c:Code} {vs:List ak} {R:Ending→World→Prop} (hf:P.funcs[f]?=some fn) (hb:fn.body=some c) (hN:fn.ntmps=N) (hle:Nat.ble vs.length N=true)
  (hT:GI 0 vs=T) (ho:ig G L w) (h:∀ a,St N [] w (Fr w L) G G L T a w→WP none P c (bodyPostM (FW none) 0 P fn R) a w):Calls P f vs.toArray w R :=
 enter hf hb hN hle hT ho.ro (fun _ hk=>hk.1) ho.own ho.sep (fun p hp hf=>hf.2 p hp rfl) ho.nd h
end steps
end
section
open Go.RowKit
inductive Dat where
 | lf (v:ak)
 | sl (sz:Nat) (rows:List (List Dat))
mutual
def au (G:GH):Dat→ak→Prop
 | .lf u,v=>v=u∧Value.oneCell' u=true
 | .sl sz rows,v=>∃ A c,v=.slice A rows.length c∧rows.length≤c∧c≤maxLen∧(rows≠[]→∃ b o,A=some ⟨b,o,none⟩∧nL G sz b o rows)
def nL (G:GH) (sz b:Nat):Nat→List (List Dat)→Prop
 | _,[]=>True
 | o,r :: rs=>(∃ cs,cs.length=sz∧(∀ j v,cs[j]?=some v→aF G b (o+j)=some v)∧bH G r cs)∧nL G sz b (o+sz) rs
def bH (G:GH):List Dat→List ak→Prop
 | [],cs=>cs=[]
 | d :: ds,cs=>∃ v vs,cs=v :: vs∧au G d v∧bH G ds vs
end
theorem ay {G G':GH} (hm:∀ k o,G k=some o→G' k=some o) {b o:Nat} {v:ak} (h:aF G b o=some v):aF G' b o=some v:=by
 unfold aF at h ⊢
 cases hg:G b with
 | none=>rw [hg] at h;cases h
 | some ob=>rw [hg] at h;rw [hm b ob hg];exact h
mutual
theorem au.mono {G G':GH} (hm:∀ k o,G k=some o→G' k=some o):∀ {d:Dat} {v:ak},au G d v→au G' d v
 | .lf u,v,h=>by simpa [au] using h
 | .sl sz rows,v,h=>by
  simp only [au] at h ⊢
  obtain ⟨A,c,h1,h2,h3,h4⟩:=h
  exact ⟨A,c,h1,h2,h3,fun hn=>let ⟨b,o,e,hr⟩:=h4 hn;⟨b,o,e,nL.mono hm hr⟩⟩
theorem nL.mono {G G':GH} (hm:∀ k o,G k=some o→G' k=some o) {sz b:Nat}:∀ {rows:List (List Dat)} {o:Nat},nL G sz b o rows→nL G' sz b o rows
 | [],o,_=>by simp [nL]
 | r :: rs,o,h=>by
  simp only [nL] at h ⊢
  obtain ⟨⟨cs,h1,h2,h3⟩,h4⟩:=h
  exact ⟨⟨cs,h1,fun j v hj=>ay hm (h2 j v hj),bH.mono hm h3⟩,nL.mono hm h4⟩
theorem bH.mono {G G':GH} (hm:∀ k o,G k=some o→G' k=some o):∀ {ds:List Dat} {cs:List ak},bH G ds cs→bH G' ds cs
 | [],cs,h=>by simpa [bH] using h
 | d :: ds,cs,h=>by
  simp only [bH] at h ⊢
  obtain ⟨v,vs,h1,h2,h3⟩:=h
  exact ⟨v,vs,h1,au.mono hm h2,bH.mono hm h3⟩
end
theorem nL.get {G:GH} {sz b:Nat}:∀ {rows:List (List Dat)} {o k:Nat} {r:List Dat},nL G sz b o rows→rows[k]?=some r→∃ cs,cs.length=sz∧(∀ j v,cs[j]?=some v→aF G b (o+k*sz+j)=some v)∧bH G r cs
 | [],_,_,_,_,h=>by simp at h
 | r :: rs,o,0,q,h,hk=>by
  simp only [Cn,nM] at hk
  subst hk
  simp only [nL] at h
  simpa using h.1
 | r :: rs,o,k+1,q,h,hk=>by
  simp only [List.getElem?_cons_succ] at hk
  simp only [nL] at h
  obtain ⟨cs,h1,h2,h3⟩:=nL.get h.2 hk
  exact ⟨cs,h1,fun j v hj=>by rw [← h2 j v hj];congr 1;rw [Nat.succ_mul];omega,h3⟩
theorem au.slice {G:GH} {sz:Nat} {rows:List (List Dat)} {v:ak} (h:au G (.sl sz rows) v):∃ A c,v=.slice A rows.length c∧rows.length≤c∧c≤maxLen ∧
  ∀ k r,rows[k]?=some r→∃ b o cs,A=some ⟨b,o,none⟩∧cs.length=sz∧(∀ j u,cs[j]?=some u→aF G b (o+k*sz+j)=some u)∧bH G r cs:=by
 simp only [au] at h
 obtain ⟨A,c,h1,h2,h3,h4⟩:=h
 refine ⟨A,c,h1,h2,h3,fun k r hk=>?_⟩
 obtain ⟨b,o,e,hr⟩:=h4 (by rintro rfl;simp at hk)
 obtain ⟨cs,g1,g2,g3⟩:=hr.get hk
 exact ⟨b,o,cs,e,g1,g2,g3⟩
theorem nL.mk {G:GH} {sz b:Nat}:∀ {rows:List (List Dat)} {o:Nat},(∀ k r,rows[k]?=some r→∃ cs,cs.length=sz∧(∀ j u,cs[j]?=some u→aF G b (o+k*sz+j)=some u)∧bH G r cs)→nL G sz b o rows
 | [],o,_=>by simp [nL]
 | r :: rs,o,h=>by
  simp only [nL]
  refine ⟨by simpa using h 0 r rfl,nL.mk fun k q hk=>?_⟩
  obtain ⟨cs,h1,h2,h3⟩:=h (k+1) q (by simpa using hk)
  exact ⟨cs,h1,fun j v hj=>by rw [← h2 j v hj];congr 1;rw [Nat.succ_mul];omega,h3⟩
abbrev vi (n:Int):ak:=.int .i64 n
structure gV where
 key:Int
 value:Int
structure jV where
 rev:Int
 move:Int
structure jK where
 rev:Int
 key:Int
 before:Int
 had:Bool
structure Ad where
 ins:Int
 move:Int
 bR:List jV
 layers:List jK
structure jm where
 props:List gV
 marks:Ad
mutual
inductive aJ where
 | mk (kind code id:Int) (text:ByteArray) (head:jm) (flow:List aJ) (rows:List bS)
inductive bS where
 | mk (head:jm) (cells:List bO)
inductive bO where
 | mk (id:Int) (head:jm) (flow:List aJ)
end
namespace aJ
def kind:aJ→Int|.mk k _ _ _ _ _ _=>k
def code:aJ→Int|.mk _ c _ _ _ _ _=>c
def id:aJ→Int|.mk _ _ i _ _ _ _=>i
def text:aJ→ByteArray|.mk _ _ _ t _ _ _=>t
def head:aJ→jm|.mk _ _ _ _ h _ _=>h
def flow:aJ→List aJ|.mk _ _ _ _ _ f _=>f
def rows:aJ→List bS|.mk _ _ _ _ _ _ r=>r
end aJ
namespace bS
def head:bS→jm|.mk h _=>h
def cells:bS→List bO|.mk _ c=>c
end bS
namespace bO
def id:bO→Int|.mk i _ _=>i
def head:bO→jm|.mk _ h _=>h
def flow:bO→List aJ|.mk _ _ f=>f
end bO
abbrev li (n:Int):Dat:=.lf (.int .i64 n)
def gV.dat (p:gV):List Dat:=[li p.key,li p.value]
def jV.dat (p:jV):List Dat:=[li p.rev,li p.move]
def jK.dat (p:jK):List Dat:=[li p.rev,li p.key,li p.before,.lf (.bool p.had)]
def Ad.dat (m:Ad):List Dat:=[li m.ins,li m.move,.sl 2 (m.bR.map jV.dat),.sl 4 (m.layers.map jK.dat)]
def jm.dat (h:jm):List Dat:=.sl 2 (h.props.map gV.dat) :: h.marks.dat
mutual
def aJ.dat:aJ→List Dat
 | .mk k c i t h f r=>li k :: li c :: li i :: .lf (.string t) :: (h.dat++[.sl 11 (Jh f),.sl 6 (KO r)])
def bS.dat:bS→List Dat
 | .mk h cs=>h.dat++[.sl 7 (KN cs)]
def bO.dat:bO→List Dat
 | .mk i h f=>li i :: (h.dat++[.sl 11 (Jh f)])
def Jh:List aJ→List (List Dat)
 | []=>[]
 | x :: r=>x.dat :: Jh r
def KO:List bS→List (List Dat)
 | []=>[]
 | x :: r=>x.dat :: KO r
def KN:List bO→List (List Dat)
 | []=>[]
 | x :: r=>x.dat :: KN r
end
theorem QU:∀ l:List aJ,Jh l=l.map aJ.dat
 | []=>by simp [Jh]
 | x :: r=>by simp [Jh,QU r]
theorem Xi:∀ l:List bS,KO l=l.map bS.dat
 | []=>by simp [KO]
 | x :: r=>by simp [KO,Xi r]
theorem Xh:∀ l:List bO,KN l=l.map bO.dat
 | []=>by simp [KN]
 | x :: r=>by simp [KN,Xh r]
theorem aJ.yY (x:aJ):x.dat=li x.kind :: li x.code :: li x.id :: .lf (.string x.text) :: (x.head.dat++[.sl 11 (x.flow.map aJ.dat),.sl 6 (x.rows.map bS.dat)]):=by
 cases x;simp [aJ.dat,aJ.kind,aJ.code,aJ.id,aJ.text,aJ.head,aJ.flow,aJ.rows,QU,Xi]
theorem bS.yY (x:bS):x.dat=x.head.dat++[.sl 7 (x.cells.map bO.dat)]:=by
 cases x;simp [bS.dat,bS.head,bS.cells,Xh]
theorem bO.yY (x:bO):x.dat=li x.id :: (x.head.dat++[.sl 11 (x.flow.map aJ.dat)]):=by
 cases x;simp [bO.dat,bO.id,bO.head,bO.flow,QU]
structure ku (G:GH) (x:jm) (p d l:ak):Prop where
 props:au G (.sl 2 (x.props.map gV.dat)) p
 bR:au G (.sl 2 (x.marks.bR.map jV.dat)) d
 layers:au G (.sl 4 (x.marks.layers.map jK.dat)) l
theorem ku.mono {G G':GH} (hm:∀ k o,G k=some o→G' k=some o) {x:jm} {p d l:ak} (h:ku G x p d l):ku G' x p d l:=⟨h.props.mono hm,h.bR.mono hm,h.layers.mono hm⟩
theorem au.form {G:GH} {sz:Nat} {rows:List (List Dat)} {v:ak} (h:au G (.sl sz rows) v):∃ A n c,v=.slice A n c:=by
 obtain ⟨A,c,h,_⟩:=h.slice
 exact ⟨A,_,c,h⟩
theorem bH.item {G:GH} {x:aJ} {cs:List ak} (h:bH G x.dat cs):∃ pA pn pc dA dn dc lA ln lc fA fn fc rA rn rc,cs=[vi x.kind,vi x.code,vi x.id,.string x.text,.slice pA pn pc,vi x.head.marks.ins,vi x.head.marks.move,.slice dA dn dc,.slice lA ln lc,.slice fA fn fc,.slice rA rn rc] ∧
  ku G x.head (.slice pA pn pc) (.slice dA dn dc) (.slice lA ln lc)∧au G (.sl 11 (x.flow.map aJ.dat)) (.slice fA fn fc)∧au G (.sl 6 (x.rows.map bS.dat)) (.slice rA rn rc):=by
 rw [aJ.yY] at h
 simp only [jm.dat,Ad.dat,oG,oH,bH] at h
 obtain ⟨v1,_,rfl,h1,v2,_,rfl,h2,v3,_,rfl,h3,v4,_,rfl,h4,p,_,rfl,hp,v5,_,rfl,h5,v6,_,rfl,h6,d,_,rfl,hd,l,_,rfl,hl,f,_,rfl,hf,r,_,rfl,hr,rfl⟩:=h
 obtain ⟨pA,pn,pc,rfl⟩:=hp.form
 obtain ⟨dA,dn,dc,rfl⟩:=hd.form
 obtain ⟨lA,ln,lc,rfl⟩:=hl.form
 obtain ⟨fA,fn,fc,rfl⟩:=hf.form
 obtain ⟨rA,rn,rc,rfl⟩:=hr.form
 simp only [au] at h1 h2 h3 h4 h5 h6
 obtain ⟨rfl,-⟩:=h1;obtain ⟨rfl,-⟩:=h2;obtain ⟨rfl,-⟩:=h3;obtain ⟨rfl,-⟩:=h4;obtain ⟨rfl,-⟩:=h5;obtain ⟨rfl,-⟩:=h6
 exact ⟨pA,pn,pc,dA,dn,dc,lA,ln,lc,fA,fn,fc,rA,rn,rc,rfl,⟨hp,hd,hl⟩,hf,hr⟩
theorem bH.row {G:GH} {x:bS} {cs:List ak} (h:bH G x.dat cs):∃ pA pn pc dA dn dc lA ln lc cA cn cc,cs=[.slice pA pn pc,vi x.head.marks.ins,vi x.head.marks.move,.slice dA dn dc,.slice lA ln lc,.slice cA cn cc]∧ku G x.head (.slice pA pn pc) (.slice dA dn dc) (.slice lA ln lc)∧au G (.sl 7 (x.cells.map bO.dat)) (.slice cA cn cc):=by
 rw [bS.yY] at h
 simp only [jm.dat,Ad.dat,oG,oH,bH] at h
 obtain ⟨p,_,rfl,hp,v5,_,rfl,h5,v6,_,rfl,h6,d,_,rfl,hd,l,_,rfl,hl,f,_,rfl,hf,rfl⟩:=h
 obtain ⟨pA,pn,pc,rfl⟩:=hp.form
 obtain ⟨dA,dn,dc,rfl⟩:=hd.form
 obtain ⟨lA,ln,lc,rfl⟩:=hl.form
 obtain ⟨fA,fn,fc,rfl⟩:=hf.form
 simp only [au] at h5 h6
 obtain ⟨rfl,-⟩:=h5;obtain ⟨rfl,-⟩:=h6
 exact ⟨pA,pn,pc,dA,dn,dc,lA,ln,lc,fA,fn,fc,rfl,⟨hp,hd,hl⟩,hf⟩
theorem bH.cell {G:GH} {x:bO} {cs:List ak} (h:bH G x.dat cs):∃ pA pn pc dA dn dc lA ln lc fA fn fc,cs=[vi x.id,.slice pA pn pc,vi x.head.marks.ins,vi x.head.marks.move,.slice dA dn dc,.slice lA ln lc,.slice fA fn fc]∧ku G x.head (.slice pA pn pc) (.slice dA dn dc) (.slice lA ln lc)∧au G (.sl 11 (x.flow.map aJ.dat)) (.slice fA fn fc):=by
 rw [bO.yY] at h
 simp only [jm.dat,Ad.dat,oG,oH,bH] at h
 obtain ⟨v1,_,rfl,h1,p,_,rfl,hp,v5,_,rfl,h5,v6,_,rfl,h6,d,_,rfl,hd,l,_,rfl,hl,f,_,rfl,hf,rfl⟩:=h
 obtain ⟨pA,pn,pc,rfl⟩:=hp.form
 obtain ⟨dA,dn,dc,rfl⟩:=hd.form
 obtain ⟨lA,ln,lc,rfl⟩:=hl.form
 obtain ⟨fA,fn,fc,rfl⟩:=hf.form
 simp only [au] at h1 h5 h6
 obtain ⟨rfl,-⟩:=h1;obtain ⟨rfl,-⟩:=h5;obtain ⟨rfl,-⟩:=h6
 exact ⟨pA,pn,pc,dA,dn,dc,lA,ln,lc,fA,fn,fc,rfl,⟨hp,hd,hl⟩,hf⟩
theorem au.one {G:GH}:∀ {d:Dat} {v:ak},au G d v→Value.oneCell' v=true
 | .lf u,v,h=>by simp only [au] at h;rw [h.1];exact h.2
 | .sl sz rows,v,h=>by obtain ⟨A,n,c,rfl⟩:=h.form;rfl
theorem bH.one {G:GH}:∀ {ds:List Dat} {cs:List ak},bH G ds cs→cs.all Value.oneCell'=true
 | [],cs,h=>by simp only [bH] at h;subst h;rfl
 | d :: ds,cs,h=>by
  simp only [bH] at h
  obtain ⟨v,vs,rfl,h1,h2⟩:=h
  simp only [List.all_cons,h1.one,h2.one,Bool.and_self]
theorem bH.length {G:GH}:∀ {ds:List Dat} {cs:List ak},bH G ds cs→cs.length=ds.length
 | [],cs,h=>by simp only [bH] at h;subst h;rfl
 | d :: ds,cs,h=>by
  simp only [bH] at h
  obtain ⟨v,vs,rfl,h1,h2⟩:=h
  simp [h2.length]
theorem bH.mkItem {G:GH} {x:aJ} {p d l f r:ak} (hh:ku G x.head p d l) (hf:au G (.sl 11 (x.flow.map aJ.dat)) f) (hr:au G (.sl 6 (x.rows.map bS.dat)) r) :
  bH G x.dat [vi x.kind,vi x.code,vi x.id,.string x.text,p,vi x.head.marks.ins,vi x.head.marks.move,d,l,f,r]:=by
 rw [aJ.yY]
 simp only [jm.dat,Ad.dat,oG,oH,bH]
 exact ⟨_,_,rfl,by simp [au,Value.oneCell'],_,_,rfl,by simp [au,Value.oneCell'],_,_,rfl,by simp [au,Value.oneCell'],_,_,rfl,by simp [au,Value.oneCell'],_,_,rfl,hh.props,_,_,rfl,by simp [au,Value.oneCell'],_,_,rfl,by simp [au,Value.oneCell'],_,_,rfl,hh.bR,_,_,rfl,hh.layers,_,_,rfl,hf,_,_,rfl,hr,rfl⟩
theorem bH.Uz {G:GH} {x:bS} {p d l c:ak} (hh:ku G x.head p d l) (hc:au G (.sl 7 (x.cells.map bO.dat)) c) :
  bH G x.dat [p,vi x.head.marks.ins,vi x.head.marks.move,d,l,c]:=by
 rw [bS.yY]
 simp only [jm.dat,Ad.dat,oG,oH,bH]
 exact ⟨_,_,rfl,hh.props,_,_,rfl,by simp [au,Value.oneCell'],_,_,rfl,by simp [au,Value.oneCell'],_,_,rfl,hh.bR,_,_,rfl,hh.layers,_,_,rfl,hc,rfl⟩
theorem bH.Mv {G:GH} {x:bO} {p d l f:ak} (hh:ku G x.head p d l) (hf:au G (.sl 11 (x.flow.map aJ.dat)) f) :
  bH G x.dat [vi x.id,p,vi x.head.marks.ins,vi x.head.marks.move,d,l,f]:=by
 rw [bO.yY]
 simp only [jm.dat,Ad.dat,oG,oH,bH]
 exact ⟨_,_,rfl,by simp [au,Value.oneCell'],_,_,rfl,hh.props,_,_,rfl,by simp [au,Value.oneCell'],_,_,rfl,by simp [au,Value.oneCell'],_,_,rfl,hh.bR,_,_,rfl,hh.layers,_,_,rfl,hf,rfl⟩
mutual
def qD:Dat→Nat
 | .lf v=>(match v with|.string s=>s.size|_=>0)+1
 | .sl _ rows=>1+fE rows
def fE:List (List Dat)→Nat
 | []=>0
 | r :: rs=>1+dQ r+fE rs
def dQ:List Dat→Nat
 | []=>0
 | d :: ds=>qD d+dQ ds
end
theorem P8 (a b:List (List Dat)):fE (a++b)=fE a+fE b:=by
 induction a with
 | nil=>simp [fE]
 | cons x a ih=>simp only [oG,fE,ih];omega
theorem Vn (a b:List Dat):dQ (a++b)=dQ a+dQ b:=by
 induction a with
 | nil=>simp [dQ]
 | cons x a ih=>simp only [oG,dQ,ih];omega
theorem mO:∀ rows:List (List Dat),rows.length≤fE rows
 | []=>dJ _
 | r :: rs=>by have:=mO rs;simp only [qH,fE];omega
theorem P9:∀ {rows:List (List Dat)} {k:Nat} {r:List Dat},rows[k]?=some r→dQ r < fE rows
 | [],_,_,h=>by simp at h
 | q :: rs,0,r,h=>by simp only [Cn,nM] at h;subst h;simp only [fE];omega
 | q :: rs,k+1,r,h=>by have:=P9 (rows:=rs) (k:=k) (r:=r) (by simpa using h);simp only [fE];omega
abbrev bU (l:List aJ):Nat:=fE (l.map aJ.dat)
abbrev fQ (l:List bS):Nat:=fE (l.map bS.dat)
abbrev jr (l:List bO):Nat:=fE (l.map bO.dat)
abbrev pJ (h:jm):Nat:=dQ h.dat
theorem Cc (h:jm):pJ h=fE (h.props.map gV.dat)+fE (h.marks.bR.map jV.dat)+fE (h.marks.layers.map jK.dat)+5:=by
 simp only [pJ,jm.dat,Ad.dat,dQ,qD];omega
theorem uX (x:aJ):dQ x.dat=x.text.size+pJ x.head+bU x.flow+fQ x.rows+6:=by
 rw [aJ.yY];simp only [dQ,qD,Vn,pJ,bU,fQ,jr];omega
theorem Aa (x:bS):dQ x.dat=pJ x.head+jr x.cells+1:=by
 rw [bS.yY];simp only [dQ,qD,Vn,pJ,bU,fQ,jr];omega
theorem zZ (x:bO):dQ x.dat=pJ x.head+bU x.flow+2:=by
 rw [bO.yY];simp only [dQ,qD,Vn,pJ,bU,fQ,jr];omega
theorem Qn {l:List aJ} {k:Nat} (h:k < l.length):l[k].text.size+pJ l[k].head+bU l[k].flow+fQ l[k].rows+6 < bU l:=by
 rw [← uX];exact P9 (k:=k) (by simp [h])
theorem Qo {l:List bS} {k:Nat} (h:k < l.length):pJ l[k].head+jr l[k].cells+1 < fQ l:=by
 rw [← Aa];exact P9 (k:=k) (by simp [h])
theorem Qm {l:List bO} {k:Nat} (h:k < l.length):pJ l[k].head+bU l[k].flow+2 < jr l:=by
 rw [← zZ];exact P9 (k:=k) (by simp [h])
theorem FT (l:List aJ):l.length≤bU l:=by have:=mO (l.map aJ.dat);simpa using this
theorem IK (l:List bS):l.length≤fQ l:=by have:=mO (l.map bS.dat);simpa using this
theorem IJ (l:List bO):l.length≤jr l:=by have:=mO (l.map bO.dat);simpa using this
theorem Qa {r:List Dat}:∀ {rows:List (List Dat)},r∈rows→dQ r < fE rows
 | [],h=>by cases h
 | q :: rs,h=>by
  rcases uo.1 h with rfl|h
  ·simp only [fE];omega
  ·have:=Qa h;simp only [fE];omega
theorem M9 {x:aJ} {l:List aJ} (h:x∈l):dQ x.dat < bU l:=Qa (List.mem_map_of_mem h)
theorem VF {x:bS} {l:List bS} (h:x∈l):dQ x.dat < fQ l:=Qa (List.mem_map_of_mem h)
theorem VD {x:bO} {l:List bO} (h:x∈l):dQ x.dat < jr l:=Qa (List.mem_map_of_mem h)
end
section
open Go.RowKit
def yZ (l:List Oper) (i:Nat):List Nat:=match l[i]? with|some o=>(o.after.toList.filter (Region.binds .any)).map (·.on)|none=>[]
def fG (l:List Oper) (i:Nat):Option Nat:=(l[i]?).bind (·.dst)
def DJ (l:List Oper) (cZ:List (List Nat)):Bool :=
 (List.range l.length).all fun i=>(yZ l i).all (fun j=>Nat.blt j i) && (cZ.getD i []).all fun j=>(yZ l i).contains j || (yZ l i).any fun k=>Nat.blt k i && (cZ.getD k []).contains j
def eO (S:Nat→Bool) (i:Nat):Nat→Bool:=fun j=>if j=i then true else S j
section
variable {r:Option Nat} {P:Program} {Q:Exit→Act→World→Prop} {l:List Oper} {cZ:List (List Nat)} {a:Act} {w:World}
theorem Xa (hk:DJ l cZ=true) {S:Nat→Bool} (hd:∀ i,S i=true→∀ j∈yZ l i,S j=true):∀ i,i < l.length→(∀ j∈yZ l i,S j=true)→∀ j∈cZ.getD i [],S j=true:=by
 intro i
 induction i using Nat.strongRecOn with
 | _ i ih =>
  intro hi hdi j hj
  have h1:=oU.1 hk i (wD.2 hi)
  simp only [oF,oU] at h1
  have h2:=h1.2 j hj
  simp only [Bool.or_eq_true,A9,List.any_eq_true,oF] at h2
  rcases h2 with h2|⟨k,hk1,hk2,hk3⟩
  ·exact hdi j h2
  ·have hlt:k < i:=Eq.mp Nat.blt_eq hk2
   exact ih k hlt (by omega) (hd k (hdi k hk1)) j hk3
theorem aoh {ops:Array Oper} {i:Nat} {o:Oper} {K:Act→World→Prop} (ho:ops[i]?=some o) (h:WL r P ops (fun e a' w'=>e=.normal∧K a' w') [o] a w):wpOpIn (FW r) 0 P ops Q i K a w:=by
 unfold wpOpIn
 simp only [ho]
 have h':wpListIn (FW r) 0 P ops (fun e a' w'=>e=.normal∧K a' w') [o] a w:=h
 unfold wpListIn at h'
 by_cases hw:Region.wanted o (yielded ops a.tmps)=true
 ·rw [av hw] at h' ⊢
  refine ⟨fun _ _=>trivial,?_⟩
  have h2:=h'.2
  generalize (o.semAt (FW r).round a.eval).run P w=res at h2 ⊢
  cases res with
  | ok x w1 =>
   cases x with
   | value v=>exact h2.2
   | skip=>exact h2.2
   | defer d=>exact h2.2
   | enter f args=>exact ⟨h2.1,h2.2.mono fun e w2 he=>by
     cases e with
     | returned v=>exact he.2
     | panicked ch=>exact absurd he.1 (by simp)
     | outgrown=>obtain ⟨_,_,h3,_⟩:=he;exact absurd h3 (by simp)⟩
   | row U9 args=>exact ⟨h2.1,h2.2.mono fun v w2 he=>he.2⟩
   | round l f t QH b=>exact ⟨h2.1,h2.2.mono fun e w2 he=>by
     cases e with
     | returned v=>exact he.2
     | panicked ch=>exact absurd he.1 (by simp)
     | outgrown=>obtain ⟨_,_,h3,_⟩:=he;exact absurd h3 (by simp)⟩
   | _=>exact h2.elim
  | halt x w1 =>
   cases x with
   | panic v=>exact absurd h2.1 (by simp)
   | _=>exact h2.elim
 ·rw [ah hw] at h' ⊢
  exact ⟨fun _ _=>trivial,h'.2.2⟩
theorem count_set {L:List Bool}:∀ {i:Nat},L[i]?=some false→(L.set i true).count false+1=L.count false:=by
 induction L with
 | nil=>intro i h;simp at h
 | cons b L ih =>
  intro i h
  cases i with
  | zero=>simp at h;subst h;simp
  | succ i =>
   simp only [List.getElem?_cons_succ] at h
   have:=ih h
   simp only [List.set_cons_succ,List.count_cons]
   omega
theorem WT {id:Nat} (hm:P.follows .mixedOrders=true) (cZ:List (List Nat)) (hk:DJ l cZ=true) (X:(Nat→Bool)→Act→World→Prop) (h0:X (fun _=>false) a w.drew)
  (hstep:∀ i o S a w,l[i]?=some o→X S a w→S i=false→(∀ j∈cZ.getD i [],S j=true)→(∀ j,j < l.length→i∈cZ.getD j []→S j=false)→WL r P l.toArray (fun e a' w'=>e=.normal∧X (eO S i) a' w') [o] a w)
  (hend:∀ S a w,(∀ i,i < l.length→S i=true)→X S a w→Q .normal a w):WP r P (.region id l.toArray true) Q a w:=by
 have key:∀ (fuel:Nat) (listed:Array Bool) (S:Nat→Bool) (a:Act) (w:World),listed.size=l.length→(∀ i,i < l.length→listed[i]?=some (S i))→listed.toList.count false≤fuel→(∀ i,i < l.length→S i=true→∀ j∈yZ l i,S j=true)→(∀ i,l.length≤i→S i=false)→X S a w →
   wpAnyIn (FW r) 0 P .any l.toArray Q fuel listed a w:=by
  intro fuel
  induction fuel with
  | zero =>
   intro listed S a w hsz hS hc hdn hbig hX
   have hall:∀ i,i < l.length→S i=true:=by
    intro i hi
    cases cB:S i with
    | true=>rfl
    | false =>
     have h1:=hS i hi
     rw [cB] at h1
     have:false∈listed.toList:=oD (by simpa using h1)
     have:=List.count_pos_iff.2 this
     omega
   refine ⟨?_,hend S a w hall hX⟩
   apply List.eq_nil_iff_forall_not_mem.2
   intro i hi
   obtain ⟨h1,o,ho,-⟩:=mem_ready.1 hi
   have hil:i < l.length:=by simpa using (Array.getElem?_eq_some_iff.1 ho).1
   have h2:=hS i hil
   rw [hall i hil] at h2
   rw [Array.getD_eq_getD_getElem?,h2] at h1
   cases h1
  | succ fuel ih =>
   intro listed S a w hsz hS hc hdn hbig hX
   have hget:∀ i d,i < l.length→listed.getD i d=S i:=fun i d hi=>by rw [Array.getD_eq_getD_getElem?,hS i hi];rfl
   refine ⟨fun hnil=>?_,fun i hi=>?_⟩
   ·by_cases hall:∀ i,i < l.length→S i=true
    ·exact hend S a w hall hX
    ·exfalso
     have hex:∃ i,i < l.length∧S i=false:=by
      apply Classical.byContradiction
      intro hno
      apply hall
      intro i hi
      cases cB:S i with
      | true=>rfl
      | false=>exact absurd ⟨i,hi,cB⟩ hno
     obtain ⟨i,hi,cB,hmin⟩:∃ i,i < l.length∧S i=false∧∀ j,j < i→S j=true:=by
      obtain ⟨i0,hi0,hs0⟩:=hex
      clear hall
      induction i0 using Nat.strongRecOn with
      | _ i0 ihh =>
       by_cases hlt:∃ j,j < i0∧S j=false
       ·obtain ⟨j,hj,hsj⟩:=hlt
        exact ihh j hj (by omega) hsj
       ·refine ⟨i0,hi0,hs0,fun j hj=>?_⟩
        cases hSj:S j with
        | true=>rfl
        | false=>exact absurd ⟨j,hj,hSj⟩ hlt
     have hr:i∈Region.ready .any l.toArray listed:=by
      rw [mem_ready]
      refine ⟨by rw [hget i true hi,cB],l[i],by simp [hi],fun e he hb=>?_⟩
      have hk1:=oU.1 hk i (wD.2 hi)
      simp only [oF,oU] at hk1
      have hin:e.on∈yZ l i:=by
       simp only [yZ,fT hi,List.mem_map,List.mem_filter]
       exact ⟨e,⟨by simpa using he,hb⟩,rfl⟩
      have hlt:e.on < i:=Eq.mp Nat.blt_eq (hk1.1 _ hin)
      rw [hget _ _ (by omega)]
      exact hmin _ hlt
     rw [hnil] at hr
     cases hr
   ·obtain ⟨h1,o,ho,ajc⟩:=mem_ready.1 hi
    have hil:i < l.length:=by simpa using (Array.getElem?_eq_some_iff.1 ho).1
    have ho':l[i]?=some o:=by simpa using ho
    have cB:S i=false:=by rw [← hget i true hil];exact h1
    have hdi:∀ j∈yZ l i,S j=true:=by
     intro j hj
     simp only [yZ,ho',List.mem_map,List.mem_filter] at hj
     obtain ⟨e,⟨he,hb⟩,rfl⟩:=hj
     have h2:=ajc e (by simpa using he) hb
     by_cases hjl:e.on < l.length
     ·rwa [hget _ _ hjl] at h2
     ·have hk1:=oU.1 hk i (wD.2 hil)
      simp only [oF,oU] at hk1
      have hin:e.on∈yZ l i:=by
       simp only [yZ,ho',List.mem_map,List.mem_filter]
       exact ⟨e,⟨he,hb⟩,rfl⟩
      have hlt:e.on < i:=Eq.mp Nat.blt_eq (hk1.1 _ hin)
      omega
    have YV:∀ i,S i=true→∀ j∈yZ l i,S j=true:=by
     intro k hk' j hj
     by_cases hkl:k < l.length
     ·exact hdn k hkl hk' j hj
     ·rw [hbig k (by omega)] at hk';cases hk'
    refine aoh ho ?_
    have hs:=hstep i o S a w ho' hX cB (Xa hk YV i hil hdi) (fun j hjl hj=>by
     cases hSj:S j with
     | false=>rfl
     | true=>have:=Xa hk YV j hjl (hdn j hjl hSj) i hj;rw [this] at cB;cases cB)
    have hmono:∀ e a' w',(e=Exit.normal∧X (eO S i) a' w')→(e=Exit.normal∧wpAnyIn (FW r) 0 P .any l.toArray Q fuel (listed.setIfInBounds i true) a' w'):=by
     rintro e a' w' ⟨he,hX'⟩
     refine ⟨he,ih _ (eO S i) a' w' (by simpa using hsz) (fun j hj=>?_) ?_ (fun j hj hSj q hq=>?_) (fun j hj=>?_) hX'⟩
     ·rw [Array.getElem?_setIfInBounds]
      unfold eO
      by_cases e:i=j
      ·subst e;simp [hsz,hil]
      ·rw [ah e,ah (Ne.symm e)];exact hS j hj
     ·have h3:listed.toList[i]?=some false:=by have:=hS i hil;rw [cB] at this;simpa using this
      have:=count_set h3
      simp only [Array.toList_setIfInBounds]
      omega
     ·unfold eO at hSj ⊢
      split
      ·rfl
      ·split at hSj
       ·rename_i e;subst e;exact hdi q hq
       ·exact hdn j hj hSj q hq
     ·unfold eO
      rw [ah (by omega)]
      exact hbig j hj
    have hs':wpListIn (FW r) 0 P l.toArray (fun e a' w'=>e=.normal∧X (eO S i) a' w') [o] a w:=hs
    show wpListIn (FW r) 0 P l.toArray _ [o] a w
    unfold wpListIn at hs' ⊢
    split
    ·rename_i hw
     rw [av hw] at hs'
     refine ⟨fun _ _=>trivial,?_⟩
     have h2:=hs'.2
     generalize (o.semAt (FW r).round a.eval).run P w=res at h2 ⊢
     cases res with
     | ok x w1 =>
      cases x with
      | value v=>exact hmono _ _ _ h2
      | skip=>exact hmono _ _ _ h2
      | defer d=>exact hmono _ _ _ h2
      | enter f args=>exact ⟨h2.1,h2.2.mono fun e w2 he=>by
        cases e with
        | returned v=>exact hmono _ _ _ he
        | panicked ch=>exact absurd he.1 (by simp)
        | outgrown=>obtain ⟨_,_,h3,_⟩:=he;exact absurd h3 (by simp)⟩
      | row U9 args=>exact ⟨h2.1,h2.2.mono fun v w2 he=>hmono _ _ _ he⟩
      | round l f t QH b=>exact ⟨h2.1,h2.2.mono fun e w2 he=>by
        cases e with
        | returned v=>exact hmono _ _ _ he
        | panicked ch=>exact absurd he.1 (by simp)
        | outgrown=>obtain ⟨_,_,h3,_⟩:=he;exact absurd h3 (by simp)⟩
      | _=>exact h2.elim
     | halt x w1 =>
      cases x with
      | panic v=>exact absurd h2.1 (by simp)
      | _=>exact h2.elim
    ·rename_i hw
     rw [ah hw] at hs'
     exact ⟨fun _ _=>trivial,hmono _ _ _ hs'.2⟩
 refine wpIn_region_any hm (key _ _ (fun _=>false) a w.drew (by simp) (fun i hi=>by simp [hi]) ?_ (fun _ _ h=>by cases h) (fun _ _=>rfl) h0)
 simp
end
def full (N:Nat) (a:Act):List (Nat × ak):=(List.range N).map fun t=>(t,a.tmps.getD t undef)
theorem Pn (T U:List (Nat × ak)) (t:Nat):lk (T++U) t=match lk T t with|some v=>some v|none=>lk U t:=by
 induction T with
 | nil=>rfl
 | cons p T ih =>
  obtain ⟨s,v⟩:=p
  by_cases e:s=t
  ·subst e;rw [oG,yB,yB]
  ·rw [oG,wZ e,wZ e,ih]
theorem Z6 (f:Nat→ak):∀ (L:List Nat) (t:Nat),t∈L→lk (L.map fun t=>(t,f t)) t=some (f t)
 | [],_,h=>by cases h
 | s :: L,t,h=>by
  simp only [iq]
  by_cases e:s=t
  ·subst e;rw [yB]
  ·rw [wZ e]
   exact Z6 f L t ((uo.1 h).resolve_left (Ne.symm e))
theorem Po {N t:Nat} (a:Act) (h:t < N):lk (full N a) t=some (a.tmps.getD t undef):=Z6 (fun t=>a.tmps.getD t undef) _ t (wD.2 h)
section
variable {N:Nat} {D:List Deferred} {w0:World} {F:Nat→Prop} {G0 G G1 G2:GH} {L L1 L2:OL} {T Xs:List (Nat × ak)}
variable {r:Option Nat} {P:Program} {Q:Exit→Act→World→Prop} {l:List Oper} {a a':Act} {w w':World}
theorem St.full (H:St N D w0 F G0 G L T a w):St N D w0 F G0 G L (T++full N a) a w:=by
 refine ⟨H.og,fun t v ht=>?_,H.uH,H.hp⟩
 rw [Pn] at ht
 cases hT:lk T t with
 | some u=>rw [hT] at ht;simp only [nM] at ht;subst ht;exact H.get t u hT
 | none =>
  rw [hT] at ht
  by_cases hlt:t < N
  ·rw [Po a hlt] at ht
   simp only [nM] at ht
   have h2:t < a.tmps.size:=by rw [H.og];exact hlt
   rw [← ht,Array.getD_eq_getD_getElem?,Array.getElem?_eq_getElem h2]
   rfl
  ·exfalso
   have:∀ (L:List Nat),t∉L→lk (L.map fun t=>(t,a.tmps.getD t undef)) t=none:=by
    intro L
    induction L with
    | nil=>intro _;rfl
    | cons s L ih=>intro h;simp only [iq];rw [wZ (fun e=>h (by simp [e])),ih (fun h'=>h (by simp [h']))]
   rw [show lk (Proofs.YtdacibabefnabaaGreat.full N a) t=none from this _ (by simp;omega)] at ht
   cases ht
theorem St.nA (H:St N D w0 F G0 G L T a w) {t:Nat} {v:ak} (h:a.tmps[t]?=some v):St N D w0 F G0 G L ((t,v) :: T) a w :=
 ⟨H.og,fun s u hs=>by
  by_cases e:t=s
  ·subst e;rw [yB] at hs;simp only [nM] at hs;subst hs;exact h
  ·rw [wZ e] at hs;exact H.get s u hs,H.uH,H.hp⟩
def DX (N:Nat) (D:List Deferred) (w0:World) (F:Nat→Prop) (G0 G:GH) (L:OL) (T:List (Nat × ak)) (l:List Oper) (pr:Nat→ak→GH→Prop) (S:Nat→Bool) (a:Act) (w:World):Prop :=
 ∃ G1,(∀ k o,G k=some o→G1 k=some o)∧St N D w0 F G0 G1 L T a w∧∀ i d,S i=true→fG l i=some d→∃ v,a.tmps[d]?=some v∧pr i v G1
def pU (l:List Oper) (T:List (Nat × ak)) (i:Nat):Bool :=
 match fG l i with|none=>true|some d=>(lk T d).isNone && (List.range l.length).all fun j=>bif Nat.beq i j then true else !(fG l j == some d)
def ael (l:List Oper) (T:List (Nat × ak)):Bool :=
 (List.range l.length).all (pU l T)
theorem kC {pr:Nat→ak→GH→Prop} {S:Nat→Bool} {i d:Nat} {v:ak} (hok:pU l T i=true) (kX:∀ i v (G G':GH),(∀ k o,G k=some o→G' k=some o)→pr i v G→pr i v G') (hi:fG l i=some d) (hdl:Nat.blt i l.length=true)
  (HT:St N D w0 F G0 G1 L T a w) (Hb:St N D w0 F G0 G1 L (Xs++full N a) a w) (hG:∀ k o,G k=some o→G1 k=some o) (hv:∀ i d,S i=true→fG l i=some d→∃ v,a.tmps[d]?=some v∧pr i v G1)
  (hG2:∀ k o,G1 k=some o→G2 k=some o) (hp:pr i v G2) (H:St N D w0 F G0 G2 L ((d,v) :: (Xs++full N a)) a' w'):DX N D w0 F G0 G L T l pr (eO S i) a' w':=by
 have hil:i < l.length:=Eq.mp Nat.blt_eq hdl
 have hok1:=hok
 rw [pU,hi] at hok1
 simp only [oF,Option.isNone_iff_eq_none,oU,wD] at hok1
 have hsame:∀ t,t≠d→a'.tmps[t]?=a.tmps[t]?:=by
  intro t ht
  by_cases hlt:t < N
  ·have h1:∃ u,lk (Xs++full N a) t=some u:=by
    rw [Pn]
    cases lk Xs t with
    | some u=>exact ⟨u,rfl⟩
    | none=>exact ⟨_,Po a hlt⟩
   obtain ⟨u,hu⟩:=h1
   rw [Hb.get t u hu,H.get t u (by rw [wZ (Ne.symm ht)];exact hu)]
  ·rw [Array.getElem?_eq_none (by rw [H.og];omega),Array.getElem?_eq_none (by rw [Hb.og];omega)]
 refine ⟨G2,fun k o hk=>hG2 k o (hG k o hk),⟨H.og,fun t u ht=>?_,H.uH,H.hp⟩,fun j e hj he=>?_⟩
 ·rw [hsame t (fun e=>by rw [e,hok1.1] at ht;cases ht)]
  exact HT.get t u ht
 ·by_cases hji:j=i
  ·subst hji
   rw [hi] at he
   simp only [nM] at he
   subst he
   exact ⟨v,H.get d v (yB _ _ _),hp⟩
  ·have hSj:S j=true:=by unfold eO at hj;rwa [ah hji] at hj
   obtain ⟨u,hu1,hu2⟩:=hv j e hSj he
   have hjl:j < l.length:=by
    unfold fG at he
    by_cases hl:j < l.length
    ·exact hl
    ·rw [List.getElem?_eq_none (by omega)] at he;cases he
   have hne:e≠d:=by
    intro e'
    subst e'
    have h2:=hok1.2 j hjl
    have hb:Nat.beq i j=false:=by
     cases h:Nat.beq i j with
     | false=>rfl
     | true=>exact absurd (EN h).symm hji
    rw [hb,he] at h2
    simp at h2
   exact ⟨u,by rw [hsame e hne];exact hu1,kX j u _ _ hG2 hu2⟩
def Ca (l:List Oper) (cZ:List (List Nat)) (B:List Nat):Bool :=
 (List.range B.length).all (fun p=>match B[p]? with|none=>false|some b=>Nat.blt b l.length && (List.range l.length).all fun i=>B.contains i && !(B.take p).contains i || (cZ.getD b []).contains i) &&
 (List.range l.length).all fun i=>B.contains i || (cZ.getD i []).all fun j=>!B.contains j
def sP (l:List Oper):List Nat→List Oper
 | []=>[]
 | b :: B=>match l[b]? with|some o=>o :: sP l B|none=>sP l B
theorem sZ {ops:Array Oper} {Q':Exit→Act→World→Prop} (hq:∀ e a w,Q e a w→Q' e a w):∀ {L:List Oper} {a:Act} {w:World},WL r P ops Q L a w→WL r P ops Q' L a w
 | [],a,w,h=>hq _ _ _ h
 | o :: L,a,w,h=>by
  have h':wpListIn (FW r) 0 P ops Q (o :: L) a w:=h
  show wpListIn (FW r) 0 P ops Q' (o :: L) a w
  unfold wpListIn at h' ⊢
  split
  ·rename_i hw
   rw [av hw] at h'
   refine ⟨h'.1,?_⟩
   have h2:=h'.2
   generalize (o.semAt (FW r).round a.eval).run P w=res at h2 ⊢
   cases res with
   | ok x w1 =>
    cases x with
    | value v=>exact sZ hq h2
    | skip=>exact sZ hq h2
    | defer d=>exact sZ hq h2
    | enter f args=>exact ⟨h2.1,h2.2.mono fun e w2 he=>by
      cases e with
      | returned v=>exact sZ hq he
      | panicked ch=>exact hq _ _ _ he
      | outgrown=>obtain ⟨x,y,h3⟩:=he;exact ⟨x,y,hq _ _ _ h3⟩⟩
    | row U9 args=>exact ⟨h2.1,h2.2.mono fun v w2 he=>sZ hq he⟩
    | round l f t QH b=>exact ⟨h2.1,h2.2.mono fun e w2 he=>by
      cases e with
      | returned v=>exact sZ hq he
      | panicked ch=>exact hq _ _ _ he
      | outgrown=>obtain ⟨x,y,h3⟩:=he;exact ⟨x,y,hq _ _ _ h3⟩⟩
    | _=>exact h2.elim
   | halt x w1 =>
    cases x with
    | panic v=>exact hq _ _ _ h2
    | _=>exact h2.elim
  ·rename_i hw
   rw [ah hw] at h'
   exact ⟨h'.1,sZ hq h'.2⟩
theorem ace {ops:Array Oper} {o:Oper} {L:List Oper} {K:Act→World→Prop} (hK:∀ a w,WL r P ops (fun e a w=>e=.normal∧Q .normal a w) L a w→K a w) (h:WL r P ops (fun e a w=>e=.normal∧Q .normal a w) (o :: L) a w):WL r P ops (fun e a' w'=>e=.normal∧K a' w') [o] a w:=by
 have h':wpListIn (FW r) 0 P ops (fun e a w=>e=.normal∧Q .normal a w) (o :: L) a w:=h
 show wpListIn (FW r) 0 P ops _ [o] a w
 unfold wpListIn at h' ⊢
 split
 ·rename_i hw
  rw [av hw] at h'
  refine ⟨h'.1,?_⟩
  have h2:=h'.2
  generalize (o.semAt (FW r).round a.eval).run P w=res at h2 ⊢
  cases res with
  | ok x w1 =>
   cases x with
   | value v=>exact ⟨rfl,hK _ _ h2⟩
   | skip=>exact ⟨rfl,hK _ _ h2⟩
   | defer d=>exact ⟨rfl,hK _ _ h2⟩
   | enter f args=>exact ⟨h2.1,h2.2.mono fun e w2 he=>by
     cases e with
     | returned v=>exact ⟨rfl,hK _ _ he⟩
     | panicked ch=>exact absurd he.1 (by simp)
     | outgrown=>obtain ⟨_,_,h3,_⟩:=he;exact absurd h3 (by simp)⟩
   | row U9 args=>exact ⟨h2.1,h2.2.mono fun v w2 he=>⟨rfl,hK _ _ he⟩⟩
   | round l f t QH b=>exact ⟨h2.1,h2.2.mono fun e w2 he=>by
     cases e with
     | returned v=>exact ⟨rfl,hK _ _ he⟩
     | panicked ch=>exact absurd he.1 (by simp)
     | outgrown=>obtain ⟨_,_,h3,_⟩:=he;exact absurd h3 (by simp)⟩
   | _=>exact h2.elim
  | halt x w1 =>
   cases x with
   | panic v=>exact absurd h2.1 (by simp)
   | _=>exact h2.elim
 ·rename_i hw
  rw [ah hw] at h'
  exact ⟨h'.1,rfl,hK _ _ h'.2⟩
theorem acS {id:Nat} (hm:P.follows .mixedOrders=true) (cZ:List (List Nat)) (B:List Nat) (hk:DJ l cZ=true) (hB:Ca l cZ B=true) (pr:Nat→ak→GH→Prop) (kX:∀ i v (G G':GH),(∀ k o,G k=some o→G' k=some o)→pr i v G→pr i v G')
  (H:St N D w0 F G0 G L T a w)
  (hstep:∀ i o S a w G1,l[i]?=some o→B.contains i=false→S i=false→(∀ j∈cZ.getD i [],S j=true)→(∀ k o,G k=some o→G1 k=some o)→St N D w0 F G0 G1 L T a w→(∀ i d,S i=true→fG l i=some d→∃ v,a.tmps[d]?=some v∧pr i v G1) →
   WL r P l.toArray (fun e a' w'=>e=.normal∧DX N D w0 F G0 G L T l pr (eO S i) a' w') [o] a w)
  (hend:∀ a w G1,(∀ k o,G k=some o→G1 k=some o)→St N D w0 F G0 G1 L T a w→(∀ i d,B.contains i=false→fG l i=some d→∃ v,a.tmps[d]?=some v∧pr i v G1)→WL r P l.toArray (fun e a w=>e=.normal∧Q .normal a w) (sP l B) a w):WP r P (.region id l.toArray true) Q a w:=by
 have hB1:∀ p b,B[p]?=some b→b < l.length∧∀ i,i < l.length→(B.contains i=false∨(B.take p).contains i=true)→i∈cZ.getD b []:=by
  intro p b hp
  simp only [Ca,oF] at hB
  have h1:=oU.1 hB.1 p (wD.2 (mq.1 hp).1)
  rw [hp] at h1
  simp only [oF,oU,wD] at h1
  refine ⟨Eq.mp Nat.blt_eq h1.1,fun i hi hor=>?_⟩
  have h2:=h1.2 i hi
  rcases hor with h3|h3
  ·have h4:i∉B:=by simpa using h3
   simpa [h4] using h2
  ·have h4:i∈B.take p:=by simpa using h3
   simpa [h4] using h2
 have hB2:∀ i,i < l.length→B.contains i=false→∀ j∈cZ.getD i [],B.contains j=false:=by
  intro i hi hb j hj
  simp only [Ca,oF] at hB
  have h1:=oU.1 hB.2 i (wD.2 hi)
  rw [hb] at h1
  simp only [Bool.false_or,oU] at h1
  simpa using h1 j hj
 refine WT hm cZ hk (fun S a w=>((∀ i,B.contains i=true→S i=false)∧DX N D w0 F G0 G L T l pr S a w) ∨
   ∃ p,(∀ i,i < l.length→B.contains i=false→S i=true)∧(∀ i,(B.take p).contains i=true→S i=true)∧(∀ q b,B[q]?=some b→p≤q→S b=false)∧WL r P l.toArray (fun e a w=>e=.normal∧Q .normal a w) (sP l (B.drop p)) a w)
  (.inl ⟨fun _ _=>rfl,G,fun _ _ h=>h,H.move H.hp.drew,fun _ _ h=>by cases h⟩) ?_ ?_
 ·intro i o S a w ho hX cB nS hdesc
  have hil:i < l.length:=(mq.1 ho).1
  by_cases hbi:B.contains i=true
  ·-- an operation of the tail: all that stands ahead of it is done
   obtain ⟨p0,hp0⟩:=List.getElem?_of_mem (by simpa using hbi:i∈B)
   have hall:∀ j,j < l.length→B.contains j=false→S j=true:=fun j hj hb=>nS j ((hB1 p0 i hp0).2 j hj (.inl hb))
   have TP:∃ p,(∀ i,(B.take p).contains i=true→S i=true)∧(∀ q b,B[q]?=some b→p≤q→S b=false)∧WL r P l.toArray (fun e a w=>e=.normal∧Q .normal a w) (sP l (B.drop p)) a w:=by
    rcases hX with ⟨h1,G1,hG,HS,hv⟩|⟨p,_,h2,h3,h4⟩
    ·refine ⟨0,by simp,fun q b hq _=>h1 b (by simpa using oD hq),?_⟩
     refine hend a w G1 hG HS fun j e hb he=>?_
     have hjl:j < l.length:=by
      unfold fG at he
      by_cases hl:j < l.length
      ·exact hl
      ·rw [List.getElem?_eq_none (by omega)] at he;cases he
     exact hv j e (hall j hjl hb) he
    ·exact ⟨p,h2,h3,h4⟩
   obtain ⟨p,h2,h3,h4⟩:=TP
   -- i is the next one
   have hpp:p≤p0:=by
    rcases Nat.lt_or_ge p0 p with hlt|hge
    ·have:(B.take p).contains i=true:=by
      simp only [A9]
      exact oD (i:=p0) (by rw [Af,av hlt];exact hp0)
     rw [h2 i this] at cB;cases cB
    ·exact hge
   have H9:p < B.length:=by have:=(mq.1 hp0).1;omega
   have hbp:B[p]?=some B[p]:=fT H9
   have heq:B[p]=i:=by
    rcases Nat.lt_or_ge p p0 with hlt|hge
    ·exfalso
     have hin:B[p]∈cZ.getD i []:=(hB1 p0 i hp0).2 _ (hB1 p _ hbp).1 (.inr (by
      simp only [A9]
      exact oD (i:=p) (by rw [Af,av hlt];exact hbp)))
     have:=nS _ hin
     rw [h3 p _ hbp (dJ _)] at this;cases this
    ·have:p=p0:=by omega
     subst this
     rw [hbp] at hp0;simpa using hp0
   have hdrop:B.drop p=i :: B.drop (p+1):=by rw [nD H9,heq]
   have hops:sP l (B.drop p)=o :: sP l (B.drop (p+1)):=by rw [hdrop];simp [sP,ho]
   rw [hops] at h4
   refine ace (fun a' w' h5=>.inr ⟨p+1,fun j hj hb=>?_,fun j hj=>?_,fun q b hq hpq=>?_,h5⟩) h4
   ·unfold eO;split
    ·rfl
    ·exact hall j hj hb
   ·unfold eO;split
    ·rfl
    ·rename_i hne
     refine h2 j ?_
     simp only [A9] at hj ⊢
     rw [iG H9,AZ] at hj
     rcases hj with hj|hj
     ·exact hj
     ·simp only [xI] at hj;exact absurd (hj.trans heq) hne
   ·unfold eO
    rw [ah ?_]
    ·exact h3 q b hq (by omega)
    ·rintro rfl
     -- i would stand twice in B: it would come ahead of itself
     have h6:=(hB1 q b hq).2 b (hB1 q b hq).1 (.inr (by
      simp only [A9]
      exact oD (i:=p) (by rw [Af,av (by omega)];rw [hbp,heq])))
     rw [nS _ h6] at cB;cases cB
  ·have Hu:B.contains i=false:=by cases h:B.contains i with|false=>rfl|true=>exact absurd h hbi
   rcases hX with ⟨h1,G1,hG,HS,hv⟩|⟨p,h0,_,_,_⟩
   ·refine sZ (fun e a' w' ⟨he,hD⟩=>⟨he,.inl ⟨fun j hj=>?_,hD⟩⟩) (hstep i o S a w G1 ho Hu cB nS hG HS hv)
    unfold eO
    rw [ah (by rintro rfl;rw [Hu] at hj;cases hj)]
    exact h1 j hj
   ·rw [h0 i hil Hu] at cB;cases cB
 ·intro S a w hall hX
  rcases hX with ⟨h1,G1,hG,HS,hv⟩|⟨p,_,_,h3,h4⟩
  ·have hnil:B=[]:=by
    cases B with
    | nil=>rfl
    | cons b B=>have h5:=h1 b (by simp);rw [hall b (hB1 0 b rfl).1] at h5;cases h5
   subst hnil
   have h6:=hend a w G1 hG HS fun j e _ he=>by
    have hjl:j < l.length:=by
     unfold fG at he
     by_cases hl:j < l.length
     ·exact hl
     ·rw [List.getElem?_eq_none (by omega)] at he;cases he
    exact hv j e (hall j hjl) he
   exact h6.2
  ·have hnil:B.drop p=[]:=by
    cases hd:B.drop p with
    | nil=>rfl
    | cons b B' =>
     have hb:B[p]?=some b:=by
      have:=aB (fun x:List Nat=>x[0]?) hd
      simpa using this
     have h5:=h3 p b hb (dJ _)
     rw [hall b (hB1 p b hb).1] at h5;cases h5
   rw [hnil] at h4
   exact h4.2
def allI (φ:Nat→Oper→Prop):Nat→List Oper→Prop
 | _,[]=>True
 | i,o :: r=>φ i o∧allI φ (i+1) r
theorem dD {φ:Nat→Oper→Prop} {i:Nat}:allI φ i []:=trivial
theorem bq {φ:Nat→Oper→Prop} {i:Nat} {o:Oper} {r:List Oper} (h:φ i o) (t:allI φ (i+1) r):allI φ i (o :: r):=⟨h,t⟩
theorem I7 {φ:Nat→Oper→Prop}:∀ {l:List Oper} {s:Nat},allI φ s l→∀ i o,l[i]?=some o→φ (s+i) o
 | [],s,_,i,o,h=>by simp at h
 | x :: l,s,h,0,o,ho=>by simp at ho;subst ho;exact h.1
 | x :: l,s,h,i+1,o,ho=>by
  have:=I7 h.2 i o (by simpa using ho)
  rwa [show s+1+i=s+(i+1) by omega] at this
theorem ER {id:Nat} (hm:P.follows .mixedOrders=true) (cZ:List (List Nat)) (B:List Nat) (hk:DJ l cZ=true) (hB:Ca l cZ B=true) (pr:Nat→ak→GH→Prop) (kX:∀ i v (G G':GH),(∀ k o,G k=some o→G' k=some o)→pr i v G→pr i v G')
  (H:St N D w0 F G0 G L T a w)
  (hstep:allI (fun i o=>∀ S a w G1,B.contains i=false→S i=false→(∀ j∈cZ.getD i [],S j=true)→(∀ k o,G k=some o→G1 k=some o)→St N D w0 F G0 G1 L T a w→(∀ i d,S i=true→fG l i=some d→∃ v,a.tmps[d]?=some v∧pr i v G1) →
   WL r P l.toArray (fun e a' w'=>e=.normal∧DX N D w0 F G0 G L T l pr (eO S i) a' w') [o] a w) 0 l)
  (hend:∀ a w G1,(∀ k o,G k=some o→G1 k=some o)→St N D w0 F G0 G1 L T a w→(∀ i d,B.contains i=false→fG l i=some d→∃ v,a.tmps[d]?=some v∧pr i v G1)→WL r P l.toArray (fun e a w=>e=.normal∧Q .normal a w) (sP l B) a w):WP r P (.region id l.toArray true) Q a w :=
 acS hm cZ B hk hB pr kX H (fun i o S a w G1 ho hb hs hc hg HS hv=>by
  have:=I7 hstep i o ho
  rw [lD] at this
  exact this S a w G1 hb hs hc hg HS hv) hend
theorem aX {pr:Nat→ak→GH→Prop} {i d j t:Nat} {op:Op} {ty:TypeId} {pos:String} {aU:Array Edge} {want b:Bool} {cZ:List (List Nat)} {B:List Nat} (hok:pU l T i=true) (kX:∀ i v (G G':GH),(∀ k o,G k=some o→G' k=some o)→pr i v G→pr i v G')
  (hi:fG l i=some d) (hdl:Nat.blt i l.length=true) (hjd:fG l j=some t) (hjc:(cZ.getD i []).contains j=true) (hd:Nat.blt d N=true) (hb:∀ v G,pr j v G→v=.bool b) (hbw:b=!want) (hu:∀ G,pr i undef G) :
  ∀ S a w G1,B.contains i=false→S i=false→(∀ j∈cZ.getD i [],S j=true)→(∀ k o,G k=some o→G1 k=some o)→St N D w0 F G0 G1 L T a w→(∀ i d,S i=true→fG l i=some d→∃ v,a.tmps[d]?=some v∧pr i v G1) →
   WL r P l.toArray (fun e a' w'=>e=.normal∧DX N D w0 F G0 G L T l pr (eO S i) a' w') [⟨some d,op,ty,pos,aU,some (j,want)⟩] a w:=by
 intro S a w G1 _ _ hc hG HT hv
 obtain ⟨u,hu1,hu2⟩:=hv j t (hc j (A9.1 hjc)) hjd
 obtain rfl:=hb _ _ hu2
 have H:=(HT.nA hu1).full
 refine aaT H (by unfold fG at hjd;simpa using hjd) (show lk ((t,Value.bool b) :: (T++full N a)) t=_ by simp [lk]) hbw hd ?_
 intro a' H'
 refine aH ⟨rfl,?_⟩
 exact kC (Xs:=(t,.bool b) :: T) hok kX hi hdl HT H hG hv (fun _ _ h=>h) (hu G1) H'
def QG (pr:Nat→ak→GH→Prop):List (Nat × Nat × ak)→Prop
 | []=>True
 | (j,_,u) :: r=>(∀ v G,pr j v G→v=u)∧QG pr r
def Dj (us:List (Nat × Nat × ak)) (T:List (Nat × ak)):List (Nat × ak):=us.foldl (fun T x=>(x.2.1,x.2.2) :: T) T
theorem WG {pr:Nat→ak→GH→Prop} {S:Nat→Bool} {ds:List Nat}:∀ {us:List (Nat × Nat × ak)} {T:List (Nat × ak)},us.all (fun x=>ds.contains x.1 && (fG l x.1 == some x.2.1))=true→QG pr us→(∀ j∈ds,S j=true)→(∀ i d,S i=true→fG l i=some d→∃ v,a.tmps[d]?=some v∧pr i v G1)→St N D w0 F G0 G1 L T a w→St N D w0 F G0 G1 L (Dj us T) a w
 | [],_,_,_,_,_,H=>H
 | (j,t,u) :: r,T,h,hu,hc,hv,H=>by
  simp only [List.all_cons,oF,beq_iff_eq] at h
  obtain ⟨v,hv1,hv2⟩:=hv j t (hc j (A9.1 h.1.1)) h.1.2
  obtain rfl:=hu.1 v _ hv2
  exact WG (us:=r) h.2 hu.2 hc hv (H.nA hv1)
theorem fO {pr:Nat→ak→GH→Prop} {i d:Nat} {o:Oper} {cZ:List (List Nat)} {B:List Nat} (us:List (Nat × Nat × ak)) (Uc:us.all (fun x=>(cZ.getD i []).contains x.1 && (fG l x.1 == some x.2.1))=true) (hu:QG pr us) (hok:pU l T i=true) (kX:∀ i v (G G':GH),(∀ k o,G k=some o→G' k=some o)→pr i v G→pr i v G')
  (hi:fG l i=some d) (hdl:Nat.blt i l.length=true)
  (k:∀ S a w G1,(∀ k o,G k=some o→G1 k=some o)→St N D w0 F G0 G1 L T a w→St N D w0 F G0 G1 L (Dj us T++full N a) a w →
   (∀ {a' w' G2 v},St N D w0 F G0 G2 L ((d,v) :: (Dj us T++full N a)) a' w'→(∀ k o,G1 k=some o→G2 k=some o)→pr i v G2→WL r P l.toArray (fun e a' w'=>e=.normal∧DX N D w0 F G0 G L T l pr (eO S i) a' w') [] a' w')→WL r P l.toArray (fun e a' w'=>e=.normal∧DX N D w0 F G0 G L T l pr (eO S i) a' w') [o] a w) :
  ∀ S a w G1,B.contains i=false→S i=false→(∀ j∈cZ.getD i [],S j=true)→(∀ k o,G k=some o→G1 k=some o)→St N D w0 F G0 G1 L T a w→(∀ i d,S i=true→fG l i=some d→∃ v,a.tmps[d]?=some v∧pr i v G1) →
   WL r P l.toArray (fun e a' w'=>e=.normal∧DX N D w0 F G0 G L T l pr (eO S i) a' w') [o] a w:=by
 intro S a w G1 _ _ hc hG HT hv
 have H:=WG Uc hu hc hv HT
 exact k S a w G1 hG HT H.full fun H' hG2 hp=>aH ⟨rfl,kC (Xs:=Dj us T) hok kX hi hdl HT H.full hG hv hG2 hp H'⟩
end
end
section
open Go.RowKit
section
variable {N:Nat} {D:List Deferred} {w0:World} {F:Nat→Prop} {G0 G:GH} {L:List (Nat × Obj)} {T:List (Nat × ak)}
variable {r:Option Nat} {P:Program} {ops:Array Oper} {Q:Exit→Act→World→Prop} {rest:List Oper} {w:World}
variable {d:Nat} {ty:TypeId} {pos:String} {aU:Array Edge}
theorem kH {a:Act} {l:List Oper} (H:St N D w0 F G0 G L T a w) (k:∀ a,St N D w0 F G0 G L T a w→WL r P ops Q l a w):WL r P ops Q l a w:=k a H
theorem Rm {x:Operand} {v:ak} (h:(ev T x,Nat.blt d N)=(some v,true)) (k:∀ a',St N D w0 F G0 G L ((d,v) :: T) a' w→WL r P ops Q rest a' w) :
  ∀ a,St N D w0 F G0 G L T a w→WL r P ops Q (⟨some d,.move x,ty,pos,aU,none⟩ :: rest) a w:=fun _ H=>by
 simp only [jh] at h
 exact J4 H wn h.1 h.2 k
theorem Ra {x:Operand} {v:ak} (h:(ev T x,Nat.blt d N)=(some v,true)) (k:∀ a',St N D w0 F G0 G L ((d,v) :: T) a' w→WL r P ops Q rest a' w) :
  ∀ a,St N D w0 F G0 G L T a w→WL r P ops Q (⟨some d,.assign x,ty,pos,aU,none⟩ :: rest) a w:=fun _ H=>by
 simp only [jh] at h
 exact amq H wn h.1 h.2 k
theorem Rc {op:BinOp} {x y:Operand} {t yt:TypeId} {kd:IntKind} {p q:Int} {b:Bool} (h:(ev T x,ev T y,KJ op p q,Nat.blt d N)=(some (.int kd p),some (.int kd q),some b,true)) (k:∀ a',St N D w0 F G0 G L ((d,.bool b) :: T) a' w→WL r P ops Q rest a' w) :
  ∀ a,St N D w0 F G0 G L T a w→WL r P ops Q (⟨some d,.binOp op t x y yt,ty,pos,aU,none⟩ :: rest) a w:=fun _ H=>by
 simp only [jh] at h
 exact MR H wn h.1 h.2.1 h.2.2.1 h.2.2.2 k
theorem Rf {s:TypeId} {x:Operand} {n b o off:Nat} (hs:dV P s n off) (h:(ev T x,Nat.blt d N)=(some (.pointer (some ⟨b,o,none⟩)),true)) (k:∀ a',St N D w0 F G0 G L ((d,.pointer (some ⟨b,o+off,none⟩)) :: T) a' w→WL r P ops Q rest a' w) :
  ∀ a,St N D w0 F G0 G L T a w→WL r P ops Q (⟨some d,.fieldAddr s x n,ty,pos,aU,none⟩ :: rest) a w:=fun _ H=>by
 simp only [jh] at h
 exact J2 hs H wn h.1 h.2 k
theorem Rn {x:Operand} {t:TypeId} {b:Bool} (h:(ev T x,Nat.blt d N)=(some (.bool b),true)) (k:∀ a',St N D w0 F G0 G L ((d,.bool (!b)) :: T) a' w→WL r P ops Q rest a' w) :
  ∀ a,St N D w0 F G0 G L T a w→WL r P ops Q (⟨some d,.unOp .not t x,ty,pos,aU,none⟩ :: rest) a w:=fun _ H=>by
 simp only [jh] at h
 exact MS H wn h.1 h.2 k
theorem Rk {x:Operand} {p:Addr} (h:(ev T x,Nat.blt d N)=(some (.pointer (some p)),true)) (k:∀ a',St N D w0 F G0 G L ((d,.pointer (some p)) :: T) a' w→WL r P ops Q rest a' w) :
  ∀ a,St N D w0 F G0 G L T a w→WL r P ops Q (⟨some d,.nilCheck x,ty,pos,aU,none⟩ :: rest) a w:=fun _ H=>by
 simp only [jh] at h
 exact uU H wn h.1 h.2 k
theorem Rl {x:Operand} {t e:TypeId} {A:Option Addr} {n c:Nat} (hs:P.underlying t=some (.slice e)) (h:(ev T x,Nat.blt d N)=(some (.slice A n c),true)) (k:∀ a',St N D w0 F G0 G L ((d,.int .i64 n) :: T) a' w→WL r P ops Q rest a' w) :
  ∀ a,St N D w0 F G0 G L T a w→WL r P ops Q (⟨some d,.call { callee:=.builtin .len,args:=#[x],argTypes:=#[t] },ty,pos,aU,none⟩ :: rest) a w:=fun _ H=>by
 simp only [jh] at h
 exact aaN hs H wn h.1 h.2 k
theorem Ro {t:TypeId} {sz bytes:Nat} {zero:List ak} (ht:Ty P t sz bytes zero false) (i:Nat) {x:Operand} {b o:Nat} {v:ak} {c:Array ak} {e:TypeId} {fz:Nat × Nat} (h:(ev T x,L[i]?,Nat.blt d N,c[o]?)=(some (.pointer (some ⟨b,o,none⟩)),some (b,.cells c e fz),true,some v))
  (k:∀ a',St N D w0 F G0 G L ((d,v) :: T) a' w→WL r P ops Q rest a' w) :
  ∀ a,St N D w0 F G0 G L T a w→WL r P ops Q (⟨some d,.load t x,ty,pos,aU,none⟩ :: rest) a w:=fun _ H=>by
 simp only [jh] at h
 exact zT ht H wn h.1 (H.hp.tV i h.2.1 h.2.2.2) h.2.2.1 k
theorem bg {d':Nat} {ty':TypeId} {pos':String} {acE:Array Edge} {s:TypeId} {x:Operand} {n b o off:Nat} (hs:dV P s n off) {t:TypeId} {sz bytes:Nat} {zero:List ak} (ht:Ty P t sz bytes zero false) (i:Nat) {v:ak} {c:Array ak} {e:TypeId} {fz:Nat × Nat}
  (h:(ev T x,Nat.blt d N)=(some (.pointer (some ⟨b,o,none⟩)),true)) (h':(L[i]?,Nat.blt d' N,c[o+off]?)=(some (b,.cells c e fz),true,some v))
  (k:∀ a',St N D w0 F G0 G L ((d',v) :: (d,.pointer (some ⟨b,o+off,none⟩)) :: T) a' w→WL r P ops Q rest a' w) :
  ∀ a,St N D w0 F G0 G L T a w→WL r P ops Q (⟨some d,.fieldAddr s x n,ty,pos,aU,none⟩ :: ⟨some d',.load t (.tmp d),ty',pos',acE,none⟩ :: rest) a w :=
 Rf hs h (Ro ht i (by simp only [jh] at h' ⊢;exact ⟨yB ..,h'.1,h'.2.1,h'.2.2⟩) k)
theorem lv {a:Act} {fn:Func} {t:Nat} {v:ak} {R:Ending→World→Prop} (H:St N [] w0 F G0 G L T a w) (hr:fn.results=#[.tmp t]) (h:lk T t=some v) (hR:R (.returned v) w):bodyPostM (FW none) 0 P fn R .ret a w :=
 (leave1 H (rs:=[.tmp t]) hr (.cons (bM H h) .nil) hR).1
theorem St.rt {a:Act} {R:ak→GH→Prop} {v:ak} (H:St N D w0 (fun k=>k < w0.heap.size) G0 G L T a w) (hR:R v G):bJ w0 G0 R (.returned v) w:=H.hp.ret hR
theorem St.ro {a:Act} (H:St N D w0 F G0 G L T a w):∀ k o,G k=some o→w.heap[k]?=some o:=H.hp.ro
theorem iJ {H:GH}:∀ k o,H k=some o→H k=some o:=fun _ _ h=>h
end
theorem eN {N:Nat} {w:World} {G:GH} {P:Program} (T:List (Nat × ak)) {f:FuncId} {fn:Func} {c:Code} {vs:List ak} {R:Ending→World→Prop} (hf:P.funcs[f]?=some fn) (hb:fn.body=some c) (hN:fn.ntmps=N) (hle:Nat.ble vs.length N=true)
  (hT:GI 0 vs=T) (hG:Hold G w) (h:∀ a,St N [] w (fun k=>k < w.heap.size) G G [] T a w→WP none P c (bodyPostM (FW none) 0 P fn R) a w):Calls P f vs.toArray w R :=
 enter hf hb hN hle hT hG (fun _ h=>h) (fun _ h=>by cases h) (fun _ h=>by cases h) (fun _ h=>by cases h) List.Pairwise.nil h
def pvW:List ak→Nat→ak→Prop
 | [],_,_=>True
 | x :: _,0,v=>v=x
 | _ :: l,i+1,v=>pvW l i v
def U4 (vs:List ak) (i:Nat) (v:ak) (_:GH):Prop:=pvW vs i v
section
variable {N:Nat} {D:List Deferred} {w0:World} {F:Nat→Prop} {G0 G:GH} {L:OL} {T:List (Nat × ak)}
variable {P:Program} {l:List Oper} {r:Option Nat}
abbrev KD (N:Nat) (D:List Deferred) (w0:World) (F:Nat→Prop) (G0 G:GH) (L:OL) (T:List (Nat × ak)) (r:Option Nat) (P:Program) (l:List Oper) (pr:Nat→ak→GH→Prop) (i d:Nat) (o:Oper) (us:List (Nat × Nat × ak)):Prop :=
 ∀ S a w G1,(∀ k o,G k=some o→G1 k=some o)→St N D w0 F G0 G1 L T a w→St N D w0 F G0 G1 L (Dj us T++full N a) a w →
   (∀ {a' w' G2 v},St N D w0 F G0 G2 L ((d,v) :: (Dj us T++full N a)) a' w'→(∀ k o,G1 k=some o→G2 k=some o)→pr i v G2→WL r P l.toArray (fun e a' w'=>e=.normal∧DX N D w0 F G0 G L T l pr (eO S i) a' w') [] a' w')→WL r P l.toArray (fun e a' w'=>e=.normal∧DX N D w0 F G0 G L T l pr (eO S i) a' w') [o] a w
abbrev xG (N:Nat) (D:List Deferred) (w0:World) (F:Nat→Prop) (G0 G:GH) (L:OL) (T:List (Nat × ak)) (r:Option Nat) (P:Program) (l:List Oper) (cZ:List (List Nat)) (B:List Nat) (pr:Nat→ak→GH→Prop) (i:Nat) (o:Oper):Prop :=
 ∀ S a w G1,B.contains i=false→S i=false→(∀ j∈cZ.getD i [],S j=true)→(∀ k o,G k=some o→G1 k=some o)→St N D w0 F G0 G1 L T a w→(∀ i d,S i=true→fG l i=some d→∃ v,a.tmps[d]?=some v∧pr i v G1) →
   WL r P l.toArray (fun e a' w'=>e=.normal∧DX N D w0 F G0 G L T l pr (eO S i) a' w') [o] a w
variable {pr:Nat→ak→GH→Prop} {i d:Nat} {o:Oper} {cZ:List (List Nat)} {B:List Nat}
theorem yR (h:(fG l i,Nat.blt i l.length)=(some d,true)) (k:KD N D w0 F G0 G L T r P l pr i d o [])
  (hok:pU l T i=true:=by kernel_rfl) (kX:∀ i v (G G':GH),(∀ k o,G k=some o→G' k=some o)→pr i v G→pr i v G':=by exact fun _ _ _ _ _ h=>h):xG N D w0 F G0 G L T r P l cZ B pr i o:=by
 simp only [jh] at h
 exact fO [] rfl trivial hok kX h.1 h.2 k
theorem dN (j t:Nat) {x:ak} (h:(fG l i,Nat.blt i l.length,[(j,t,x)].all (fun x=>(cZ.getD i []).contains x.1 && (fG l x.1 == some x.2.1)))=(some d,true,true)) (hu:pr j=fun v _=>v=x) (k:KD N D w0 F G0 G L T r P l pr i d o [(j,t,x)])
  (hok:pU l T i=true:=by kernel_rfl) (kX:∀ i v (G G':GH),(∀ k o,G k=some o→G' k=some o)→pr i v G→pr i v G':=by exact fun _ _ _ _ _ h=>h):xG N D w0 F G0 G L T r P l cZ B pr i o:=by
 simp only [jh] at h
 exact fO _ h.2.2 ⟨fun v G h=>by rw [hu] at h;exact h,aC⟩ hok kX h.1 h.2.1 k
theorem eu (j t j' t':Nat) {x x':ak} (h:(fG l i,Nat.blt i l.length,[(j,t,x),(j',t',x')].all (fun x=>(cZ.getD i []).contains x.1 && (fG l x.1 == some x.2.1)))=(some d,true,true)) (hu:(pr j,pr j')=(fun v _=>v=x,fun v _=>v=x')) (k:KD N D w0 F G0 G L T r P l pr i d o [(j,t,x),(j',t',x')])
  (hok:pU l T i=true:=by kernel_rfl) (kX:∀ i v (G G':GH),(∀ k o,G k=some o→G' k=some o)→pr i v G→pr i v G':=by exact fun _ _ _ _ _ h=>h):xG N D w0 F G0 G L T r P l cZ B pr i o:=by
 simp only [jh] at h hu
 exact fO _ h.2.2 ⟨fun v G h=>by rw [hu.1] at h;exact h,fun v G h=>by rw [hu.2] at h;exact h,aC⟩ hok kX h.1 h.2.1 k
theorem rC (j t j' t' j2 t2:Nat) {x x' x2:ak} (h:(fG l i,Nat.blt i l.length,[(j,t,x),(j',t',x'),(j2,t2,x2)].all (fun x=>(cZ.getD i []).contains x.1 && (fG l x.1 == some x.2.1)))=(some d,true,true)) (hu:(pr j,pr j',pr j2)=(fun v _=>v=x,fun v _=>v=x',fun v _=>v=x2)) (k:KD N D w0 F G0 G L T r P l pr i d o [(j,t,x),(j',t',x'),(j2,t2,x2)])
  (hok:pU l T i=true:=by kernel_rfl) (kX:∀ i v (G G':GH),(∀ k o,G k=some o→G' k=some o)→pr i v G→pr i v G':=by exact fun _ _ _ _ _ h=>h):xG N D w0 F G0 G L T r P l cZ B pr i o:=by
 simp only [jh] at h hu
 exact fO _ h.2.2 ⟨fun v G h=>by rw [hu.1] at h;exact h,fun v G h=>by rw [hu.2.1] at h;exact h,fun v G h=>by rw [hu.2.2] at h;exact h,aC⟩ hok kX h.1 h.2.1 k
theorem skI (j:Nat) {t:Nat} {op:Op} {ty:TypeId} {pos:String} {aU:Array Edge} {want b b':Bool} (he:b'=b) (h:(fG l i,Nat.blt i l.length,fG l j,(cZ.getD i []).contains j,Nat.blt d N,b,b)=(some d,true,some t,true,true,!want,b)) (hv:pr j=fun v _=>v=.bool b')
  (hok:pU l T i=true:=by kernel_rfl) (kX:∀ i v (G G':GH),(∀ k o,G k=some o→G' k=some o)→pr i v G→pr i v G':=by exact fun _ _ _ _ _ h=>h) (hu:∀ G,pr i undef G:=by exact fun _=>rfl):xG N D w0 F G0 G L T r P l cZ B pr i ⟨some d,op,ty,pos,aU,some (j,want)⟩:=by
 simp only [jh] at h
 exact aX (b:=b) hok kX h.1 h.2.1 h.2.2.1 h.2.2.2.1 h.2.2.2.2.1 (fun v G g=>by rw [hv] at g;rw [← he];exact g) h.2.2.2.2.2.1 hu
theorem bY {X:(Nat→Bool)→Act→World→GH→Prop} {b:Bool} (h:b=true):∀ S a w G1,b=false→X S a w G1:=fun _ _ _ _ hB=>by rw [h] at hB;cases hB
theorem aG {φ:Nat→Oper→Prop} {i:Nat} {o1 o2 o3 o4:Oper} {r:List Oper} (h1:φ i o1) (h2:φ (i+1) o2) (h3:φ (i+1+1) o3) (h4:φ (i+1+1+1) o4) (t:allI φ (i+1+1+1+1) r):allI φ i (o1 :: o2 :: o3 :: o4 :: r):=⟨h1,h2,h3,h4,t⟩
end
section
variable {N:Nat} {D:List Deferred} {w0:World} {F:Nat→Prop} {G0 G:GH} {L:List (Nat × Obj)} {T:List (Nat × ak)}
variable {r:Option Nat} {P:Program} {ops:Array Oper} {Q:Exit→Act→World→Prop} {rest:List Oper} {w:World}
variable {d:Nat} {ty:TypeId} {pos:String} {aU:Array Edge} {j t:Nat} {want b:Bool}
theorem YM {x:Operand} {v:ak} (hb:b=want) (h:((ops[j]?).bind (·.dst),lk T t,ev T x,Nat.blt d N)=(some t,some (.bool b),some v,true)) (k:∀ a',St N D w0 F G0 G L ((d,v) :: T) a' w→WL r P ops Q rest a' w) :
  ∀ a,St N D w0 F G0 G L T a w→WL r P ops Q (⟨some d,.move x,ty,pos,aU,some (j,want)⟩ :: rest) a w:=fun _ H=>by
 simp only [jh] at h
 exact J4 H (wg H h.1 h.2.1 hb) h.2.2.1 h.2.2.2 k
theorem YN {x:Operand} {y:TypeId} {v:Bool} (hb:b=want) (h:((ops[j]?).bind (·.dst),lk T t,ev T x,Nat.blt d N)=(some t,some (.bool b),some (.bool v),true)) (k:∀ a',St N D w0 F G0 G L ((d,.bool (!v)) :: T) a' w→WL r P ops Q rest a' w) :
  ∀ a,St N D w0 F G0 G L T a w→WL r P ops Q (⟨some d,.unOp .not y x,ty,pos,aU,some (j,want)⟩ :: rest) a w:=fun _ H=>by
 simp only [jh] at h
 exact MS H (wg H h.1 h.2.1 hb) h.2.2.1 h.2.2.2 k
theorem YC {op:BinOp} {x y:Operand} {u yt:TypeId} {kd:IntKind} {p q:Int} {c:Bool} (hb:b=want) (h:((ops[j]?).bind (·.dst),lk T t,ev T x,ev T y,KJ op p q,Nat.blt d N)=(some t,some (.bool b),some (.int kd p),some (.int kd q),some c,true)) (k:∀ a',St N D w0 F G0 G L ((d,.bool c) :: T) a' w→WL r P ops Q rest a' w) :
  ∀ a,St N D w0 F G0 G L T a w→WL r P ops Q (⟨some d,.binOp op u x y yt,ty,pos,aU,some (j,want)⟩ :: rest) a w:=fun _ H=>by
 simp only [jh] at h
 exact MR H (wg H h.1 h.2.1 hb) h.2.2.1 h.2.2.2.1 h.2.2.2.2.1 h.2.2.2.2.2 k
theorem YF {s:TypeId} {x:Operand} {n e o off:Nat} (hs:dV P s n off) (hb:b=want) (h:((ops[j]?).bind (·.dst),lk T t,ev T x,Nat.blt d N)=(some t,some (.bool b),some (.pointer (some ⟨e,o,none⟩)),true)) (k:∀ a',St N D w0 F G0 G L ((d,.pointer (some ⟨e,o+off,none⟩)) :: T) a' w→WL r P ops Q rest a' w) :
  ∀ a,St N D w0 F G0 G L T a w→WL r P ops Q (⟨some d,.fieldAddr s x n,ty,pos,aU,some (j,want)⟩ :: rest) a w:=fun _ H=>by
 simp only [jh] at h
 exact J2 hs H (wg H h.1 h.2.1 hb) h.2.2.1 h.2.2.2 k
theorem YO {u:TypeId} {sz bytes:Nat} {zero:List ak} (ht:Ty P u sz bytes zero false) (i:Nat) {x:Operand} {e o:Nat} {v:ak} {c:Array ak} {y:TypeId} {fz:Nat × Nat} (hb:b=want) (h:((ops[j]?).bind (·.dst),lk T t,ev T x,L[i]?,Nat.blt d N,c[o]?)=(some t,some (.bool b),some (.pointer (some ⟨e,o,none⟩)),some (e,.cells c y fz),true,some v))
  (k:∀ a',St N D w0 F G0 G L ((d,v) :: T) a' w→WL r P ops Q rest a' w) :
  ∀ a,St N D w0 F G0 G L T a w→WL r P ops Q (⟨some d,.load u x,ty,pos,aU,some (j,want)⟩ :: rest) a w:=fun _ H=>by
 simp only [jh] at h
 exact zT ht H (wg H h.1 h.2.1 hb) h.2.2.1 (H.hp.tV i h.2.2.2.1 h.2.2.2.2.2) h.2.2.2.2.1 k
theorem YR {u:TypeId} {sz bytes:Nat} {zero:List ak} (ht:Ty P u sz bytes zero false) {x:Operand} {e o:Nat} {v:ak} (hb:b=want) (h:((ops[j]?).bind (·.dst),lk T t,ev T x,Nat.blt d N)=(some t,some (.bool b),some (.pointer (some ⟨e,o,none⟩)),true)) (hv:aF G e o=some v)
  (k:∀ a',St N D w0 F G0 G L ((d,v) :: T) a' w→WL r P ops Q rest a' w) :
  ∀ a,St N D w0 F G0 G L T a w→WL r P ops Q (⟨some d,.load u x,ty,pos,aU,some (j,want)⟩ :: rest) a w:=fun _ H=>by
 simp only [jh] at h
 exact zT ht H (wg H h.1 h.2.1 hb) h.2.2.1 (H.hp.aF hv) h.2.2.2 k
theorem Rg {u:TypeId} {sz bytes:Nat} {zero:List ak} (ht:Ty P u sz bytes zero false) {x:Operand} {e o:Nat} {v:ak} (h:(ev T x,Nat.blt d N)=(some (.pointer (some ⟨e,o,none⟩)),true)) (hv:aF G e o=some v)
  (k:∀ a',St N D w0 F G0 G L ((d,v) :: T) a' w→WL r P ops Q rest a' w) :
  ∀ a,St N D w0 F G0 G L T a w→WL r P ops Q (⟨some d,.load u x,ty,pos,aU,none⟩ :: rest) a w:=fun _ H=>by
 simp only [jh] at h
 exact zT ht H wn h.1 (H.hp.aF hv) h.2 k
theorem YL {x:Operand} {u e:TypeId} {A:Option Addr} {n c:Nat} (hs:P.underlying u=some (.slice e)) (hb:b=want) (h:((ops[j]?).bind (·.dst),lk T t,ev T x,Nat.blt d N)=(some t,some (.bool b),some (.slice A n c),true)) (k:∀ a',St N D w0 F G0 G L ((d,.int .i64 n) :: T) a' w→WL r P ops Q rest a' w) :
  ∀ a,St N D w0 F G0 G L T a w→WL r P ops Q (⟨some d,.call { callee:=.builtin .len,args:=#[x],argTypes:=#[u] },ty,pos,aU,some (j,want)⟩ :: rest) a w:=fun _ H=>by
 simp only [jh] at h
 exact aaN hs H (wg H h.1 h.2.1 hb) h.2.2.1 h.2.2.2 k
theorem Ks {op:Op} (hb:b=!want) (h:((ops[j]?).bind (·.dst),lk T t,Nat.blt d N)=(some t,some (.bool b),true)) (k:∀ a',St N D w0 F G0 G L ((d,undef) :: T) a' w→WL r P ops Q rest a' w) :
  ∀ a,St N D w0 F G0 G L T a w→WL r P ops Q (⟨some d,op,ty,pos,aU,some (j,want)⟩ :: rest) a w:=fun _ H=>by
 simp only [jh] at h
 exact aaT H h.1 h.2.1 hb h.2.2 k
theorem aN {d2:Nat} {o1 o2:Op} {Vr:TypeId} {pos2:String} {QE:Array Edge} (hb:b=!want) (h:((ops[j]?).bind (·.dst),lk T t,lk ((d,undef) :: T) t,Nat.blt d N,Nat.blt d2 N)=(some t,some (.bool b),some (.bool b),true,true)) (k:∀ a',St N D w0 F G0 G L ((d2,undef) :: (d,undef) :: T) a' w→WL r P ops Q rest a' w) :
  ∀ a,St N D w0 F G0 G L T a w→WL r P ops Q (⟨some d,o1,ty,pos,aU,some (j,want)⟩ :: ⟨some d2,o2,Vr,pos2,QE,some (j,want)⟩ :: rest) a w:=by
 simp only [jh] at h
 exact Ks hb (by rw [h.1,h.2.1,h.2.2.2.1]) (Ks hb (by rw [h.1,h.2.2.1,h.2.2.2.2]) k)
theorem aQ {d2 d3:Nat} {o1 o2 o3:Op} {Vr ty3:TypeId} {pos2 alK:String} {QE acF:Array Edge} (hb:b=!want) (h:((ops[j]?).bind (·.dst),lk T t,lk ((d,undef) :: T) t,lk ((d2,undef) :: (d,undef) :: T) t,Nat.blt d N,Nat.blt d2 N,Nat.blt d3 N)=(some t,some (.bool b),some (.bool b),some (.bool b),true,true,true)) (k:∀ a',St N D w0 F G0 G L ((d3,undef) :: (d2,undef) :: (d,undef) :: T) a' w→WL r P ops Q rest a' w) :
  ∀ a,St N D w0 F G0 G L T a w→WL r P ops Q (⟨some d,o1,ty,pos,aU,some (j,want)⟩ :: ⟨some d2,o2,Vr,pos2,QE,some (j,want)⟩ :: ⟨some d3,o3,ty3,alK,acF,some (j,want)⟩ :: rest) a w:=by
 simp only [jh] at h
 exact Ks hb (by rw [h.1,h.2.1,h.2.2.2.2.1]) (aN hb (by rw [h.1,h.2.2.1,h.2.2.2.1,h.2.2.2.2.2.1,h.2.2.2.2.2.2]) k)
theorem Ku {op:Op} (h:((ops[j]?).bind (·.dst),lk T t,Nat.blt d N)=(some t,some undef,true)) (k:∀ a',St N D w0 F G0 G L ((d,undef) :: T) a' w→WL r P ops Q rest a' w) :
  ∀ a,St N D w0 F G0 G L T a w→WL r P ops Q (⟨some d,op,ty,pos,aU,some (j,want)⟩ :: rest) a w:=fun _ H=>by
 simp only [jh] at h
 exact amA H h.1 h.2.1 h.2.2 k
theorem Pt {c x y:Operand} {v:ak} (hb:b=true) (h:(ev T c,ev T x,Nat.blt d N)=(some (.bool b),some v,true)) (k:∀ a',St N D w0 F G0 G L ((d,v) :: T) a' w→WL r P ops Q rest a' w) :
  ∀ a,St N D w0 F G0 G L T a w→WL r P ops Q (⟨some d,.pick c x y,ty,pos,aU,none⟩ :: rest) a w:=fun _ H=>by
 simp only [jh] at h
 exact MU H wn h.1 hb h.2.1 h.2.2 k
theorem Pf {c x y:Operand} {v:ak} (hb:b=false) (h:(ev T c,ev T y,Nat.blt d N)=(some (.bool b),some v,true)) (k:∀ a',St N D w0 F G0 G L ((d,v) :: T) a' w→WL r P ops Q rest a' w) :
  ∀ a,St N D w0 F G0 G L T a w→WL r P ops Q (⟨some d,.pick c x y,ty,pos,aU,none⟩ :: rest) a w:=fun _ H=>by
 simp only [jh] at h
 exact P5 H wn h.1 hb h.2.1 h.2.2 k
theorem PT {c x y:Operand} {v:ak} {b':Bool} (hb:b=want) (hb':b'=true) (h:((ops[j]?).bind (·.dst),lk T t,ev T c,ev T x,Nat.blt d N)=(some t,some (.bool b),some (.bool b'),some v,true)) (k:∀ a',St N D w0 F G0 G L ((d,v) :: T) a' w→WL r P ops Q rest a' w) :
  ∀ a,St N D w0 F G0 G L T a w→WL r P ops Q (⟨some d,.pick c x y,ty,pos,aU,some (j,want)⟩ :: rest) a w:=fun _ H=>by
 simp only [jh] at h
 exact MU H (wg H h.1 h.2.1 hb) h.2.2.1 hb' h.2.2.2.1 h.2.2.2.2 k
theorem PF {c x y:Operand} {v:ak} {b':Bool} (hb:b=want) (hb':b'=false) (h:((ops[j]?).bind (·.dst),lk T t,ev T c,ev T y,Nat.blt d N)=(some t,some (.bool b),some (.bool b'),some v,true)) (k:∀ a',St N D w0 F G0 G L ((d,v) :: T) a' w→WL r P ops Q rest a' w) :
  ∀ a,St N D w0 F G0 G L T a w→WL r P ops Q (⟨some d,.pick c x y,ty,pos,aU,some (j,want)⟩ :: rest) a w:=fun _ H=>by
 simp only [jh] at h
 exact P5 H (wg H h.1 h.2.1 hb) h.2.2.1 hb' h.2.2.2.1 h.2.2.2.2 k
theorem Ri {s e:TypeId} {sz bytes:Nat} {zero:List ak} {agg:Bool} (hs:P.underlying s=some (.slice e)) (ht:Ty P e sz bytes zero agg) {x y:Operand} {q o n c:Nat} {kd:IntKind} {z:Int} {i:Nat}
  (h:(ev T x,ev T y,Nat.blt d N)=(some (.slice (some ⟨q,o,none⟩) n c),some (.int kd z),true)) (hz:z=(i:Int)) (k:∀ a',St N D w0 F G0 G L ((d,.pointer (some ⟨q,o+i*sz,none⟩)) :: T) a' w→WL r P ops Q rest a' w) (hn:i < n:=by first|assumption|omega) :
  ∀ a,St N D w0 F G0 G L T a w→WL r P ops Q (⟨some d,.indexAddr s x y,ty,pos,aU,none⟩ :: rest) a w:=fun _ H=>by
 simp only [jh] at h
 exact PY hs ht i H wn h.1 h.2.1 hz hn h.2.2 k
theorem YI {s e:TypeId} {sz bytes:Nat} {zero:List ak} {agg:Bool} (hs:P.underlying s=some (.slice e)) (ht:Ty P e sz bytes zero agg) {x y:Operand} {q o n c:Nat} {kd:IntKind} {z:Int} {i:Nat} (hb:b=want)
  (h:((ops[j]?).bind (·.dst),lk T t,ev T x,ev T y,Nat.blt d N)=(some t,some (.bool b),some (.slice (some ⟨q,o,none⟩) n c),some (.int kd z),true)) (hz:z=(i:Int)) (k:∀ a',St N D w0 F G0 G L ((d,.pointer (some ⟨q,o+i*sz,none⟩)) :: T) a' w→WL r P ops Q rest a' w) (hn:i < n:=by first|assumption|omega) :
  ∀ a,St N D w0 F G0 G L T a w→WL r P ops Q (⟨some d,.indexAddr s x y,ty,pos,aU,some (j,want)⟩ :: rest) a w:=fun _ H=>by
 simp only [jh] at h
 exact PY hs ht i H (wg H h.1 h.2.1 hb) h.2.2.1 h.2.2.2.1 hz hn h.2.2.2.2 k
theorem Rd {x y:Operand} {u yt:TypeId} {p q z:Int} (h:(ev T x,ev T y,p+q,Nat.blt d N)=(some (.int .i64 p),some (.int .i64 q),z,true)) (k:∀ a',St N D w0 F G0 G L ((d,.int .i64 z) :: T) a' w→WL r P ops Q rest a' w) (h1:-9223372036854775808≤z:=by omega) (h2:z < 9223372036854775808:=by omega) :
  ∀ a,St N D w0 F G0 G L T a w→WL r P ops Q (⟨some d,.binOp .add u x y yt,ty,pos,aU,none⟩ :: rest) a w:=fun _ H=>by
 simp only [jh] at h
 exact PW z H wn h.1 h.2.1 h.2.2.1 h1 h2 h.2.2.2 k
theorem Rs {x y:Operand} {u yt:TypeId} {p q z:Int} (h:(ev T x,ev T y,p - q,Nat.blt d N)=(some (.int .i64 p),some (.int .i64 q),z,true)) (k:∀ a',St N D w0 F G0 G L ((d,.int .i64 z) :: T) a' w→WL r P ops Q rest a' w) (h1:-9223372036854775808≤z:=by omega) (h2:z < 9223372036854775808:=by omega) :
  ∀ a,St N D w0 F G0 G L T a w→WL r P ops Q (⟨some d,.binOp .sub u x y yt,ty,pos,aU,none⟩ :: rest) a w:=fun _ H=>by
 simp only [jh] at h
 exact nU z H wn h.1 h.2.1 h.2.2.1 h1 h2 h.2.2.2 k
theorem Rv {x:Operand} {u:TypeId} {s:ByteArray} (hs:P.underlying u=some .string) (h:(ev T x,Nat.blt d N)=(some (.string s),true)) (k:∀ a',St N D w0 F G0 G L ((d,.int .i64 s.size) :: T) a' w→WL r P ops Q rest a' w) :
  ∀ a,St N D w0 F G0 G L T a w→WL r P ops Q (⟨some d,.call { callee:=.builtin .len,args:=#[x],argTypes:=#[u] },ty,pos,aU,none⟩ :: rest) a w:=fun _ H=>by
 simp only [jh] at h
 exact BU hs H wn h.1 h.2 k
theorem Kz {X:Act→World→Prop} (hK:∀ a w,X a w→WL r P ops Q [] a w) (k:∀ a,St N D w0 F G0 G L T a w→X a w):∀ a,St N D w0 F G0 G L T a w→WL r P ops Q [] a w:=fun a H=>hK a w (k a H)
theorem Kn {X:Act→World→Prop} (hK:∀ a w,X a w→Q .normal a w) (k:∀ a,St N D w0 F G0 G L T a w→X a w):∀ a,St N D w0 F G0 G L T a w→WL r P ops Q [] a w:=fun a H=>aH (hK a w (k a H))
theorem aj {X:Act→World→Prop} {x:Operand} {v:ak} (hK:∀ a w,X a w→WL r P ops Q [] a w) (h:(ev T x,Nat.blt d N)=(some v,true)) (k:∀ a',St N D w0 F G0 G L ((d,v) :: T) a' w→X a' w):∀ a,St N D w0 F G0 G L T a w→WL r P ops Q [⟨some d,.assign x,ty,pos,aU,none⟩] a w:=Ra h (Kz hK k)
theorem aO {X:Act→World→Prop} {x:Operand} {v:ak} (hK:∀ a w,X a w→Q .normal a w) (h:(ev T x,Nat.blt d N)=(some v,true)) (k:∀ a',St N D w0 F G0 G L ((d,v) :: T) a' w→X a' w):∀ a,St N D w0 F G0 G L T a w→WL r P ops Q [⟨some d,.assign x,ty,pos,aU,none⟩] a w:=Ra h (Kn hK k)
theorem Kc {X:Act→World→Prop} (hK:∀ a w,X a w→Q .normal a w) (k:∀ a,St N D w0 F G0 G L T a w→X a w):∀ a,St N D w0 F G0 G L T a w→WP r P .skip Q a w:=fun a H=>fu (hK a w (k a H))
theorem SR {id:Nat} {l:List Oper} {y:Code} (h:∀ K:Act→World→Prop,(∀ a w,WP r P y Q a w→WL r P l.toArray (Exit.then K Q) [] a w)→∀ a,St N D w0 F G0 G L T a w→WL r P l.toArray (Exit.then K Q) l a w):∀ a,St N D w0 F G0 G L T a w→WP r P (.seq (.region id l.toArray false) y) Q a w:=fun a H=>dw fun K hK=>h K hK a H
theorem SQ {x y:Code} (h:∀ K:Act→World→Prop,(∀ a w,WP r P y Q a w→K a w)→∀ a,St N D w0 F G0 G L T a w→WP r P x (Exit.then K Q) a w):∀ a,St N D w0 F G0 G L T a w→WP r P (.seq x y) Q a w:=fun a H=>aS fun K hK=>h K hK a H
theorem SC {id:Nat} {l:List Oper} (h:∀ a,St N D w0 F G0 G L T a w→WL r P l.toArray Q l a w):∀ a,St N D w0 F G0 G L T a w→WP r P (.region id l.toArray false) Q a w:=fun a H=>nG (h a H)
theorem SB {id:Nat} {c:Code} (h:∀ a,St N D w0 F G0 G L T a w→WP r P c (Exit.inBlock id Q) a w):∀ a,St N D w0 F G0 G L T a w→WP r P (.block id c) Q a w:=fun a H=>vC (h a H)
theorem kP {a:Act} {c:Code} (H:St N D w0 F G0 G L T a w) (k:∀ a,St N D w0 F G0 G L T a w→WP r P c Q a w):WP r P c Q a w:=k a H
theorem lr {a:Act} {fn:Func} {v:ak} {R:Ending→World→Prop} (H:St N [] w0 F G0 G L T a w) (hr:fn.results=#[.tmp t]) (hQ:(lk T t,Q .ret a w)=(some v,bodyPostM (FW none) 0 P fn R .ret a w)) (hR:R (.returned v) w):WP none P .ret Q a w:=by
 simp only [jh] at hQ
 exact dR (by rw [hQ.2];exact lv H hr hQ.1 hR)
theorem dT {p:Prop} [Decidable p] (h:decide p=true):p:=tC h
theorem dF {p:Prop} [Decidable p] (h:decide p=false):¬p:=of_decide_eq_false h
end
section
variable {N:Nat} {D:List Deferred} {w0:World} {F:Nat→Prop} {G0 G:GH} {L:OL} {T:List (Nat × ak)}
variable {P:Program} {l:List Oper} {r:Option Nat} {pr:Nat→ak→GH→Prop} {i d:Nat} {o:Oper} {cZ:List (List Nat)} {B:List Nat} {v:ak}
abbrev Ck (N:Nat) (D:List Deferred) (w0:World) (F:Nat→Prop) (G0 G:GH) (L:OL) (T:List (Nat × ak)) (r:Option Nat) (P:Program) (l:List Oper) (d:Nat) (v:ak) (o:Oper) (us:List (Nat × Nat × ak)):Prop :=
 ∀ {Q:Exit→Act→World→Prop} {a:Act} {w:World} {G1:GH} (_:∀ k o,G k=some o→G1 k=some o),(∀ a',St N D w0 F G0 G1 L ((d,v) :: (Dj us T++full N a)) a' w→WL r P l.toArray Q [] a' w)→∀ a',St N D w0 F G0 G1 L (Dj us T++full N a) a' w→WL r P l.toArray Q [o] a' w
abbrev Nn (N:Nat) (D:List Deferred) (w0:World) (F:Nat→Prop) (G0 G:GH) (L:OL) (T:List (Nat × ak)) (r:Option Nat) (P:Program) (l:List Oper) (d:Nat) (v:ak) (o:Oper) (us:List (Nat × Nat × ak)):Prop :=
 ∀ {Q:Exit→Act→World→Prop} {a:Act} {w:World} {G1:GH},(∀ a',St N D w0 F G0 G1 L ((d,v) :: (Dj us T++full N a)) a' w→WL r P l.toArray Q [] a' w)→∀ a',St N D w0 F G0 G1 L (Dj us T++full N a) a' w→WL r P l.toArray Q [o] a' w
theorem Ck.k {us:List (Nat × Nat × ak)} (hv:pr i=fun u _=>u=v) (k:Ck N D w0 F G0 G L T r P l d v o us):KD N D w0 F G0 G L T r P l pr i d o us :=
 fun _ a w G1 hG _ H fin=>k hG (fun _ H=>fin H (fun _ _ h=>h) (by rw [hv])) a H
theorem X0 (h:(fG l i,Nat.blt i l.length,pr i)=(some d,true,fun u _=>u=v)) (k:Ck N D w0 F G0 G L T r P l d v o [])
  (hok:pU l T i=true:=by kernel_rfl) (kX:∀ i v (G G':GH),(∀ k o,G k=some o→G' k=some o)→pr i v G→pr i v G':=by exact fun _ _ _ _ _ h=>h):xG N D w0 F G0 G L T r P l cZ B pr i o:=by
 simp only [jh] at h
 exact yR (by rw [h.1,h.2.1]) (Ck.k h.2.2 k) hok kX
theorem X1 (j t:Nat) {x:ak} (h:(fG l i,Nat.blt i l.length,pr j,pr i,[(j,t,x)].all (fun x=>(cZ.getD i []).contains x.1 && (fG l x.1 == some x.2.1)))=(some d,true,fun v _=>v=x,fun u _=>u=v,true)) (k:Ck N D w0 F G0 G L T r P l d v o [(j,t,x)])
  (hok:pU l T i=true:=by kernel_rfl) (kX:∀ i v (G G':GH),(∀ k o,G k=some o→G' k=some o)→pr i v G→pr i v G':=by exact fun _ _ _ _ _ h=>h):xG N D w0 F G0 G L T r P l cZ B pr i o:=by
 simp only [jh] at h
 exact dN j t (by rw [h.1,h.2.1,h.2.2.2.2]) h.2.2.1 (Ck.k h.2.2.2.1 k) hok kX
theorem X2 (j t j' t':Nat) {x x':ak} (h:(fG l i,Nat.blt i l.length,pr j,pr j',pr i,[(j,t,x),(j',t',x')].all (fun x=>(cZ.getD i []).contains x.1 && (fG l x.1 == some x.2.1)))=(some d,true,fun v _=>v=x,fun v _=>v=x',fun u _=>u=v,true)) (k:Ck N D w0 F G0 G L T r P l d v o [(j,t,x),(j',t',x')])
  (hok:pU l T i=true:=by kernel_rfl) (kX:∀ i v (G G':GH),(∀ k o,G k=some o→G' k=some o)→pr i v G→pr i v G':=by exact fun _ _ _ _ _ h=>h):xG N D w0 F G0 G L T r P l cZ B pr i o:=by
 simp only [jh] at h
 exact eu j t j' t' (by rw [h.1,h.2.1,h.2.2.2.2.2]) (by rw [h.2.2.1,h.2.2.2.1]) (Ck.k h.2.2.2.2.1 k) hok kX
theorem X3 (j t j' t' j2 t2:Nat) {x x' x2:ak} (h:(fG l i,Nat.blt i l.length,pr j,pr j',pr j2,pr i,[(j,t,x),(j',t',x'),(j2,t2,x2)].all (fun x=>(cZ.getD i []).contains x.1 && (fG l x.1 == some x.2.1)))=(some d,true,fun v _=>v=x,fun v _=>v=x',fun v _=>v=x2,fun u _=>u=v,true)) (k:Ck N D w0 F G0 G L T r P l d v o [(j,t,x),(j',t',x'),(j2,t2,x2)])
  (hok:pU l T i=true:=by kernel_rfl) (kX:∀ i v (G G':GH),(∀ k o,G k=some o→G' k=some o)→pr i v G→pr i v G':=by exact fun _ _ _ _ _ h=>h):xG N D w0 F G0 G L T r P l cZ B pr i o:=by
 simp only [jh] at h
 exact rC j t j' t' j2 t2 (by rw [h.1,h.2.1,h.2.2.2.2.2.2]) (by rw [h.2.2.1,h.2.2.2.1,h.2.2.2.2.1]) (Ck.k h.2.2.2.2.2.1 k) hok kX
theorem Z0 (h:(fG l i,Nat.blt i l.length,pr i)=(some d,true,fun u _=>u=v)) (k:Nn N D w0 F G0 G L T r P l d v o [])
  (hok:pU l T i=true:=by kernel_rfl) (kX:∀ i v (G G':GH),(∀ k o,G k=some o→G' k=some o)→pr i v G→pr i v G':=by exact fun _ _ _ _ _ h=>h):xG N D w0 F G0 G L T r P l cZ B pr i o:=X0 h (fun _=>k) hok kX
theorem Z1 (j t:Nat) {x:ak} (h:(fG l i,Nat.blt i l.length,pr j,pr i,[(j,t,x)].all (fun x=>(cZ.getD i []).contains x.1 && (fG l x.1 == some x.2.1)))=(some d,true,fun v _=>v=x,fun u _=>u=v,true)) (k:Nn N D w0 F G0 G L T r P l d v o [(j,t,x)])
  (hok:pU l T i=true:=by kernel_rfl) (kX:∀ i v (G G':GH),(∀ k o,G k=some o→G' k=some o)→pr i v G→pr i v G':=by exact fun _ _ _ _ _ h=>h):xG N D w0 F G0 G L T r P l cZ B pr i o:=X1 j t h (fun _=>k) hok kX
theorem Z2 (j t j' t':Nat) {x x':ak} (h:(fG l i,Nat.blt i l.length,pr j,pr j',pr i,[(j,t,x),(j',t',x')].all (fun x=>(cZ.getD i []).contains x.1 && (fG l x.1 == some x.2.1)))=(some d,true,fun v _=>v=x,fun v _=>v=x',fun u _=>u=v,true)) (k:Nn N D w0 F G0 G L T r P l d v o [(j,t,x),(j',t',x')])
  (hok:pU l T i=true:=by kernel_rfl) (kX:∀ i v (G G':GH),(∀ k o,G k=some o→G' k=some o)→pr i v G→pr i v G':=by exact fun _ _ _ _ _ h=>h):xG N D w0 F G0 G L T r P l cZ B pr i o:=X2 j t j' t' h (fun _=>k) hok kX
theorem Z3 (j t j' t' j2 t2:Nat) {x x' x2:ak} (h:(fG l i,Nat.blt i l.length,pr j,pr j',pr j2,pr i,[(j,t,x),(j',t',x'),(j2,t2,x2)].all (fun x=>(cZ.getD i []).contains x.1 && (fG l x.1 == some x.2.1)))=(some d,true,fun v _=>v=x,fun v _=>v=x',fun v _=>v=x2,fun u _=>u=v,true)) (k:Nn N D w0 F G0 G L T r P l d v o [(j,t,x),(j',t',x'),(j2,t2,x2)])
  (hok:pU l T i=true:=by kernel_rfl) (kX:∀ i v (G G':GH),(∀ k o,G k=some o→G' k=some o)→pr i v G→pr i v G':=by exact fun _ _ _ _ _ h=>h):xG N D w0 F G0 G L T r P l cZ B pr i o:=X3 j t j' t' j2 t2 h (fun _=>k) hok kX
theorem St.aZ {a:Act} {w:World} {p:ak→Prop} (H:St N D w0 F G0 G L T a w) (h:∃ u,a.tmps[d]?=some u∧p u) (he:p=fun u=>u=v):St N D w0 F G0 G L ((d,v) :: T) a w:=by
 subst he
 obtain ⟨u,h1,h2⟩:=h
 exact H.nA (h2 ▸ h1)
theorem dI {a:Act} {w:World} {Q:Exit→Act→World→Prop} {id:Nat} (hm:P.follows .mixedOrders=true) (cZ:List (List Nat)) (B:List Nat) (hk:(DJ l cZ && Ca l cZ B)=true) (vs:List ak) (H:St N D w0 F G0 G L T a w)
  (hstep:allI (fun i o=>xG N D w0 F G0 G L T r P l cZ B (U4 vs) i o) 0 l)
  (hend:∀ a w G1,(∀ k o,G k=some o→G1 k=some o)→St N D w0 F G0 G1 L T a w→(∀ i d,B.contains i=false→fG l i=some d→∃ v,a.tmps[d]?=some v∧U4 vs i v G1)→WL r P l.toArray (fun e a w=>e=.normal∧Q .normal a w) (sP l B) a w):WP r P (.region id l.toArray true) Q a w:=by
 rw [oF] at hk
 exact ER hm cZ B hk.1 hk.2 (U4 vs) (fun _ _ _ _ _ h=>h) H hstep hend
variable {w:World} {ops:Array Oper} {Q:Exit→Act→World→Prop} {b:Bool} {t:Nat} {x:Operand} {c1 c2:Code}
theorem Cd (h:ev T x=some (.bool b)) (k1:b=true→∀ a,St N D w0 F G0 G L T a w→WP r P c1 Q a w) (k2:b=false→∀ a,St N D w0 F G0 G L T a w→WP r P c2 Q a w):∀ a,St N D w0 F G0 G L T a w→WP r P (.cond x c1 c2) Q a w:=fun a H=>jX H h (fun h=>k1 h a H) (fun h=>k2 h a H)
theorem Ct (h:ev T x=some (.bool b)) (hb:b=true) (k:∀ a,St N D w0 F G0 G L T a w→WP r P c1 Q a w):∀ a,St N D w0 F G0 G L T a w→WP r P (.cond x c1 c2) Q a w:=fun a H=>yV H h hb (k a H)
theorem Cf (h:ev T x=some (.bool b)) (hb:b=false) (k:∀ a,St N D w0 F G0 G L T a w→WP r P c2 Q a w):∀ a,St N D w0 F G0 G L T a w→WP r P (.cond x c1 c2) Q a w:=fun a H=>om H h hb (k a H)
theorem Sp {X:Act→Prop} (t:Nat) (h:lk T t=some (.bool b)) (k1:b=true→∀ a,St N D w0 F G0 G L T a w→X a) (k2:b=false→∀ a,St N D w0 F G0 G L T a w→X a):∀ a,St N D w0 F G0 G L T a w→X a:=fun a H=>Vb H t h (fun h=>k1 h a H) (fun h=>k2 h a H)
theorem LR {fn:Func} {R:Ending→World→Prop} (hr:fn.results=#[.tmp t]) (hQ:(lk T t,Q .ret)=(some v,fun a w=>bodyPostM (FW none) 0 P fn R .ret a w)) (hR:∀ {a},St N [] w0 F G0 G L T a w→R (.returned v) w):∀ a,St N [] w0 F G0 G L T a w→WP none P .ret Q a w:=fun a H=>by
 simp only [jh] at hQ
 exact lr H hr (by rw [hQ.1,hQ.2]) (hR H)
end
def ra:Nat→Nat→List Nat
 | _,0=>[]
 | a,n+1=>a :: ra (a+1) n
theorem lca {α:Type} (a:α) (l m:List α):a :: l++m=a :: (l++m):=rfl
theorem aV {α:Type} (l:List α):[]++l=l:=rfl
theorem aI {p:Prop} [Decidable p] (h:p):decide p=true:=gW h
theorem aR {p:Prop} [Decidable p] (h:¬p):decide p=false:=fZ h
end
section
open Go.RowKit
def dO (e sz:Nat) (v:ak) (n:Nat) (xs:List ak) (Lo:OL):Prop :=
 xs.length=n*sz∧((v=.slice none 0 0∧n=0∧Lo=[])∨∃ b cap cur,v=.slice (some ⟨b,0,none⟩) n cap∧Lo=[(b,.cells cur e (0,0))]∧n≤cap∧cap≤maxLen∧cur.size=cap*sz∧cur.toList.take (n*sz)=xs)
theorem dO.nil {e sz:Nat}:dO e sz (.slice none 0 0) 0 [] []:=⟨by simp,.inl ⟨rfl,rfl,rfl⟩⟩
theorem dO.shape {e sz n:Nat} {v:ak} {xs:List ak} {Lo:OL} (h:dO e sz v n xs Lo):∃ A c,v=.slice A n c∧n≤c∧c≤maxLen:=by
 rcases h.2 with ⟨rfl,rfl,_⟩|⟨b,cap,cur,rfl,_,h1,h2,_,_⟩
 ·exact ⟨none,0,rfl,dJ _,by simp [maxLen]⟩
 ·exact ⟨_,cap,rfl,h1,h2⟩
section
variable {N:Nat} {D:List Deferred} {w0:World} {F:Nat→Prop} {G0 G:GH} {L Li Lo:OL} {T:List (Nat × ak)}
variable {r:Option Nat} {P:Program} {ops:Array Oper} {Q:Exit→Act→World→Prop} {rest:List Oper} {a:Act} {w w':World}
variable {d:Nat} {ty:TypeId} {pos:String} {aU:Array Edge} {g:Option (Nat × Bool)}
theorem dO.owns {e sz n:Nat} {v:ak} {xs:List ak} (h:dO e sz v n xs Lo) (H:Hp w0 F G0 G (Li++Lo) w):w.ownsRow 0 e sz v n xs:=by
 refine ⟨h.1,?_⟩
 rcases h.2 with ⟨h1,h2,_⟩|⟨b,cap,cur,h1,h2,h3,h4,h5,h6⟩
 ·exact .inl ⟨h1,h2⟩
 ·exact .inr ⟨b,cap,cur,h1,iF _,H.own (b,.cells cur e (0,0)) (by simp [h2]),h3,h4,h5,h6⟩
theorem adr {e sz n n':Nat} {v v':ak} {xs xs':List ak} (h:dO e sz v n xs Lo) (ho:ig G Lo w) (hown:w'.ownsRow 0 e sz v' n' xs') (hg:w.grownBy w' v.ownBlock) (hb:v'.ownBlock=v.ownBlock∨v'.ownBlock=some w.heap.size) :
  ∃ kL,dO e sz v' n' xs' kL∧Change w w' G G Lo kL:=by
 have hrow:∀ k,v.ownBlock=some k→∃ p∈Lo,p.1=k:=by
  intro k hk
  rcases h.2 with ⟨h1,_,_⟩|⟨b,cap,cur,h1,h2,_⟩
  ·rw [h1] at hk;cases hk
  ·rw [h1] at hk;simp only [Value.ownBlock,nM] at hk;exact ⟨_,by rw [h2];exact List.mem_singleton_self _,hk⟩
 have hro:∀ k o,G k=some o→w'.heap[k]?=some o:=by
  intro k o hk
  rw [hg.block k (lt_of_heap (ho.ro k o hk)) (fun e'=>by
   obtain ⟨p,hp,e2⟩:=hrow k e'.symm
   have:=ho.sep p hp
   rw [e2,hk] at this;cases this)]
  exact ho.ro k o hk
 have hfr:∀ k,k < w.heap.size→(∀ p∈Lo,p.1≠k)→w'.heap[k]?=w.heap[k]?:=fun k hk hn=>hg.block k hk fun e'=>by
  obtain ⟨p,hp,e2⟩:=hrow k e'.symm
  exact hn p hp e2
 rcases hown.2 with ⟨h1,h2⟩|⟨b,cap,cur,h1,_,h3,h4,h5,h6,h7⟩
 ·exact ⟨[],⟨hown.1,.inl ⟨h1,h2,rfl⟩⟩,⟨hg.os,hg.tape,hg.output,hg.size,hfr,fun _ _ h=>h,fun _ _ h=>.inl h,⟨hro,fun _ h=>(by cases h),fun _ h=>(by cases h),List.Pairwise.nil⟩,fun _ h=>(by cases h)⟩⟩
 ·refine ⟨[(b,.cells cur e (0,0))],⟨hown.1,.inr ⟨b,cap,cur,h1,rfl,h4,h5,h6,h7⟩⟩,⟨hg.os,hg.tape,hg.output,hg.size,hfr,fun _ _ h=>h,fun _ _ h=>.inl h,⟨hro,fun p hp=>?_,fun p hp=>?_,by simp⟩,fun p hp=>?_⟩⟩
  ·rw [xI.1 hp];exact h3
  ·rw [xI.1 hp]
   cases hgb:G b with
   | none=>rfl
   | some o =>
    exfalso
    rw [h1] at hb
    rcases hb with hb|hb
    ·obtain ⟨p',hp',e2⟩:=hrow b (by rw [← hb];rfl)
     have:=ho.sep p' hp'
     rw [e2,hgb] at this;cases this
    ·simp only [Value.ownBlock,nM] at hb
     have:=lt_of_heap (ho.ro b o hgb)
     omega
  ·rw [xI.1 hp]
   rw [h1] at hb
   rcases hb with hb|hb
   ·obtain ⟨p',hp',e2⟩:=hrow b (by rw [← hb];rfl)
    exact .inr ⟨p',hp',e2⟩
   ·simp only [Value.ownBlock,nM] at hb
    exact .inl (by simp only;omega)
theorem tX {t e:TypeId} {sz bytes:Nat} {zero:List ak} {agg:Bool} (hs:P.underlying t=some (.slice e)) (ht:Ty P e sz bytes zero agg) (hz:Nat.beq zero.length sz=true) (hsz:Nat.blt 0 sz=true) {x y:Operand} {v:ak} {n m c b2 o2:Nat} {xs news:List ak} (H:St N D w0 F G0 G (Li++Lo) T a w)
  (hw:Region.wanted ⟨some d,.call { callee:=.builtin .append,args:=#[x,y],argTypes:=#[t,t] },ty,pos,aU,g⟩ (yielded ops a.tmps)=true) (hx:ev T x=some v) (hy:ev T y=some (.slice (some ⟨b2,o2,none⟩) m c)) (hrow:dO e sz v n xs Lo)
  (hn:news.length=m*sz) (hc:∀ j u,news[j]?=some u→w.cell? ⟨b2,o2+j,none⟩=some u) (h1:news.all Value.oneCell'=true) (h63:n+m≤maxLen) (hb:(n+m)*bytes≤140737488355328) (hd:Nat.blt d N=true)
  (k:∀ v' kL a' w',dO e sz v' (n+m) (xs++news) kL→St N D w0 F G0 G (Li++kL) ((d,v') :: T) a' w'→WL r P ops Q rest a' w') :
  WL r P ops Q (⟨some d,.call { callee:=.builtin .append,args:=#[x,y],argTypes:=#[t,t] },ty,pos,aU,g⟩ :: rest) a w:=by
 obtain ⟨i,z,hi,hi1,hi2,hi3,hi4⟩:=ht.parts
 obtain ⟨v',w2,hrun,r1,r2,_,r4⟩:=run_append_own_at (P:=P) w 0 t ty e i z sz bytes hs hi hi3 hi1 hi2 (by rw [hi4];simpa using EN hz) (Eq.mp Nat.blt_eq hsz) v n xs (hrow.owns H.hp) ⟨b2,o2,none⟩ m c news hn (fun j u hj=>by rw [add_lit];exact hc j u hj) (fun u hu=>oU.1 h1 u hu) h63 hb (iF _)
 obtain ⟨kL,hr,hch⟩:=adr hrow H.hp.owns r1 r2 r4
 refine gZ (v:=v') (w':=w2) hw rfl ?_ (k v' kL _ w2 hr (H.put hd v' (H.hp.change hch)))
 simp [execOp,resolve,invoke,builtin,H.ev hx,H.ev hy,eT,hrun]
theorem Dh {t e:TypeId} {sz bytes:Nat} {zero:List ak} {agg:Bool} (hs:P.underlying t=some (.slice e)) (ht:Ty P e sz bytes zero agg) {x y:Operand} {A B:Option Addr} {n c c':Nat} (H:St N D w0 F G0 G L T a w)
  (hw:Region.wanted ⟨some d,.call { callee:=.builtin .append,args:=#[x,y],argTypes:=#[t,t] },ty,pos,aU,g⟩ (yielded ops a.tmps)=true) (hx:ev T x=some (.slice A n c)) (hy:ev T y=some (.slice B 0 c')) (hnc:n≤c) (hd:Nat.blt d N=true)
  (k:∀ a',St N D w0 F G0 G L ((d,.slice A n c) :: T) a' w→WL r P ops Q rest a' w) :
  WL r P ops Q (⟨some d,.call { callee:=.builtin .append,args:=#[x,y],argTypes:=#[t,t] },ty,pos,aU,g⟩ :: rest) a w:=by
 refine gZ (v:=.slice A n c) (w':=w) hw rfl ?_ (k _ (H.put hd _ H.hp))
 have h1:∀ w,(Builtin.firstCells sz 0 (.slice B 0 c')).run P w=.ok #[] w:=by intro w;cases B <;> simp [Builtin.firstCells,loadCells,loadCellsFrom]
 have hle:n+0≤c:=by omega
 cases A <;> simp [execOp,resolve,invoke,builtin,H.ev hx,H.ev hy,eT,Builtin.append_,rT hs,ht.FC,Builtin.lenOf,hnc,h1,storeCells]
theorem En {t u:TypeId} {e:TypeId} (hs:P.underlying t=some (.slice e)) {x:Operand} {A:Option Addr} {n c:Nat} (H:St N D w0 F G0 G L T a w) (hw:Region.wanted ⟨some d,.binOp .eql t x (.const (.slice none 0 0)) u,ty,pos,aU,g⟩ (yielded ops a.tmps)=true) (hx:ev T x=some (.slice A n c)) (hd:Nat.blt d N=true)
  (k:∀ a',St N D w0 F G0 G L ((d,.bool A.isNone) :: T) a' w→WL r P ops Q rest a' w):WL r P ops Q (⟨some d,.binOp .eql t x (.const (.slice none 0 0)) u,ty,pos,aU,g⟩ :: rest) a w:=by
 refine gZ (v:=.bool A.isNone) (w':=w) hw rfl ?_ (k _ (H.put hd _ H.hp))
 have h1:(Op.equal t (.slice A n c) (.slice none 0 0)).run P w=.ok A.isNone w:=by
  show (Op.equalIn (9999+1) t (.slice A n c) (.slice none 0 0)).run P w=_
  rw [Op.equalIn.eq_2,eT,rT hs]
  cases A <;> rfl
 have h2:(do eqGuard .eql t x (.const (.slice none 0 0)) (.slice A n c) (.slice none 0 0);binOp .eql t (.slice A n c) (.slice none 0 0):Sem ak).run P w=.ok (.bool A.isNone) w:=by
  have e:(do eqGuard .eql t x (.const (.slice none 0 0)) (.slice A n c) (.slice none 0 0);binOp .eql t (.slice A n c) (.slice none 0 0):Sem ak)=(do pure (.bool (← Op.equal t (.slice A n c) (.slice none 0 0))):Sem ak):=rfl
  rw [e,eT,h1];rfl
 have e0:execOp a.eval ⟨some d,.binOp .eql t x (.const (.slice none 0 0)) u,ty,pos,aU,g⟩=(do pure (.value (← (do eqGuard .eql t x (.const (.slice none 0 0)) (.slice A n c) (.slice none 0 0);binOp .eql t (.slice A n c) (.slice none 0 0):Sem ak))):Sem Next):=by
  simp only [execOp,H.ev hx];rfl
 rw [e0,eT,h2]
 rfl
theorem Em {t e:TypeId} {sz bytes:Nat} {zero:List ak} {agg:Bool} (hs:P.underlying t=some (.slice e)) (ht:Ty P e sz bytes zero agg) (H:St N D w0 F G0 G L T a w) (hw:Region.wanted ⟨some d,.buildSlice t 0 #[],ty,pos,aU,g⟩ (yielded ops a.tmps)=true) (hd:Nat.blt d N=true)
  (k:∀ b a' w',w0.heap.size≤b→St N D w0 F G0 G ((b,.cells #[] e (0,0)) :: L) ((d,.slice (some ⟨b,0,none⟩) 0 0) :: T) a' w'→WL r P ops Q rest a' w'):WL r P ops Q (⟨some d,.buildSlice t 0 #[],ty,pos,aU,g⟩ :: rest) a w:=by
 refine gZ (v:=.slice (some ⟨w.heap.size,0,none⟩) 0 0) (w':=w.alloc (.cells #[] e (0,0))) hw rfl ?_ (k _ _ _ H.hp.size (H.put hd _ (H.hp.alloc _)))
 have h0:¬ (0*sz > 2 ^ 24):=by simp
 simp [execOp,Instr.buildSlice,eT,rT hs,ht.FC,Instr.fill,newRow,newObj,Sem.run]
 congr 2
 apply Array.eq_empty_of_size_eq_zero
 simp
theorem dO.empty {e sz b:Nat}:dO e sz (.slice (some ⟨b,0,none⟩) 0 0) 0 [] [(b,.cells #[] e (0,0))] :=
 ⟨by simp,.inr ⟨b,0,#[],rfl,rfl,dJ _,by simp [maxLen],by simp,by simp⟩⟩
theorem pI {x:Operand} {fv:ak} {xs:List Operand} {vs:List ak} {ts:Array TypeId} {R:ak→GH→Prop} (H:St N D w0 F G0 G L T a w) (hw:Region.wanted ⟨some d,.call { callee:=.value x,args:=xs.toArray,argTypes:=ts },ty,pos,aU,g⟩ (yielded ops a.tmps)=true)
  (hf:ev T x=some fv) (hx:evs T xs=some vs) (hc:xB P fv vs w (bJ w G R)) (hd:Nat.blt d N=true)
  (k:∀ v G' a' w',R v G'→(∀ k o,G k=some o→G' k=some o)→St N D w0 F G0 G' L ((d,v) :: T) a' w'→WL r P ops Q rest a' w'):WL r P ops Q (⟨some d,.call { callee:=.value x,args:=xs.toArray,argTypes:=ts },ty,pos,aU,g⟩ :: rest) a w:=by
 refine Qk (nx:=_) (R:=bJ w G R) hw rfl rfl ?_ ?_
 ·have h1:=H.evs hx
  have e:(execOp a.eval ⟨some d,.call { callee:=.value x,args:=xs.toArray,argTypes:=ts },ty,pos,aU,g⟩)=(do let d ← Deferred.ofValue fv vs.toArray;invoke d.target d.args:Sem Next):=by
   simp only [execOp,resolve,H.ev hf,List.map_toArray,h1]
  rw [e]
  exact hc.go
 ·rintro e w' ⟨v,G',rfl,hb,hx,hR⟩
  exact ⟨v,rfl,k v G' _ w' hR hx.1 (H.put hd v (H.hp.WO hb hx))⟩
theorem Hp.ama {R:ak→GH→Prop} {w:World} {G:GH} {e:Ending} {w':World} (hG:Hold G w) (h:bJ w G R e w'):gy w G [] (fun v G' L'=>L'=[]∧R v G') e w':=by
 obtain ⟨v,G',rfl,hb,hx,hR⟩:=h
 exact ⟨v,G',[],rfl,⟨hb.os,hb.tape,hb.output,hb.size,fun k hk _=>hb.block k hk,hx.1,fun k o hk=>(hx.2.1 k o hk).imp id .inl,⟨hx.2.2,fun _ h=>(by cases h),fun _ h=>(by cases h),List.Pairwise.nil⟩,fun _ h=>(by cases h)⟩,rfl,hR⟩
end
def dG (G:GH) (sz:Nat) (rows:List (List Dat)) (xs:List ak):Prop :=
 ∃ css:List (List ak),xs=css.flatten∧css.length=rows.length∧∀ (j:Nat) (r:List Dat) (cs:List ak),rows[j]?=some r→css[j]?=some cs→bH G r cs∧cs.length=sz
theorem dG.nil {G:GH} {sz:Nat}:dG G sz [] []:=⟨[],rfl,rfl,fun j r cs h=>by simp at h⟩
theorem dG.mono {G G':GH} (hm:∀ k o,G k=some o→G' k=some o) {sz:Nat} {rows:List (List Dat)} {xs:List ak} (h:dG G sz rows xs):dG G' sz rows xs:=by
 obtain ⟨css,h1,h2,h3⟩:=h
 exact ⟨css,h1,h2,fun j r cs hr hc=>⟨(h3 j r cs hr hc).1.mono hm,(h3 j r cs hr hc).2⟩⟩
theorem dG.snoc {G:GH} {sz:Nat} {rows:List (List Dat)} {xs:List ak} (h:dG G sz rows xs) {q:List Dat} {cs:List ak} (hr:bH G q cs) (hl:cs.length=sz):dG G sz (rows++[q]) (xs++cs):=by
 obtain ⟨css,h1,h2,h3⟩:=h
 refine ⟨css++[cs],by simp [h1],by simp [h2],fun j r c hj hc=>?_⟩
 by_cases hlt:j < rows.length
 ·rw [Dy hlt] at hj
  rw [Dy (by omega)] at hc
  exact h3 j r c hj hc
 ·have hje:j=rows.length:=by
   have:=(mq.1 hj).1
   simp at this;omega
  subst hje
  rw [Ag (dJ _),Nat.sub_self] at hj
  rw [Ag (by omega),h2,Nat.sub_self] at hc
  simp only [Cn,nM] at hj hc
  subst hj;subst hc
  exact ⟨hr,hl⟩
theorem Yh {sz:Nat}:∀ {css:List (List ak)} {j:Nat} {cs:List ak},(∀ (j:Nat) (cs:List ak),css[j]?=some cs→cs.length=sz)→css[j]?=some cs→∀ i,i < sz→css.flatten[j*sz+i]?=cs[i]?
 | [],_,_,_,h,_,_=>by simp at h
 | c :: css,0,cs,hl,h,i,hi=>by
  simp only [Cn,nM] at h
  subst h
  have:=hl 0 c rfl
  simp only [List.flatten_cons,Nat.zero_mul,lD]
  rw [Dy (by omega)]
 | c :: css,j+1,cs,hl,h,i,hi=>by
  have hc:=hl 0 c rfl
  have ih:=Yh (css:=css) (j:=j) (cs:=cs) (fun j cs hj=>hl (j+1) cs (by simpa using hj)) (by simpa using h) i hi
  simp only [List.flatten_cons]
  rw [Ag (by rw [hc,Nat.succ_mul];omega),← ih]
  congr 1
  rw [hc,Nat.succ_mul];omega
theorem nL.cat {G:GH} {sz b:Nat}:∀ {rows:List (List Dat)} {o:Nat},nL G sz b o rows→∃ xs:List ak,xs.length=rows.length*sz∧(∀ j u,xs[j]?=some u→aF G b (o+j)=some u)∧xs.all Value.oneCell'=true∧dG G sz rows xs
 | [],o,_=>⟨[],by simp,fun j u h=>by simp at h,rfl,dG.nil⟩
 | r :: rs,o,h=>by
  simp only [nL] at h
  obtain ⟨⟨cs,h1,h2,h3⟩,h4⟩:=h
  obtain ⟨xs,g1,g2,g3,css,g4,g5,g6⟩:=nL.cat h4
  refine ⟨cs++xs,by simp [h1,g1,Nat.succ_mul,Nat.add_comm],fun j u hj=>?_,by simp [h3.one,g3],cs :: css,by simp [g4],by simp [g5],fun j q c hj hc=>?_⟩
  ·by_cases hlt:j < cs.length
   ·rw [Dy hlt] at hj;exact h2 j u hj
   ·rw [Ag (by omega)] at hj
    rw [← g2 _ u hj];congr 1;omega
  ·cases j with
   | zero=>simp only [Cn,nM] at hj hc;subst hj;subst hc;exact ⟨h3,h1⟩
   | succ j=>exact g6 j q c (by simpa using hj) (by simpa using hc)
theorem au.cells {G:GH} {sz:Nat} {rows:List (List Dat)} {A:Option Addr} {n c:Nat} (h:au G (.sl sz rows) (.slice A n c)):n=rows.length∧n≤c∧c≤maxLen∧(A=none→rows=[]) ∧
  (rows≠[]→∃ b o xs,A=some ⟨b,o,none⟩∧xs.length=n*sz∧(∀ j u,xs[j]?=some u→aF G b (o+j)=some u)∧xs.all Value.oneCell'=true∧dG G sz rows xs):=by
 simp only [au] at h
 obtain ⟨A',c',h1,h2,h3,h4⟩:=h
 injection h1 with e1 e2 e3
 subst e1;subst e2;subst e3
 refine ⟨rfl,h2,h3,fun hn=>?_,fun hne=>?_⟩
 ·apply Classical.byContradiction
  intro hne
  obtain ⟨b,o,e,_⟩:=h4 hne
  rw [hn] at e;cases e
 ·obtain ⟨b,o,e,hr⟩:=h4 hne
  obtain ⟨xs,g1,g2,g3,g4⟩:=hr.cat
  exact ⟨b,o,xs,e,g1,g2,g3,g4⟩
theorem au.kg {G:GH} {sz:Nat} {A:Option Addr} {n c:Nat} (h:n=0) (hc:c≤maxLen):au G (.sl sz []) (.slice A n c):=by
 subst h
 simp only [au]
 exact ⟨A,c,rfl,iF _,hc,fun h=>absurd rfl h⟩
theorem au.fF {G:GH} {e sz n b cap:Nat} {cur:Array ak} {xs:List ak} {rows:List (List Dat)} (hb:G b=some (.cells cur e (0,0))) (hl:rows.length=n) (hc:n≤cap) (hm:cap≤maxLen) (ht:cur.toList.take (n*sz)=xs) (iK:dG G sz rows xs) :
  au G (.sl sz rows) (.slice (some ⟨b,0,none⟩) n cap):=by
 obtain ⟨css,h1,h2,h3⟩:=iK
 simp only [au]
 refine ⟨_,cap,by rw [hl],by omega,hm,fun _=>⟨b,0,rfl,nL.mk fun k q hk=>?_⟩⟩
 have hkl:k < css.length:=by rw [h2];exact (mq.1 hk).1
 have hcs:css[k]?=some css[k]:=fT hkl
 obtain ⟨g1,g2⟩:=h3 k q _ hk hcs
 refine ⟨css[k],g2,fun j u hj=>?_,g1⟩
 have hjs:j < sz:=by rw [← g2];exact (mq.1 hj).1
 have hlen:∀ (j:Nat) (cs:List ak),css[j]?=some cs→cs.length=sz:=by
  intro j cs hj
  have hjl:j < rows.length:=by rw [← h2];exact (mq.1 hj).1
  exact (h3 j _ cs (fT hjl) hj).2
 have hf:=Yh hlen hcs j hjs
 rw [← h1,← ht,hj] at hf
 unfold aF
 rw [hb]
 simp only
 have hlt:k*sz+j < n*sz:=by
  have:(k+1)*sz≤n*sz:=Nat.mul_le_mul_right _ (by omega)
  rw [Nat.succ_mul] at this;omega
 rw [Af,av hlt] at hf
 simpa using hf
theorem St.E5 {N:Nat} {D:List Deferred} {w0:World} {F:Nat→Prop} {G0 G:GH} {Li Lo:OL} {T:List (Nat × ak)} {a:Act} {w:World} {e sz n:Nat} {v:ak} {xs:List ak} {rows:List (List Dat)} (H:St N D w0 F G0 G (Li++Lo) T a w)
  (hrow:dO e sz v n xs Lo) (hl:rows.length=n) (iK:dG G sz rows xs):∃ G',(∀ k o,G k=some o→G' k=some o)∧au G' (.sl sz rows) v∧St N D w0 F G0 G' Li T a w:=by
 rcases hrow.2 with ⟨rfl,h2,rfl⟩|⟨b,cap,cur,rfl,rfl,h3,h4,h5,h6⟩
 ·refine ⟨G,fun _ _ h=>h,?_,by simpa using H⟩
  have:rows=[]:=List.eq_nil_of_length_eq_zero (by omega)
  subst this
  simp only [au]
  exact ⟨none,0,by simp,by simp,by simp [maxLen],fun h=>absurd rfl h⟩
 ·have hi:(Li++[(b,Obj.cells cur e (0,0))])[Li.length]?=some (b,.cells cur e (0,0)):=by simp
  have hn:=H.Yl _ hi
  have hm:∀ k o,G k=some o→(G.add b (.cells cur e (0,0))) k=some o:=fun k o h=>GH.GD G hn k o h
  refine ⟨_,hm,au.fF (GH.I6 G b _) hl h3 h4 h6 (iK.mono hm),?_⟩
  have:=H.giveUp _ hi
  rwa [List.eraseIdx_append_of_length_le (dJ _),Nat.sub_self,List.eraseIdx_zero,List.tail_cons,Ah] at this
theorem St.eG {N:Nat} {D:List Deferred} {w0:World} {F:Nat→Prop} {G0 G:GH} {L:OL} {T:List (Nat × ak)} {a:Act} {w:World} {b:Nat} {o:Obj} (H:St N D w0 F G0 G ((b,o) :: L) T a w) :
  ∃ G',(∀ k o,G k=some o→G' k=some o)∧G' b=some o∧St N D w0 F G0 G' L T a w :=
 ⟨G.add b o,GH.GD G (H.Yl 0 rfl),GH.I6 G b o,H.giveUp 0 rfl⟩
theorem St.Od {N:Nat} {D:List Deferred} {w0:World} {F:Nat→Prop} {G0 G:GH} {L:OL} {T:List (Nat × ak)} {a:Act} {w:World} {b e sz:Nat} {cs:List ak} {d:List Dat} (H:St N D w0 F G0 G ((b,.cells cs.toArray e (0,0)) :: L) T a w) (hl:cs.length=sz) (hr:bH G d cs) :
  ∃ G',(∀ k o,G k=some o→G' k=some o)∧au G' (.sl sz [d]) (.slice (some ⟨b,0,none⟩) 1 1)∧St N D w0 F G0 G' L T a w:=by
 obtain ⟨G',hm,hb,H⟩:=H.eG
 exact ⟨G',hm,au.fF (xs:=cs) hb rfl (dJ _) (by decide) (by simp [← hl]) (by simpa using (dG.nil (sz:=sz)).snoc (hr.mono hm) hl),H⟩
structure Now {α:Type} (xs:List AP) (P:α→AP) (J:Nat→GH→OL→Prop) (je j:Nat) (A:List α) (g:GH) (L:OL):Prop where
 now:J j g L
 rem:∀ i a,A[i]?=some a→xs[j+i]?=some (P a)
 len:j+A.length=je
theorem Now.head {α:Type} {xs:List AP} {P:α→AP} {J:Nat→GH→OL→Prop} {je j:Nat} {x:α} {A:List α} {g:GH} {L:OL} (h:Now xs P J je j (x :: A) g L):xs[j]?=some (P x):=h.rem 0 x rfl
theorem Now.step {α:Type} {xs:List AP} {P:α→AP} {J:Nat→GH→OL→Prop} {je j:Nat} {x:α} {A:List α} {g g':GH} {L L':OL} (h:Now xs P J je j (x :: A) g L) (hJ:J (j+1) g' L'):Now xs P J je (j+1) A g' L' :=
 ⟨hJ,fun i a hi=>by rw [show j+1+i=j+(i+1) by omega];exact h.rem (i+1) a (by simpa using hi),by have:=h.len;simp only [qH] at this;omega⟩
theorem Now.part {α:Type} {xs:List AP} {P:α→AP} {J:Nat→GH→OL→Prop} {je j:Nat} {A B:List α} {g:GH} {L:OL} (h:Now xs P J je j (A++B) g L):∀ i a,A[i]?=some a→xs[j+i]?=some (P a):=fun i a hi=>h.rem i a (by rw [Dy (mq.1 hi).1];exact hi)
theorem Now.jump {α:Type} {xs:List AP} {P:α→AP} {J:Nat→GH→OL→Prop} {je j:Nat} {A B:List α} {g g':GH} {L L':OL} (h:Now xs P J je j (A++B) g L) (hJ:J (j+A.length) g' L'):Now xs P J je (j+A.length) B g' L' :=
 ⟨hJ,fun i a hi=>by rw [Nat.add_assoc];exact h.rem (A.length+i) a (by rw [Ag (Nat.le_add_right _ _),QF];exact hi),by have:=h.len;simp only [wE] at this;omega⟩
theorem Hp.cK {R:ak→GH→OL→Prop} {v:ak} {w0 w:World} {G0 G:GH} {L0 L L':OL} (h:Hp w0 (Fr w0 L0) G0 G L w) (hs:L'.Sublist L) (hR:R v G L'):gy w0 G0 L0 R (.returned v) w:=(h.drop hs).eB hR
section
variable {N:Nat} {D:List Deferred} {w0:World} {F:Nat→Prop} {G0 G:GH} {L Li Lo:OL} {T:List (Nat × ak)}
variable {r:Option Nat} {P:Program} {ops:Array Oper} {Q:Exit→Act→World→Prop} {rest:List Oper} {a:Act} {w:World}
variable {d:Nat} {ty:TypeId} {pos:String} {aU:Array Edge} {g:Option (Nat × Bool)}
theorem amo {t e:TypeId} {sz bytes:Nat} {zero:List ak} {agg:Bool} (hs:P.underlying t=some (.slice e)) (ht:Ty P e sz bytes zero agg) (hz:Nat.beq zero.length sz=true) (hsz:Nat.blt 0 sz=true) {x y:Operand} {v:ak} {n m c:Nat} {A:Option Addr} {xs:List ak} {rows:List (List Dat)} (H:St N D w0 F G0 G (Li++Lo) T a w)
  (hw:Region.wanted ⟨some d,.call { callee:=.builtin .append,args:=#[x,y],argTypes:=#[t,t] },ty,pos,aU,g⟩ (yielded ops a.tmps)=true) (hx:ev T x=some v) (hy:ev T y=some (.slice A m c)) (hrow:dO e sz v n xs Lo)
  (hrep:au G (.sl sz rows) (.slice A m c)) (h63:n+m≤maxLen) (hb:(n+m)*bytes≤140737488355328) (hd:Nat.blt d N=true)
  (k:∀ v' kL news a' w',dO e sz v' (n+m) (xs++news) kL→dG G sz rows news→St N D w0 F G0 G (Li++kL) ((d,v') :: T) a' w'→WL r P ops Q rest a' w') :
  WL r P ops Q (⟨some d,.call { callee:=.builtin .append,args:=#[x,y],argTypes:=#[t,t] },ty,pos,aU,g⟩ :: rest) a w:=by
 obtain ⟨hn,hc1,hc2,hnil,hxx⟩:=hrep.cells
 by_cases hr0:rows=[]
 ·have hm0:m=0:=by rw [hn,hr0];rfl
  subst hm0
  obtain ⟨A',c',rfl,h1,h2⟩:=hrow.shape
  refine Dh hs ht H hw hx hy h1 hd fun a' H'=>?_
  exact k _ Lo [] a' w (by simpa using hrow) (by rw [hr0];exact dG.nil) H'
 ·obtain ⟨b,o,news,rfl,hxl,hxc,hx1,iK⟩:=hxx hr0
  exact tX hs ht hz hsz H hw hx hy hrow hxl (fun j u hj=>H.hp.aF (hxc j u hj)) hx1 h63 hb hd fun v' kL a' w' hr' H'=>k v' kL news a' w' hr' iK H'
end
theorem au.part {G:GH} {sz:Nat} {rows:List (List Dat)} {A:Option Addr} {n c:Nat} (h:au G (.sl sz rows) (.slice A n c)) (lo hi:Nat) (h1:lo≤hi) (h2:hi≤rows.length) :
  au G (.sl sz ((rows.drop lo).take (hi - lo))) (.slice (if c=lo then A else A.map (·.add (lo*sz))) (hi - lo) (c - lo)):=by
 obtain ⟨A',c',he,hc1,hc2,hg⟩:=h.slice
 injection he with e1 e2 e3
 subst e1;subst e3
 have hl:((rows.drop lo).take (hi - lo)).length=hi - lo:=by simp;omega
 simp only [au]
 refine ⟨_,_,by rw [hl],by rw [hl];omega,by omega,fun hn=>?_⟩
 have hlt:lo < hi:=by
  rcases Nat.lt_or_ge lo hi with h|h
  ·exact h
  ·exact absurd (List.eq_nil_of_length_eq_zero (by rw [hl];omega)) hn
 obtain ⟨b,o,cs,hA,-⟩:=hg lo rows[lo] (by simp)
 subst hA
 refine ⟨b,o+lo*sz,by rw [ah (by omega),Option.map_some,add_lit],nL.mk fun k r hk=>?_⟩
 rw [Af] at hk
 split at hk
 ·rw [List.getElem?_drop] at hk
  obtain ⟨b',o',cs,hA,g1,g2,g3⟩:=hg (lo+k) r hk
  obtain ⟨rfl,rfl⟩:b=b'∧o=o':=by simpa using hA
  exact ⟨cs,g1,fun j u hj=>by rw [← g2 j u hj];congr 1;rw [Nat.add_mul];omega,g3⟩
 ·cases hk
theorem dG.append {G:GH} {sz:Nat} {r1 r2:List (List Dat)} {x1 x2:List ak} (h1:dG G sz r1 x1) (h2:dG G sz r2 x2):dG G sz (r1++r2) (x1++x2):=by
 obtain ⟨c1,rfl,e1,f1⟩:=h1
 obtain ⟨c2,rfl,e2,f2⟩:=h2
 refine ⟨c1++c2,by simp,by simp [e1,e2],fun j r cs hr hc=>?_⟩
 by_cases hj:j < r1.length
 ·exact f1 j r cs (by rwa [Dy hj] at hr) (by rwa [Dy (by omega)] at hc)
 ·exact f2 (j - r1.length) r cs (by rwa [Ag (by omega)] at hr) (by rwa [Ag (by omega),e1] at hc)
end
section
open Go.RowKit
def BK (p:Nat→Bool):Nat→Nat→Nat→Nat
 | 0,i,_=>i
 | f+1,i,j=>if i < j then (if p ((i+j) / 2) then BK p f i ((i+j) / 2) else BK p f ((i+j) / 2+1) j) else i
theorem ake {p:Nat→Bool} {f i j:Nat} (hf:j - i≤f) (h:i < j):BK p f i j=if p ((i+j) / 2) then BK p (f - 1) i ((i+j) / 2) else BK p (f - 1) ((i+j) / 2+1) j:=by
 match f,hf with
 | 0,hf=>omega
 | f+1,_=>rw [BK,av h];rfl
theorem akc {p:Nat→Bool} {f i j:Nat} (h:¬ i < j):BK p f i j=i:=by
 match f with
 | 0=>rfl
 | f+1=>rw [BK,ah h]
theorem akf {z:Int} (h1:0≤z) (h2:z < 18446744073709551616):IntKind.u64.wrap z=z:=by
 simp only [IntKind.wrap,IntKind.bits,IntKind.signed,uw,mD,if_false]
 omega
theorem akd (n:Nat):((n:Nat):Int).fdiv (2 ^ 1)=((n / 2:Nat):Int):=by
 rw [Int.fdiv_eq_ediv_of_nonneg _ (by decide)];omega
def DC (a b:Int):Int:=if a < b then -1 else if b < a then 1 else 0
theorem Xe {a b:Int}:DC a b < 0↔a < b:=by
 unfold DC
 split
 ·simp [*]
 ·split <;> simp_all
theorem adV {a b:Int}:DC a b=0↔a=b:=by
 unfold DC
 split
 ·omega
 ·split <;> omega
def Cr (ks:List Int) (t:Int):Nat:=BK (fun h=>decide (¬ ks.getD h 0 < t)) ks.length 0 ks.length
def Fe (ks:List Int) (t:Int):Bool:=decide (ks[Cr ks t]?=some t)
theorem aio {ks:List Int} {t:Int} (h:Fe ks t=true):Cr ks t < ks.length:=by
 have:=tC h
 exact (mq.1 this).1
theorem ain {ks:List Int} {t:Int} {n:Nat} (e:Cr ks t=n) (h:n < ks.length):Fe ks t=decide (DC ks[n] t=0):=by
 unfold Fe
 rw [e,fT h]
 simp [adV]
theorem aip {ks:List Int} {t:Int} {n:Nat} (e:Cr ks t=n) (h:¬ n < ks.length):Fe ks t=false:=by
 unfold Fe
 rw [e,List.getElem?_eq_none (by omega)]
 simp
theorem getD_map {α:Type} {f:α→Int} {l:List α} {n:Nat} (h:n < l.length):(l.map f).getD n 0=f l[n]:=by
 simp [List.getD,h]
end
section
open Go.RowKit
section
variable {N:Nat} {D:List Deferred} {w0:World} {F:Nat→Prop} {G0 G G1 G2:GH} {L L1 L2:OL} {T Xs:List (Nat × ak)}
variable {r:Option Nat} {P:Program} {Q:Exit→Act→World→Prop} {l:List Oper} {a a':Act} {w w':World}
theorem xK {x y:Nat} (h:x≠y):Nat.beq x y=false:=by
 cases h':Nat.beq x y with
 | false=>rfl
 | true=>exact absurd (EN h') h
theorem za {i e:Nat} (h:fG l i=some e):i < l.length:=by
 unfold fG at h
 by_cases hl:i < l.length
 ·exact hl
 ·rw [List.getElem?_eq_none (by omega)] at h;cases h
theorem abb:∀ (vs c:List ak) (o:Nat),o+vs.length≤c.length→setRow c o vs=c.take o++vs++c.drop (o+vs.length)
 | [],c,o,_=>by simp [setRow]
 | v :: vs,c,o,h=>by
  simp only [qH] at h
  rw [setRow,abb vs (c.set o v) (o+1) (by simp;omega),List.take_set,List.drop_set,av (by omega),iG (by omega)]
  have e:((c.take o++[c[o]]).set o v)=c.take o++[v]:=by
   have hl:(c.take o).length=o:=by simp;omega
   rw [List.set_append,ah (by omega),hl,Nat.sub_self];rfl
  rw [e,qH,show o+1+vs.length=o+(vs.length+1) by omega]
  simp
end
end
section
open Go.RowKit
structure I4 (P:Program) (t:TypeId):Prop where
 h:(P.info? t).map (fun j=>j.size == 0)=some false
theorem I4.parts {P:Program} {t:TypeId} (h:I4 P t):∃ j,P.info? t=some j∧j.size≠0:=by
 obtain ⟨j,h1,h2⟩:=ql.1 h.h
 exact ⟨j,h1,by simpa using h2⟩
section
variable {N:Nat} {D:List Deferred} {w0:World} {F:Nat→Prop} {G0 G:GH} {L Li Lo:OL} {T:List (Nat × ak)}
variable {r:Option Nat} {P:Program} {ops:Array Oper} {Q:Exit→Act→World→Prop} {rest:List Oper} {a:Act} {w:World}
variable {d:Nat} {ty:TypeId} {pos:String} {aU:Array Edge} {g:Option (Nat × Bool)}
theorem Hp.shape (h:Hp w0 F G0 G L w) {i b:Nat} {c:Array ak} {e:TypeId} {fz:Nat × Nat} (hi:L[i]?=some (b,.cells c e fz)):w.shape? b=some (e,c.size):=by
 have:=h.own _ (oD hi)
 simp only at this
 simp [World.shape?,this]
theorem amE {t u te e:TypeId} {x:Operand} {b o:Nat} {c:Array ak} {fz:Nat × Nat} (hs:P.underlying t=some (.pointer te)) (hu:P.underlying u=some .unsafePointer) (hj:I4 P te) (H:St N D w0 F G0 G L T a w) (hw:Region.wanted ⟨some d,.convert t u x,ty,pos,aU,g⟩ (yielded ops a.tmps)=true)
  (hx:ev T x=some (.pointer (some ⟨b,o,none⟩))) (i:Nat) (hi:L[i]?=some (b,.cells c e fz)) (ho:Nat.blt o c.size=true) (hd:Nat.blt d N=true)
  (k:∀ a',St N D w0 F G0 G L ((d,.pointer (some ⟨b,o,none⟩)) :: T) a' w→WL r P ops Q rest a' w):WL r P ops Q (⟨some d,.convert t u x,ty,pos,aU,g⟩ :: rest) a w:=by
 obtain ⟨j,h1,h2⟩:=hj.parts
 refine gZ (v:=.pointer (some ⟨b,o,none⟩)) (w':=w) hw rfl ?_ (k _ (H.put hd _ H.hp))
 have h:=Lib.run_to_unsafe (P:=P) w ⟨b,o,none⟩ hs hu h1 h2 (H.hp.shape hi) (Eq.mp Nat.blt_eq ho)
 simp only [execOp,H.ev hx,eT,h,nC,uq]
theorem amu {t u te e:TypeId} {x:Operand} {b o:Nat} {c:Array ak} {fz:Nat × Nat} (hs:P.underlying t=some .unsafePointer) (hu:P.underlying u=some (.pointer te)) (hj:I4 P te) (H:St N D w0 F G0 G L T a w) (hw:Region.wanted ⟨some d,.convert t u x,ty,pos,aU,g⟩ (yielded ops a.tmps)=true)
  (hx:ev T x=some (.pointer (some ⟨b,o,none⟩))) (i:Nat) (hi:L[i]?=some (b,.cells c e fz)) (hl:liesAt P P.depth e (c.size / P.cellsOf e) o te 1=true) (hd:Nat.blt d N=true)
  (k:∀ a',St N D w0 F G0 G L ((d,.pointer (some ⟨b,o,none⟩)) :: T) a' w→WL r P ops Q rest a' w):WL r P ops Q (⟨some d,.convert t u x,ty,pos,aU,g⟩ :: rest) a w:=by
 obtain ⟨j,h1,h2⟩:=hj.parts
 refine gZ (v:=.pointer (some ⟨b,o,none⟩)) (w':=w) hw rfl ?_ (k _ (H.put hd _ H.hp))
 have h:=Lib.run_from_unsafe (P:=P) w ⟨b,o,none⟩ hs hu h1 (H.hp.shape hi) hl
 simp only [execOp,H.ev hx,eT,h,nC,uq]
theorem amx {f:FuncId} {xs:List Operand} {v:ak} {ts:Array TypeId} (hcf:∀ (w:World),(callFunc f #[v]).run P w=.ok (.value v) w) (H:St N D w0 F G0 G L T a w) (hw:Region.wanted ⟨some d,.call { callee:=.value (.func f),args:=xs.toArray,argTypes:=ts },ty,pos,aU,g⟩ (yielded ops a.tmps)=true)
  (hx:evs T xs=some [v]) (hd:Nat.blt d N=true)
  (k:∀ a',St N D w0 F G0 G L ((d,v) :: T) a' w→WL r P ops Q rest a' w):WL r P ops Q (⟨some d,.call { callee:=.value (.func f),args:=xs.toArray,argTypes:=ts },ty,pos,aU,g⟩ :: rest) a w:=by
 refine gZ (v:=v) (w':=w) hw rfl ?_ (k _ (H.put hd _ H.hp))
 have h1:=H.evs hx
 simp [execOp,resolve,Act.eval,Deferred.ofValue,invoke,eT,h1,hcf]
theorem amj {f:FuncId} {fn:Func} (hf:P.funcs[f]?=some fn) (hname:(fn.name == "runtime.NumGoroutine")=false) (hb:fn.body.isNone=true) (hn:Extern.findNext fn=none) (he:Extern.find fn=some Extern.AbiNoEscape.same) (v:ak) (w:World):(callFunc f #[v]).run P w=.ok (.value v) w:=by
 rw [run_callFunc_extern hf hname hb hn he,Lib.run_noEscape]
 rfl
theorem aaM {t u te:TypeId} (hs:P.underlying t=some (.pointer te)) {x:Operand} {p:Option Addr} (H:St N D w0 F G0 G L T a w) (hw:Region.wanted ⟨some d,.binOp .eql t x (.const (.pointer none)) u,ty,pos,aU,g⟩ (yielded ops a.tmps)=true) (hx:ev T x=some (.pointer p)) (hd:Nat.blt d N=true)
  (k:∀ a',St N D w0 F G0 G L ((d,.bool p.isNone) :: T) a' w→WL r P ops Q rest a' w):WL r P ops Q (⟨some d,.binOp .eql t x (.const (.pointer none)) u,ty,pos,aU,g⟩ :: rest) a w:=by
 refine gZ (v:=.bool p.isNone) (w':=w) hw rfl ?_ (k _ (H.put hd _ H.hp))
 have h1:(Op.equal t (.pointer p) (.pointer none)).run P w=.ok p.isNone w:=by
  show (Op.equalIn (9999+1) t (.pointer p) (.pointer none)).run P w=_
  rw [Op.equalIn.eq_2,eT,rT hs]
  cases p <;> simp
 have h2:(do eqGuard .eql t x (.const (.pointer none)) (.pointer p) (.pointer none);binOp .eql t (.pointer p) (.pointer none):Sem ak).run P w=.ok (.bool p.isNone) w:=by
  have e:(do eqGuard .eql t x (.const (.pointer none)) (.pointer p) (.pointer none);binOp .eql t (.pointer p) (.pointer none):Sem ak)=(do pure (.bool (← Op.equal t (.pointer p) (.pointer none))):Sem ak):=rfl
  rw [e,eT,h1];rfl
 have e0:execOp a.eval ⟨some d,.binOp .eql t x (.const (.pointer none)) u,ty,pos,aU,g⟩=(do pure (.value (← (do eqGuard .eql t x (.const (.pointer none)) (.pointer p) (.pointer none);binOp .eql t (.pointer p) (.pointer none):Sem ak))):Sem Next):=by
  simp only [execOp,H.ev hx];rfl
 rw [e0,eT,h2]
 rfl
theorem amw {t u te:TypeId} (hs:P.underlying t=some (.pointer te)) (hj:I4 P te) {x y:Operand} {p:Addr} (H:St N D w0 F G0 G L T a w) (hw:Region.wanted ⟨some d,.binOp .neq t x y u,ty,pos,aU,g⟩ (yielded ops a.tmps)=true) (hx:ev T x=some (.pointer (some p))) (hy:ev T y=some (.pointer (some p))) (hd:Nat.blt d N=true)
  (k:∀ a',St N D w0 F G0 G L ((d,.bool false) :: T) a' w→WL r P ops Q rest a' w):WL r P ops Q (⟨some d,.binOp .neq t x y u,ty,pos,aU,g⟩ :: rest) a w:=by
 obtain ⟨j,h1,h2⟩:=hj.parts
 refine gZ (v:=.bool false) (w':=w) hw rfl ?_ (k _ (H.put hd _ H.hp))
 have h:=Lib.run_neq_ptr_same (P:=P) (w:=w) p hs h1
 simp only [execOp,H.ev hx,H.ev hy]
 simp [eT,eqGuard,h]
theorem amB {t:TypeId} {x:Operand} {p:Addr} {n c:Nat} (H:St N D w0 F G0 G L T a w) (hw:Region.wanted ⟨some d,.call { callee:=.builtin .unsafeSliceData,args:=#[x],argTypes:=#[t] },ty,pos,aU,g⟩ (yielded ops a.tmps)=true) (hx:ev T x=some (.slice (some p) n c)) (hc:c≠0) (hd:Nat.blt d N=true)
  (k:∀ a',St N D w0 F G0 G L ((d,.pointer (some p)) :: T) a' w→WL r P ops Q rest a' w):WL r P ops Q (⟨some d,.call { callee:=.builtin .unsafeSliceData,args:=#[x],argTypes:=#[t] },ty,pos,aU,g⟩ :: rest) a w:=by
 refine gZ (v:=.pointer (some p)) (w':=w) hw rfl ?_ (k _ (H.put hd _ H.hp))
 have h:=Lib.run_unsafeSliceData_row (P:=P) (w:=w) #[t] ty p n c hc
 simp [execOp,resolve,invoke,builtin,H.ev hx,eT,h]
theorem anQ {w:World} {b n:Nat} {c:Array ak} {e:TypeId} {fz:Nat × Nat} (h:w.heap[b]?=some (.cells c e fz)) (hn:n≠0):∃ GZ,xH b (.cells c e GZ) w (w.freeze ⟨b,0,none⟩ n):=by
 unfold World.freeze
 rw [ah hn]
 refine ⟨if fz.1 == fz.2 then (0,0+n) else (min fz.1 0,max fz.2 (0+n)),rfl,rfl,rfl,by simp,?_,fun k hk=>?_⟩
 ·simp [Array.getElem?_modify,h]
 ·simp [Array.getElem?_modify,Ne.symm hk]
theorem amF {pt it e:TypeId} {x y:Operand} {b i:Nat} {cur:Array ak} {fz:Nat × Nat} (l:List UInt8) (hp:P.underlying pt=some (.pointer e)) (hc:P.cellsOf e=1) (h0:l≠[]) (h63:l.length≤9223372036854775807) (H:St N D w0 F G0 G L T a w)
  (hw:Region.wanted ⟨some d,.call { callee:=.builtin .unsafeString,args:=#[x,y],argTypes:=#[pt,it] },ty,pos,aU,g⟩ (yielded ops a.tmps)=true) (hx:ev T x=some (.pointer (some ⟨b,0,none⟩))) (hy:ev T y=some (.int .i64 (l.length:Int)))
  (hi:L[i]?=some (b,.cells cur e fz)) (hl:cur.toList.take l.length=Lib.byteCells l) (hd:Nat.blt d N=true)
  (k:∀ GZ a' w',St N D w0 F G0 G (L.set i (b,.cells cur e GZ)) ((d,.string ⟨l.toArray⟩) :: T) a' w'→WL r P ops Q rest a' w'):WL r P ops Q (⟨some d,.call { callee:=.builtin .unsafeString,args:=#[x,y],argTypes:=#[pt,it] },ty,pos,aU,g⟩ :: rest) a w:=by
 have hb:=H.hp.own _ (oD hi)
 simp only at hb
 have hlen:l.length≤cur.size:=by
  have:=aB List.length hl
  simp only [List.length_take,Lib.byteCells_length,yS] at this
  omega
 obtain ⟨GZ,hu⟩:=anQ (n:=l.length) hb (by simpa using h0)
 have h:=Lib.run_unsafeString_row (P:=P) w pt it ty e hp hc b cur.size (H.hp.shape hi) l h0 hlen h63 (fun j x hj=>by
  rw [add_lit,lD]
  simp only [World.cell?,hb]
  have h2:(cur.toList.take l.length)[j]?=some (.int .u8 x.toNat):=by rw [hl];simp [Lib.byteCells,hj]
  rw [Af] at h2
  split at h2
  ·simpa using h2
  ·cases h2)
 refine gZ (v:=.string ⟨l.toArray⟩) (w':=w.freeze ⟨b,0,none⟩ l.length) hw rfl ?_ (k GZ _ _ (H.put hd _ (H.hp.upd hi hu)))
 simp [execOp,resolve,invoke,builtin,H.ev hx,H.ev hy,eT,h]
theorem Yd (sz n:Nat):∀ (css:List (List ak)) (k:Nat) (pre z:List ak),pre.length=k*sz→z.length=css.length*sz→(∀ c∈css,c.length=sz)→k+css.length=n →
  CB ((List.range n).map fun i=>(i*sz,sz)) (pre++z) ((css.zipIdx k).map fun p=>(p.2,p.1))=some (pre++css.flatten)
 | [],k,pre,z,_,hz,_,_=>by
  have:z=[]:=List.eq_nil_of_length_eq_zero (by simpa using hz)
  subst this
  simp [CB]
 | c :: css,k,pre,z,hp,hz,hc,hn=>by
  have hcl:=hc c lW
  simp only [qH] at hz hn
  have hpl:((List.range n).map fun i=>(i*sz,sz))[k]?=some (k*sz,sz):=by
   rw [tu,List.getElem?_range (by omega)];rfl
  have hz1:z.length=sz+css.length*sz:=by rw [hz,Nat.add_mul,Nat.one_mul,Nat.add_comm]
  have hle:k*sz+c.length≤(pre++z).length:=by rw [wE,hp,hcl];omega
  have e1:Nat.beq c.length sz=true:=by rw [hcl];exact Nat.beq_refl sz
  have e2:Nat.ble (k*sz+c.length) (pre++z).length=true:=Eq.mpr Nat.ble_eq hle
  rw [List.zipIdx_cons,iq]
  simp only [CB,hpl,e1,e2,Bool.and_self,cond_true]
  have e3:setRow (pre++z) (k*sz) c=(pre++c)++z.drop sz:=by
   rw [abb _ _ _ hle,← hp,List.take_left' rfl,List.drop_append,iw (by omega),oH,hcl]
   congr 2;omega
  rw [e3,Yd sz n css (k+1) (pre++c) (z.drop sz) (by rw [wE,hp,hcl,Nat.succ_mul]) (by rw [List.length_drop];omega) (fun q hq=>hc q (nE _ hq)) (by omega)]
  simp
theorem amr {t e:TypeId} {sz bytes:Nat} {zero:List ak} {agg:Bool} (hs:P.underlying t=some (.slice e)) (ht:Ty P e sz bytes zero agg) {n:Nat} {xs:List (Nat × Operand)} {vs:List (Nat × ak)} (css:List (List ak)) (H:St N D w0 F G0 G L T a w) (hw:Region.wanted ⟨some d,.buildSlice t n xs.toArray,ty,pos,aU,g⟩ (yielded ops a.tmps)=true)
  (hx:pts T xs=some vs) (hv:vs.map (fun x=>(x.1,x.2.cells.toList))=(css.zipIdx 0).map fun p=>(p.2,p.1)) (hl:css.all (fun c=>Nat.beq c.length sz)=true) (hcn:Nat.beq css.length n=true) (hn:Nat.ble (n*sz) 1000=true) (hn0:Nat.beq (n*sz) 0=false) (hd:Nat.blt d N=true)
  (k:∀ b a' w',w0.heap.size≤b→St N D w0 F G0 G ((b,.cells css.flatten.toArray e (0,0)) :: L) ((d,.slice (some ⟨b,0,none⟩) n n) :: T) a' w'→WL r P ops Q rest a' w'):WL r P ops Q (⟨some d,.buildSlice t n xs.toArray,ty,pos,aU,g⟩ :: rest) a w:=by
 have hcn':css.length=n:=EN hcn
 refine jJ (vs':=(css.zipIdx 0).map fun p=>(p.2,p.1)) hs ht ((List.range (n*sz)).map (fun i=>zero[i % zero.length]!)) css.flatten H hw hx hv hn hn0 rfl (fun i q h=>?_) ?_ hd k
 ·rw [tu] at h
  obtain ⟨j,hj,rfl⟩:=ql.1 h
  obtain ⟨h1,h2⟩:=mq.1 hj
  rw [List.getElem_range] at h2
  rw [h2]
 ·have h:=Yd sz n css 0 [] ((List.range (n*sz)).map (fun i=>zero[i % zero.length]!)) (by simp) (by simp [hcn']) (fun c hc=>EN (oU.1 hl c hc)) (by omega)
  simpa using h
end
end
section
open Go.RowKit
structure WE (P:Program) (s n off:Nat):Prop where
 h:(match P.underlying s with|some (.struct fs)=>(fs[n]?).bind fun f=>((P.underlying f.type).map (fun|.struct _=>true|.array _ _=>true|_=>false)).map fun g=>(f.offset,g)|_=>none)=some (off,false)
theorem WE.parts {P:Program} {s n off:Nat} (h:WE P s n off):∃ fs fl u,P.underlying s=some (.struct fs)∧fs[n]?=some fl∧P.underlying fl.type=some u∧(match u with|.struct _=>true|.array _ _=>true|_=>false)=false∧fl.offset=off:=by
 obtain ⟨h⟩:=h
 split at h
 ·rename_i fs hs
  obtain ⟨fl,hf,h2⟩:=Option.bind_eq_some_iff.1 h
  obtain ⟨b,hb,h3⟩:=ql.1 h2
  obtain ⟨u,hu,h4⟩:=ql.1 hb
  simp only [jh] at h3
  refine ⟨fs,fl,u,hs,hf,hu,?_,h3.1⟩
  rw [← h3.2,← h4]
  cases u <;> rfl
 ·cases h
section
variable {N:Nat} {D:List Deferred} {w0:World} {F:Nat→Prop} {G0 G:GH} {L Li Lo:OL} {T:List (Nat × ak)}
variable {r:Option Nat} {P:Program} {ops:Array Oper} {Q:Exit→Act→World→Prop} {rest:List Oper} {a:Act} {w:World}
variable {d:Nat} {ty:TypeId} {pos:String} {aU:Array Edge} {g:Option (Nat × Bool)}
theorem Vd {t:TypeId} {x y:Operand} {s:ByteArray} {ky:IntKind} {p:Int} (lo:Nat) (ht:P.underlying t=some .string) (H:St N D w0 F G0 G L T a w) (hw:Region.wanted ⟨some d,.slice t x (some y) none none,ty,pos,aU,g⟩ (yielded ops a.tmps)=true) (hx:ev T x=some (.string s)) (hy:ev T y=some (.int ky p)) (hp:p=(lo:Int)) (h1:lo≤s.size) (hd:Nat.blt d N=true)
  (k:∀ a',St N D w0 F G0 G L ((d,.string (s.extract lo s.size)) :: T) a' w→WL r P ops Q rest a' w):WL r P ops Q (⟨some d,.slice t x (some y) none none,ty,pos,aU,g⟩ :: rest) a w:=by
 subst hp
 have hr:=run_slice_string_l (P:=P) w t s ht ky (lo:Int) (by omega) (by omega)
 rw [Int.toNat_natCast] at hr
 refine gZ (v:=.string (s.extract lo s.size)) (w':=w) hw rfl ?_ (k _ (H.put hd _ H.hp))
 simp only [execOp,H.ev hx,Option.map_some,Option.map_none,H.ev hy,eT,run_sliceAt_string w t _ _ _ _ ht,hr,nC,uq]
end
end
section
open Go.RowKit
theorem qh:prog.underlying 3=some (.int .i64):=by kernel_rfl
theorem M7:prog.underlying 5=some (.int .u8):=by kernel_rfl
theorem iD:prog.underlying 9=some .string:=by kernel_rfl
theorem afB:∀ args w,(callFunc 184 args).run prog w=.ok (.enter 184 args) w:=enters func184 rfl (by kernel_rfl)
theorem afd:∀ args w,(callFunc 155 args).run prog w=.ok (.enter 155 args) w:=enters func155 rfl (by kernel_rfl)
theorem aeF:∀ args w,(callFunc 113 args).run prog w=.ok (.enter 113 args) w:=enters func113 rfl (by kernel_rfl)
theorem EU:∀ args w,(callFunc 54 args).run prog w=.ok (.enter 54 args) w:=enters func54 rfl (by kernel_rfl)
def jD (b:Int):Int × Int × Int :=
  (if b=224 then 160 else if b=240 then 144 else 128,if b=237 then 159 else if b=244 then 143 else 191,
   if b < 128 then 1 else if b < 194∨244 < b then 0 else if b < 224 then 2 else if b < 240 then 3 else 4)
theorem Vo (b:Int):0≤(jD b).2.2∧(jD b).2.2≤4:=by
 simp only [jD];split
 ·omega
 split
 ·omega
 split
 ·omega
 split <;> omega
theorem anz (G:GH) (w0:World) (hG:Hold G w0) (b:Int) :
  Calls prog 184 #[.int .u8 b] w0 (bJ w0 G fun v G'=>v=.tuple #[.int .u8 (jD b).1,.int .u8 (jD b).2.1,.int .i64 (jD b).2.2]∧G=G'):=by
 refine eN [(0,_)] func184 rfl ntmps184 rfl rfl hG ?_;intro a H;refine kP H (SR fun _ K1=>Ra rfl (Ra rfl (aj K1 rfl (SR fun _ K2=>Ra rfl (aj K2 rfl (SQ fun _ K3=>SB (SR fun _ K4=>Rm rfl (Rc rfl (aj K4 rfl (Cd rfl ?_ ?_)))))))))) <;> clear H K1 K2 K4
 ·intro h5 a H
  try have p5:=dT h5
  refine kP H (SC (aO K3 rfl (SQ fun _ K5=>SR fun _ K6=>Rm rfl (Kz K6 (SB (SR fun _ K7=>Rc rfl (aj K7 rfl (Cd rfl ?_ ?_)))))))) <;> clear H K3 K6 K7
  ·intro h22 a H
   try have jI:=dT h22
   refine kP H (SC (aO K5 rfl (SR fun _ K8=>Rm rfl (Rm rfl (Rm rfl (Ra rfl (Ra rfl (aj K8 rfl ?_))))))));clear H K5 K8;intro a H;refine dR ?_;refine (iB H results184 (.cons (bM H rfl) (.cons (bM H rfl) (.cons (bM H rfl) .nil))) ?_).1
   first|(exfalso;omega)|exact H.rt ⟨by simp only [jD];repeat (first|rw [av (by omega)]|rw [ah (by omega)]),rfl⟩
  intro h22 a H
  try have jI:=dF h22
  refine kP H (SR fun _ K9=>Rc rfl (aj K9 rfl (Cd rfl ?_ ?_))) <;> clear H K9
  ·intro bE a H
   try have jP:=dT bE
   refine kP H (SC (aO K5 rfl (SR fun _ aT=>Rm rfl (Rm rfl (Rm rfl (Ra rfl (Ra rfl (aj aT rfl ?_))))))));clear H K5 aT;intro a H;refine dR ?_;refine (iB H results184 (.cons (bM H rfl) (.cons (bM H rfl) (.cons (bM H rfl) .nil))) ?_).1
   first|(exfalso;omega)|exact H.rt ⟨by simp only [jD];repeat (first|rw [av (by omega)]|rw [ah (by omega)]),rfl⟩
  intro bE a H
  try have jP:=dF bE
  refine kP H (SR fun _ bB=>Rc rfl (aj bB rfl (Cd rfl ?_ ?_))) <;> clear H bB
  ·intro fI a H
   try have p26:=dT fI
   refine kP H (SC (aO K5 rfl (SR fun _ bC=>Rm rfl (Rm rfl (Rm rfl (Ra rfl (Ra rfl (aj bC rfl ?_))))))));clear H K5 bC;intro a H;refine dR ?_;refine (iB H results184 (.cons (bM H rfl) (.cons (bM H rfl) (.cons (bM H rfl) .nil))) ?_).1
   first|(exfalso;omega)|exact H.rt ⟨by simp only [jD];repeat (first|rw [av (by omega)]|rw [ah (by omega)]),rfl⟩
  intro fI a H
  try have p26:=dF fI
  refine kP H (SR fun _ bK=>Rc rfl (aj bK rfl (Cd rfl ?_ ?_))) <;> clear H bK
  ·intro gQ a H
   try have p28:=dT gQ
   refine kP H (SC (aO K5 rfl (SR fun _ bP=>Rm rfl (Rm rfl (Rm rfl (Ra rfl (Ra rfl (aj bP rfl ?_))))))));clear H K5 bP;intro a H;refine dR ?_;refine (iB H results184 (.cons (bM H rfl) (.cons (bM H rfl) (.cons (bM H rfl) .nil))) ?_).1
   first|(exfalso;omega)|exact H.rt ⟨by simp only [jD];repeat (first|rw [av (by omega)]|rw [ah (by omega)]),rfl⟩
  intro gQ a H
  try have p28:=dF gQ
  refine kP H (Kc K5 (SR fun _ dx=>Rm rfl (Rm rfl (Rm rfl (Ra rfl (Ra rfl (aj dx rfl ?_)))))));clear H K5 dx;intro a H;refine dR ?_;refine (iB H results184 (.cons (bM H rfl) (.cons (bM H rfl) (.cons (bM H rfl) .nil))) ?_).1
  first|(exfalso;omega)|exact H.rt ⟨by simp only [jD];repeat (first|rw [av (by omega)]|rw [ah (by omega)]),rfl⟩
 intro h5 a H
 try have p5:=dF h5
 refine kP H (SR fun _ dP=>Rm rfl (Rc rfl (Rm rfl (Sp 11 rfl ?_ ?_)))) <;> clear H
 ·intro h11 a H
  try have rQ:=dT h11
  refine kH H (aN h11 rfl (Pt h11 rfl (aj dP rfl (Ct rfl rfl (SC (aO K3 rfl (SQ fun _ dB=>SR fun _ dY=>Rm rfl (Kz dY (SB (SR fun _ eP=>Rc rfl (aj eP rfl (Cd rfl ?_ ?_)))))))))))) <;> clear H dP K3 dY eP
  ·intro h22 a H
   try have jI:=dT h22
   refine kP H (SC (aO dB rfl (SR fun _ dZ=>Rm rfl (Rm rfl (Rm rfl (Ra rfl (Ra rfl (aj dZ rfl ?_))))))));clear H dB dZ;intro a H;refine dR ?_;refine (iB H results184 (.cons (bM H rfl) (.cons (bM H rfl) (.cons (bM H rfl) .nil))) ?_).1
   first|(exfalso;omega)|exact H.rt ⟨by simp only [jD];repeat (first|rw [av (by omega)]|rw [ah (by omega)]),rfl⟩
  intro h22 a H
  try have jI:=dF h22
  refine kP H (SR fun _ eU=>Rc rfl (aj eU rfl (Cd rfl ?_ ?_))) <;> clear H eU
  ·intro bE a H
   try have jP:=dT bE
   refine kP H (SC (aO dB rfl (SR fun _ fK=>Rm rfl (Rm rfl (Rm rfl (Ra rfl (Ra rfl (aj fK rfl ?_))))))));clear H dB fK;intro a H;refine dR ?_;refine (iB H results184 (.cons (bM H rfl) (.cons (bM H rfl) (.cons (bM H rfl) .nil))) ?_).1
   first|(exfalso;omega)|exact H.rt ⟨by simp only [jD];repeat (first|rw [av (by omega)]|rw [ah (by omega)]),rfl⟩
  intro bE a H
  try have jP:=dF bE
  refine kP H (SR fun _ gM=>Rc rfl (aj gM rfl (Cd rfl ?_ ?_))) <;> clear H gM
  ·intro fI a H
   try have p26:=dT fI
   refine kP H (SC (aO dB rfl (SR fun _ iC=>Rm rfl (Rm rfl (Rm rfl (Ra rfl (Ra rfl (aj iC rfl ?_))))))));clear H dB iC;intro a H;refine dR ?_;refine (iB H results184 (.cons (bM H rfl) (.cons (bM H rfl) (.cons (bM H rfl) .nil))) ?_).1
   first|(exfalso;omega)|exact H.rt ⟨by simp only [jD];repeat (first|rw [av (by omega)]|rw [ah (by omega)]),rfl⟩
  intro fI a H
  try have p26:=dF fI
  refine kP H (SR fun _ gu=>Rc rfl (aj gu rfl (Cd rfl ?_ ?_))) <;> clear H gu
  ·intro gQ a H
   try have p28:=dT gQ
   refine kP H (SC (aO dB rfl (SR fun _ iX=>Rm rfl (Rm rfl (Rm rfl (Ra rfl (Ra rfl (aj iX rfl ?_))))))));clear H dB iX;intro a H;refine dR ?_;refine (iB H results184 (.cons (bM H rfl) (.cons (bM H rfl) (.cons (bM H rfl) .nil))) ?_).1
   first|(exfalso;omega)|exact H.rt ⟨by simp only [jD];repeat (first|rw [av (by omega)]|rw [ah (by omega)]),rfl⟩
  intro gQ a H
  try have p28:=dF gQ
  refine kP H (Kc dB (SR fun _ jo=>Rm rfl (Rm rfl (Rm rfl (Ra rfl (Ra rfl (aj jo rfl ?_)))))));clear H dB jo;intro a H;refine dR ?_;refine (iB H results184 (.cons (bM H rfl) (.cons (bM H rfl) (.cons (bM H rfl) .nil))) ?_).1
  first|(exfalso;omega)|exact H.rt ⟨by simp only [jD];repeat (first|rw [av (by omega)]|rw [ah (by omega)]),rfl⟩
 intro h11 a H
 try have rQ:=dF h11
 refine kH H (YM h11 rfl (YC h11 rfl (Pf h11 rfl (aj dP rfl (Cd rfl ?_ ?_))))) <;> clear H dP
 ·intro h8 a H
  try have p8:=dT h8
  refine kP H (SC (aO K3 rfl (SQ fun _ iN=>SR fun _ kJ=>Rm rfl (Kz kJ (SB (SR fun _ kK=>Rc rfl (aj kK rfl (Cd rfl ?_ ?_)))))))) <;> clear H K3 kJ kK
  ·intro h22 a H
   try have jI:=dT h22
   refine kP H (SC (aO iN rfl (SR fun _ jA=>Rm rfl (Rm rfl (Rm rfl (Ra rfl (Ra rfl (aj jA rfl ?_))))))));clear H iN jA;intro a H;refine dR ?_;refine (iB H results184 (.cons (bM H rfl) (.cons (bM H rfl) (.cons (bM H rfl) .nil))) ?_).1
   first|(exfalso;omega)|exact H.rt ⟨by simp only [jD];repeat (first|rw [av (by omega)]|rw [ah (by omega)]),rfl⟩
  intro h22 a H
  try have jI:=dF h22
  refine kP H (SR fun _ kT=>Rc rfl (aj kT rfl (Cd rfl ?_ ?_))) <;> clear H kT
  ·intro bE a H
   try have jP:=dT bE
   refine kP H (SC (aO iN rfl (SR fun _ kU=>Rm rfl (Rm rfl (Rm rfl (Ra rfl (Ra rfl (aj kU rfl ?_))))))));clear H iN kU;intro a H;refine dR ?_;refine (iB H results184 (.cons (bM H rfl) (.cons (bM H rfl) (.cons (bM H rfl) .nil))) ?_).1
   first|(exfalso;omega)|exact H.rt ⟨by simp only [jD];repeat (first|rw [av (by omega)]|rw [ah (by omega)]),rfl⟩
  intro bE a H
  try have jP:=dF bE
  refine kP H (SR fun _ lM=>Rc rfl (aj lM rfl (Cd rfl ?_ ?_))) <;> clear H lM
  ·intro fI a H
   try have p26:=dT fI
   refine kP H (SC (aO iN rfl (SR fun _ lN=>Rm rfl (Rm rfl (Rm rfl (Ra rfl (Ra rfl (aj lN rfl ?_))))))));clear H iN lN;intro a H;refine dR ?_;refine (iB H results184 (.cons (bM H rfl) (.cons (bM H rfl) (.cons (bM H rfl) .nil))) ?_).1
   first|(exfalso;omega)|exact H.rt ⟨by simp only [jD];repeat (first|rw [av (by omega)]|rw [ah (by omega)]),rfl⟩
  intro fI a H
  try have p26:=dF fI
  refine kP H (SR fun _ lQ=>Rc rfl (aj lQ rfl (Cd rfl ?_ ?_))) <;> clear H lQ
  ·intro gQ a H
   try have p28:=dT gQ
   refine kP H (SC (aO iN rfl (SR fun _ mo=>Rm rfl (Rm rfl (Rm rfl (Ra rfl (Ra rfl (aj mo rfl ?_))))))));clear H iN mo;intro a H;refine dR ?_;refine (iB H results184 (.cons (bM H rfl) (.cons (bM H rfl) (.cons (bM H rfl) .nil))) ?_).1
   first|(exfalso;omega)|exact H.rt ⟨by simp only [jD];repeat (first|rw [av (by omega)]|rw [ah (by omega)]),rfl⟩
  intro gQ a H
  try have p28:=dF gQ
  refine kP H (Kc iN (SR fun _ rz=>Rm rfl (Rm rfl (Rm rfl (Ra rfl (Ra rfl (aj rz rfl ?_)))))));clear H iN rz;intro a H;refine dR ?_;refine (iB H results184 (.cons (bM H rfl) (.cons (bM H rfl) (.cons (bM H rfl) .nil))) ?_).1
  first|(exfalso;omega)|exact H.rt ⟨by simp only [jD];repeat (first|rw [av (by omega)]|rw [ah (by omega)]),rfl⟩
 intro h8 a H
 try have p8:=dF h8
 refine kP H (SR fun _ wm=>Rm rfl (Rc rfl (aj wm rfl (Cd rfl ?_ ?_)))) <;> clear H wm
 ·intro fM a H
  try have oL:=dT fM
  refine kP H (SC (aO K3 rfl (SQ fun _ lS=>SR fun _ yQ=>Rm rfl (Kz yQ (SB (SR fun _ wo=>Rc rfl (aj wo rfl (Cd rfl ?_ ?_)))))))) <;> clear H K3 yQ wo
  ·intro h22 a H
   try have jI:=dT h22
   refine kP H (SC (aO lS rfl (SR fun _ EC=>Rm rfl (Rm rfl (Rm rfl (Ra rfl (Ra rfl (aj EC rfl ?_))))))));clear H lS EC;intro a H;refine dR ?_;refine (iB H results184 (.cons (bM H rfl) (.cons (bM H rfl) (.cons (bM H rfl) .nil))) ?_).1
   first|(exfalso;omega)|exact H.rt ⟨by simp only [jD];repeat (first|rw [av (by omega)]|rw [ah (by omega)]),rfl⟩
  intro h22 a H
  try have jI:=dF h22
  refine kP H (SR fun _ Ch=>Rc rfl (aj Ch rfl (Cd rfl ?_ ?_))) <;> clear H Ch
  ·intro bE a H
   try have jP:=dT bE
   refine kP H (SC (aO lS rfl (SR fun _ AX=>Rm rfl (Rm rfl (Rm rfl (Ra rfl (Ra rfl (aj AX rfl ?_))))))));clear H lS AX;intro a H;refine dR ?_;refine (iB H results184 (.cons (bM H rfl) (.cons (bM H rfl) (.cons (bM H rfl) .nil))) ?_).1
   first|(exfalso;omega)|exact H.rt ⟨by simp only [jD];repeat (first|rw [av (by omega)]|rw [ah (by omega)]),rfl⟩
  intro bE a H
  try have jP:=dF bE
  refine kP H (SR fun _ Ac=>Rc rfl (aj Ac rfl (Cd rfl ?_ ?_))) <;> clear H Ac
  ·intro fI a H
   try have p26:=dT fI
   refine kP H (SC (aO lS rfl (SR fun _ Dt=>Rm rfl (Rm rfl (Rm rfl (Ra rfl (Ra rfl (aj Dt rfl ?_))))))));clear H lS Dt;intro a H;refine dR ?_;refine (iB H results184 (.cons (bM H rfl) (.cons (bM H rfl) (.cons (bM H rfl) .nil))) ?_).1
   first|(exfalso;omega)|exact H.rt ⟨by simp only [jD];repeat (first|rw [av (by omega)]|rw [ah (by omega)]),rfl⟩
  intro fI a H
  try have p26:=dF fI
  refine kP H (SR fun _ Du=>Rc rfl (aj Du rfl (Cd rfl ?_ ?_))) <;> clear H Du
  ·intro gQ a H
   try have p28:=dT gQ
   refine kP H (SC (aO lS rfl (SR fun _ Ci=>Rm rfl (Rm rfl (Rm rfl (Ra rfl (Ra rfl (aj Ci rfl ?_))))))));clear H lS Ci;intro a H;refine dR ?_;refine (iB H results184 (.cons (bM H rfl) (.cons (bM H rfl) (.cons (bM H rfl) .nil))) ?_).1
   first|(exfalso;omega)|exact H.rt ⟨by simp only [jD];repeat (first|rw [av (by omega)]|rw [ah (by omega)]),rfl⟩
  intro gQ a H
  try have p28:=dF gQ
  refine kP H (Kc lS (SR fun _ F5=>Rm rfl (Rm rfl (Rm rfl (Ra rfl (Ra rfl (aj F5 rfl ?_)))))));clear H lS F5;intro a H;refine dR ?_;refine (iB H results184 (.cons (bM H rfl) (.cons (bM H rfl) (.cons (bM H rfl) .nil))) ?_).1
  first|(exfalso;omega)|exact H.rt ⟨by simp only [jD];repeat (first|rw [av (by omega)]|rw [ah (by omega)]),rfl⟩
 intro fM a H
 try have oL:=dF fM
 refine kP H (SR fun _ F6=>Rm rfl (Rc rfl (aj F6 rfl (Cd rfl ?_ ?_)))) <;> clear H F6
 ·intro h18 a H
  try have pG:=dT h18
  refine kP H (SC (aO K3 rfl (SQ fun _ uZ=>SR fun _ ED=>Rm rfl (Kz ED (SB (SR fun _ F7=>Rc rfl (aj F7 rfl (Cd rfl ?_ ?_)))))))) <;> clear H K3 ED F7
  ·intro h22 a H
   try have jI:=dT h22
   refine kP H (SC (aO uZ rfl (SR fun _ qj=>Rm rfl (Rm rfl (Rm rfl (Ra rfl (Ra rfl (aj qj rfl ?_))))))));clear H uZ qj;intro a H;refine dR ?_;refine (iB H results184 (.cons (bM H rfl) (.cons (bM H rfl) (.cons (bM H rfl) .nil))) ?_).1
   first|(exfalso;omega)|exact H.rt ⟨by simp only [jD];repeat (first|rw [av (by omega)]|rw [ah (by omega)]),rfl⟩
  intro h22 a H
  try have jI:=dF h22
  refine kP H (SR fun _ EF=>Rc rfl (aj EF rfl (Cd rfl ?_ ?_))) <;> clear H EF
  ·intro bE a H
   try have jP:=dT bE
   refine kP H (SC (aO uZ rfl (SR fun _ xE=>Rm rfl (Rm rfl (Rm rfl (Ra rfl (Ra rfl (aj xE rfl ?_))))))));clear H uZ xE;intro a H;refine dR ?_;refine (iB H results184 (.cons (bM H rfl) (.cons (bM H rfl) (.cons (bM H rfl) .nil))) ?_).1
   first|(exfalso;omega)|exact H.rt ⟨by simp only [jD];repeat (first|rw [av (by omega)]|rw [ah (by omega)]),rfl⟩
  intro bE a H
  try have jP:=dF bE
  refine kP H (SR fun _ EG=>Rc rfl (aj EG rfl (Cd rfl ?_ ?_))) <;> clear H EG
  ·intro fI a H
   try have p26:=dT fI
   refine kP H (SC (aO uZ rfl (SR fun _ F8=>Rm rfl (Rm rfl (Rm rfl (Ra rfl (Ra rfl (aj F8 rfl ?_))))))));clear H uZ F8;intro a H;refine dR ?_;refine (iB H results184 (.cons (bM H rfl) (.cons (bM H rfl) (.cons (bM H rfl) .nil))) ?_).1
   first|(exfalso;omega)|exact H.rt ⟨by simp only [jD];repeat (first|rw [av (by omega)]|rw [ah (by omega)]),rfl⟩
  intro fI a H
  try have p26:=dF fI
  refine kP H (SR fun _ EH=>Rc rfl (aj EH rfl (Cd rfl ?_ ?_))) <;> clear H EH
  ·intro gQ a H
   try have p28:=dT gQ
   refine kP H (SC (aO uZ rfl (SR fun _ F9=>Rm rfl (Rm rfl (Rm rfl (Ra rfl (Ra rfl (aj F9 rfl ?_))))))));clear H uZ F9;intro a H;refine dR ?_;refine (iB H results184 (.cons (bM H rfl) (.cons (bM H rfl) (.cons (bM H rfl) .nil))) ?_).1
   first|(exfalso;omega)|exact H.rt ⟨by simp only [jD];repeat (first|rw [av (by omega)]|rw [ah (by omega)]),rfl⟩
  intro gQ a H
  try have p28:=dF gQ
  refine kP H (Kc uZ (SR fun _ AY=>Rm rfl (Rm rfl (Rm rfl (Ra rfl (Ra rfl (aj AY rfl ?_)))))));clear H uZ AY;intro a H;refine dR ?_;refine (iB H results184 (.cons (bM H rfl) (.cons (bM H rfl) (.cons (bM H rfl) .nil))) ?_).1
  first|(exfalso;omega)|exact H.rt ⟨by simp only [jD];repeat (first|rw [av (by omega)]|rw [ah (by omega)]),rfl⟩
 intro h18 a H
 try have pG:=dF h18
 refine kP H (SC (aO K3 rfl (SQ fun _ uh=>SR fun _ Dw=>Rm rfl (Kz Dw (SB (SR fun _ Gd=>Rc rfl (aj Gd rfl (Cd rfl ?_ ?_)))))))) <;> clear H K3 Dw Gd
 ·intro h22 a H
  try have jI:=dT h22
  refine kP H (SC (aO uh rfl (SR fun _ Gf=>Rm rfl (Rm rfl (Rm rfl (Ra rfl (Ra rfl (aj Gf rfl ?_))))))));clear H uh Gf;intro a H;refine dR ?_;refine (iB H results184 (.cons (bM H rfl) (.cons (bM H rfl) (.cons (bM H rfl) .nil))) ?_).1
  first|(exfalso;omega)|exact H.rt ⟨by simp only [jD];repeat (first|rw [av (by omega)]|rw [ah (by omega)]),rfl⟩
 intro h22 a H
 try have jI:=dF h22
 refine kP H (SR fun _ EI=>Rc rfl (aj EI rfl (Cd rfl ?_ ?_))) <;> clear H EI
 ·intro bE a H
  try have jP:=dT bE
  refine kP H (SC (aO uh rfl (SR fun _ EJ=>Rm rfl (Rm rfl (Rm rfl (Ra rfl (Ra rfl (aj EJ rfl ?_))))))));clear H uh EJ;intro a H;refine dR ?_;refine (iB H results184 (.cons (bM H rfl) (.cons (bM H rfl) (.cons (bM H rfl) .nil))) ?_).1
  first|(exfalso;omega)|exact H.rt ⟨by simp only [jD];repeat (first|rw [av (by omega)]|rw [ah (by omega)]),rfl⟩
 intro bE a H
 try have jP:=dF bE
 refine kP H (SR fun _ EK=>Rc rfl (aj EK rfl (Cd rfl ?_ ?_))) <;> clear H EK
 ·intro fI a H
  try have p26:=dT fI
  refine kP H (SC (aO uh rfl (SR fun _ IY=>Rm rfl (Rm rfl (Rm rfl (Ra rfl (Ra rfl (aj IY rfl ?_))))))));clear H uh IY;intro a H;refine dR ?_;refine (iB H results184 (.cons (bM H rfl) (.cons (bM H rfl) (.cons (bM H rfl) .nil))) ?_).1
  first|(exfalso;omega)|exact H.rt ⟨by simp only [jD];repeat (first|rw [av (by omega)]|rw [ah (by omega)]),rfl⟩
 intro fI a H
 try have p26:=dF fI
 refine kP H (SR fun _ Gg=>Rc rfl (aj Gg rfl (Cd rfl ?_ ?_))) <;> clear H Gg
 ·intro gQ a H
  try have p28:=dT gQ
  refine kP H (SC (aO uh rfl (SR fun _ Kq=>Rm rfl (Rm rfl (Rm rfl (Ra rfl (Ra rfl (aj Kq rfl ?_))))))));clear H uh Kq;intro a H;refine dR ?_;refine (iB H results184 (.cons (bM H rfl) (.cons (bM H rfl) (.cons (bM H rfl) .nil))) ?_).1
  first|(exfalso;omega)|exact H.rt ⟨by simp only [jD];repeat (first|rw [av (by omega)]|rw [ah (by omega)]),rfl⟩
 intro gQ a H
 try have p28:=dF gQ
 refine kP H (Kc uh (SR fun _ Ni=>Rm rfl (Rm rfl (Rm rfl (Ra rfl (Ra rfl (aj Ni rfl ?_)))))));clear H uh Ni;intro a H;refine dR ?_;refine (iB H results184 (.cons (bM H rfl) (.cons (bM H rfl) (.cons (bM H rfl) .nil))) ?_).1
 first|(exfalso;omega)|exact H.rt ⟨by simp only [jD];repeat (first|rw [av (by omega)]|rw [ah (by omega)]),rfl⟩
def ji (s:ByteArray) (i:Nat):Int:=if h:i < s.size then (s[i].toNat:Int) else 0
theorem oh {s:ByteArray} {i:Nat} (h:i < s.size):ji s i=(s[i].toNat:Int):=by simp [ji,h]
def xM (s:ByteArray) (at_ n:Nat):(fuel k:Nat)→(low high p:Int)→Int × Nat × Bool
 | 0,k,_,_,p=>(p,k,true)
 | f+1,k,low,high,p =>
  if n≤k then (p,k,true)
  else if s.size≤at_+k∨ji s (at_+k) < low∨high < ji s (at_+k) then (0,k,false)
  else xM s at_ n f (k+1) 128 191 (qK .or .i64 (IntKind.i64.wrap (p*2 ^ 6)) (qK .and .i64 (ji s (at_+k)) 63))
def pQ (s:ByteArray) (at_:Nat):Int × Nat × Bool :=
 let b:=ji s at_
 let t:=jD b
 if t.2.2=0 then (0,0,false) else if t.2.2=1 then (b,1,true)
 else xM s at_ t.2.2.toNat 4 1 t.1 t.2.1 (qK .and .i64 b ((127:Int).fdiv (2 ^ t.2.2.toNat)))
theorem Vt (n:UInt8):IntKind.i64.wrap (n.toNat:Int)=(n.toNat:Int):=JK (by omega) (by have:=n.toNat_lt;omega)
set_option maxHeartbeats 1000000 in
theorem aef (G:GH) (w0:World) (hG:Hold G w0) (s:ByteArray) (i:Nat) (hi:i < s.size) (hs:s.size < 4611686018427387904) :
  Calls prog 155 #[.string s,.int .i64 i] w0 (bJ w0 G fun v G'=>v=.tuple #[.int .i64 (pQ s i).1,.int .i64 (pQ s i).2.1,.bool (pQ s i).2.2]∧G=G'):=by
 have hb:=oh hi;obtain ⟨n,hn⟩:∃ n:Nat,(jD (ji s i)).2.2=(n:Int):=⟨(jD (ji s i)).2.2.toNat,by have:=Vo (ji s i);omega⟩
 have hn4:n≤4:=by have:=Vo (ji s i);omega
 refine eN [(0,_),(1,_)] func155 rfl ntmps155 rfl rfl hG ?_;intro a H;refine kP H (SR fun _ K1=>Ra rfl (Ra rfl (aj K1 rfl (SR fun _ K2=>Rm rfl (Rm rfl ?_)))));clear H K1;intro a H;refine qC _ iD H wn rfl rfl rfl (by first|assumption|omega) rfl ?_;clear H;intro a H;refine kH H (Ra rfl ?_);clear H;intro a H;rw [← hb] at H;refine K2 _ _ ?_;clear K2;refine kP H (SR fun _ K3=>Rm rfl ?_);clear H;intro a H;refine s_call afB H wn rfl (anz _ _ H.ro _) rfl ?_;clear H;rintro v16 _ a w ⟨rfl,rfl⟩ - H;refine kH H (Rm rfl ?_);clear H;intro a H;(iterate 3 refine uT H wn rfl rfl rfl ?_;clear H;intro a H);refine kH H (Ra rfl (Ra rfl (aj K3 rfl (SQ fun _ K4=>SR fun _ K5=>Rm rfl (Kz K5 (SB (SR fun _ K6=>Rc rfl (aj K6 rfl (Cd rfl ?_ ?_))))))))) <;> clear H K3 K5 K6
 ·intro h21 a H
  try have oM:=dT h21
  refine kP H (SR fun _ K7=>Ra rfl (Ra rfl (aj K7 rfl ?_)));clear H K7;intro a H;refine dR ?_;skip;refine (iB H results155 (.cons (bM H rfl) (.cons (bM H rfl) (.cons (bM H rfl) .nil))) ?_).1;exact H.rt ⟨by simp [pQ,oM],rfl⟩
 intro h21 a H
 try have oM:=dF h21
 refine kP H (SR fun _ K8=>Rc rfl (aj K8 rfl (Cd rfl ?_ ?_))) <;> clear H K8
 ·intro h23 a H
  try have AA:=dT h23
  refine kP H (SR fun _ K9=>Rm rfl ?_);clear H;intro a H;refine JZ (ji s i) qh M7 H wn rfl (by rw [hb];exact Vt _) rfl ?_;clear H;intro a H;refine kH H (Ra rfl (Ra rfl (aj K9 rfl ?_)));clear H K9;intro a H;refine dR ?_;skip;refine (iB H results155 (.cons (bM H rfl) (.cons (bM H rfl) (.cons (bM H rfl) .nil))) ?_).1;exact H.rt ⟨by simp [pQ,oM,AA],rfl⟩
 intro h23 a H
 try have AA:=dF h23
 refine kP H (Kc K4 (SR fun _ aT=>Rm rfl ?_));clear H K4;intro a H;refine JZ (ji s i) qh M7 H wn rfl (by rw [hb];exact Vt _) rfl ?_;clear H;intro a H;refine kH H (Rm rfl ?_);clear H;intro a H;refine aaS n H wn rfl rfl (by rw [hn]) (by show n≤64;omega) rfl ?_;clear H;intro a H;refine MQ rfl H wn rfl rfl rfl ?_;clear H;intro a H;refine kH H (aj aT rfl (SQ fun _ bB=>SR fun _ bC=>aj bC rfl (SB ?_)));clear H aT bC;intro a H;skip;refine eH (ι:=Nat × Int × Int × Int) (Tc:=[(0,_),(1,_),(10,_)]) (Lc:=[]) (fun gh=>[(4,.int .i64 gh.2.2.2),(5,.int .i64 (gh.1:Int)),(8,.int .u8 gh.2.1),(9,.int .u8 gh.2.2.1)]) (fun gh=>[]) (fun gh=>G) (fun gh=>gh.1≤4∧pQ s i=xM s i n (5 - gh.1) gh.1 gh.2.1 gh.2.2.1 gh.2.2.2) (fun gh=>5 - gh.1) ((1,_,_,_)) (by exact (H).sub ⟨rfl,rfl,rfl,rfl,rfl,rfl,rfl,aC⟩) ?_ ?_
 ·refine ⟨by omega,?_⟩;simp only [pQ,hn];rw [ah (by omega),ah (by omega)];rfl
 clear H;intro gh a w hI H;obtain ⟨k,low,high,p⟩:=gh;dsimp only at hI H;obtain ⟨hk,hdec⟩:=hI;dsimp only [lca,aV] at H;refine kP H (SQ fun _ bK=>SR fun _ bP=>Rm rfl (Rm rfl (Rc rfl (Kz bP (Cd rfl ?_ ?_))))) <;> clear H bP
 ·intro fD a H
  try have p34:=dT fD
  refine kP H (Kc bK (SQ fun _ dx=>SB (SQ fun _ dP=>SR fun _ dB=>Rm rfl (Rm rfl (Rd rfl (Rm rfl (Rv iD rfl (Rc rfl (Rm rfl (Sp 43 rfl ?_ ?_)))))))))) <;> clear H bK
  ·intro h43 a H
   try have p43:=dT h43
   refine kH H (aQ h43 rfl (aN h43 rfl (aN h43 rfl (Pt h43 rfl (Rm rfl (aQ rfl rfl (aN rfl rfl (aN rfl rfl (Pt rfl rfl (Kz dB (Ct rfl rfl (SR fun _ dY=>Rm rfl (Ra rfl (Ra rfl (aj dY rfl ?_)))))))))))))));clear H dB dY;intro a H;refine dR ?_
   have hfin:pQ s i=(if n≤k then (p,k,true) else (0,k,false)):=by
    rw [hdec];have e:5 - k=(4 - k)+1:=by omega
    rw [e,xM]
    by_cases hk2:n≤k
    ·rw [av hk2,av hk2]
    rw [ah hk2,ah hk2,av (by first|omega|(rw [oh (by omega)];omega))]
   refine (iB H results155 (.cons (bM H rfl) (.cons (bM H rfl) (.cons (bM H rfl) .nil))) ?_).1;exact H.rt ⟨by rw [hfin];first|rw [av (by omega)]|rw [ah (by omega)],rfl⟩
  intro h43 a H
  try have p43:=dF h43
  refine kH H (YM h43 rfl (YM h43 rfl (YM h43 rfl ?_)));clear H;intro a H;refine PW _ H (wg H rfl rfl h43) rfl rfl rfl (by omega) (by omega) rfl ?_;clear H;intro a H;refine qC _ iD H (wg H rfl rfl h43) rfl rfl rfl (by first|assumption|omega) rfl ?_;clear H;intro a H;refine kH H (YM h43 rfl (YC h43 rfl (Pf h43 rfl (Rm rfl (Sp 52 rfl ?_ ?_))))) <;> clear H
  ·intro sH a H
   try have p52:=dT sH
   refine kH H (aQ sH rfl (aN sH rfl (aN sH rfl (Pt sH rfl (Kz dB (Ct rfl rfl (SR fun _ eP=>Rm rfl (Ra rfl (Ra rfl (aj eP rfl ?_))))))))));clear H dB eP;intro a H;refine dR ?_
   have hfin:pQ s i=(if n≤k then (p,k,true) else (0,k,false)):=by
    rw [hdec];have e:5 - k=(4 - k)+1:=by omega
    rw [e,xM]
    by_cases hk2:n≤k
    ·rw [av hk2,av hk2]
    rw [ah hk2,ah hk2,av (by first|omega|(rw [oh (by omega)];omega))]
   refine (iB H results155 (.cons (bM H rfl) (.cons (bM H rfl) (.cons (bM H rfl) .nil))) ?_).1;exact H.rt ⟨by rw [hfin];first|rw [av (by omega)]|rw [ah (by omega)],rfl⟩
  intro sH a H
  try have p52:=dF sH
  refine kH H (YM sH rfl (YM sH rfl (YM sH rfl ?_)));clear H;intro a H;refine PW _ H (wg H rfl rfl sH) rfl rfl rfl (by omega) (by omega) rfl ?_;clear H;intro a H;refine qC _ iD H (wg H rfl rfl sH) rfl rfl rfl (by first|assumption|omega) rfl ?_;clear H;intro a H;refine kH H (YM sH rfl (YC sH rfl (Pf sH rfl (Kz dB (Cd rfl ?_ ?_))))) <;> clear H dB
  ·intro gX a H
   try have p60:=dT gX
   refine kP H (SR fun _ dZ=>Rm rfl (Ra rfl (Ra rfl (aj dZ rfl ?_))));clear H dZ;intro a H;refine dR ?_
   have hfin:pQ s i=(if n≤k then (p,k,true) else (0,k,false)):=by
    rw [hdec];have e:5 - k=(4 - k)+1:=by omega
    rw [e,xM]
    by_cases hk2:n≤k
    ·rw [av hk2,av hk2]
    rw [ah hk2,ah hk2,av (by first|omega|(rw [oh (by omega)];omega))]
   refine (iB H results155 (.cons (bM H rfl) (.cons (bM H rfl) (.cons (bM H rfl) .nil))) ?_).1;exact H.rt ⟨by rw [hfin];first|rw [av (by omega)]|rw [ah (by omega)],rfl⟩
  intro gX a H
  try have p60:=dF gX
  refine kP H (Kc dP (SR fun _ eU=>Rm rfl ?_));clear H dP;intro a H;refine amy _ H wn rfl rfl rfl (by decide) rfl ?_;clear H;intro a H;refine kH H (Rm rfl (Rm rfl (Rm rfl (Rd rfl ?_))));clear H;intro a H;refine qC _ iD H wn rfl rfl rfl (by first|assumption|omega) rfl ?_;clear H;intro a H;refine JZ (ji s (i+k)) qh M7 H wn rfl (by rw [oh (by omega)];exact Vt _) rfl ?_;clear H;intro a H;(iterate 2 refine MQ rfl H wn rfl rfl rfl ?_;clear H;intro a H);refine kH H (aj eU rfl (SC (Ra rfl (aO dx rfl (SC (Rm rfl (Rd rfl (Ra rfl ?_))))))));clear H eU dx;intro a H;refine aH ?_;refine dK ((k+1,128,191,qK .or .i64 (IntKind.i64.wrap (p*2 ^ 6)) (qK .and .i64 (ji s (i+k)) 63))) (by exact (H).sub ⟨rfl,rfl,rfl,rfl,rfl,rfl,rfl,aC⟩) ?_ ?_
  ·(try dsimp only);refine ⟨by omega,?_⟩
   have e:5 - k=(5 - (k+1))+1:=by omega
   rw [hdec,e,xM,ah (by omega),oh (by omega),ah (by omega)]
  first|omega|(dsimp only;omega)
 intro fD a H
 try have p34:=dF fD
 refine dW ?_;refine bB _ _ ?_;clear bB;refine kP H (SR fun _ fK=>Rm rfl (Rm rfl (Ra rfl (Ra rfl (aj fK rfl ?_)))));clear H fK;intro a H;refine dR ?_
 have hfin:pQ s i=(if n≤k then (p,k,true) else (0,k,false)):=by
  rw [hdec];have e:5 - k=(4 - k)+1:=by omega
  rw [e,xM]
  by_cases hk2:n≤k
  ·rw [av hk2,av hk2]
  rw [ah hk2,ah hk2,av (by first|omega|(rw [oh (by omega)];omega))]
 refine (iB H results155 (.cons (bM H rfl) (.cons (bM H rfl) (.cons (bM H rfl) .nil))) ?_).1;exact H.rt ⟨by rw [hfin];first|rw [av (by omega)]|rw [ah (by omega)],rfl⟩
theorem Xj (s:ByteArray) (at_ n:Nat):∀ (f k:Nat) (low high p:Int),n≤k+f→k≤n→k≤(xM s at_ n f k low high p).2.1∧(xM s at_ n f k low high p).2.1≤n∧((xM s at_ n f k low high p).2.2=true→at_+k≤s.size→at_+(xM s at_ n f k low high p).2.1≤s.size)
 | 0,k,low,high,p,h1,h2=>by simp only [xM];omega
 | f+1,k,low,high,p,h1,h2=>by
  unfold xM
  split
  ·simp only [];omega
  split
  ·simp only [];omega
  have ih:=Xj s at_ n f (k+1) 128 191 (qK .or .i64 (IntKind.i64.wrap (p*2 ^ 6)) (qK .and .i64 (ji s (at_+k)) 63)) (by omega) (by omega);refine ⟨by have:=ih.1;omega,ih.2.1,fun h3 h4=>ih.2.2 h3 (by omega)⟩
theorem Xk (s:ByteArray) (i:Nat) (hi:i < s.size):(pQ s i).2.1≤4∧((pQ s i).2.2=true→1≤(pQ s i).2.1∧i+(pQ s i).2.1≤s.size):=by
 have ht:=Vo (ji s i)
 unfold pQ
 simp only []
 split
 ·simp
 split
 ·simp;omega
 have:=Xj s i (jD (ji s i)).2.2.toNat 4 1 (jD (ji s i)).1 (jD (ji s i)).2.1 (qK .and .i64 (ji s i) ((127:Int).fdiv (2 ^ (jD (ji s i)).2.2.toNat))) (by omega) (by omega);refine ⟨by omega,fun h=>⟨by omega,this.2.2 h (by omega)⟩⟩
def vJ (s:ByteArray) (i:Nat):Int :=
 if h:i < s.size then (if h2:(pQ s i).2.2=true then vJ s (i+(pQ s i).2.1) else i) else -1
 termination_by s.size - i
 decreasing_by have:=(Xk s i h).2 h2;omega
theorem ahA (G:GH) (w0:World) (hG:Hold G w0) (s:ByteArray) (hs:s.size < 4611686018427387904) :
  Calls prog 113 #[.string s] w0 (bJ w0 G fun v G'=>v=.int .i64 (vJ s 0)∧G=G'):=by
 refine eN [(0,_)] func113 rfl ntmps113 rfl rfl hG ?_;intro a H;refine kP H (SR fun _ K1=>aj K1 rfl (SQ fun _ K2=>SR fun _ K3=>aj K3 rfl (SB ?_)));clear H K1 K3;intro a H;skip;refine eH (ι:=Nat) (Tc:=[(0,_)]) (Lc:=[]) (fun gh=>[(3,.int .i64 (gh:Int))]) (fun gh=>[]) (fun gh=>G) (fun gh=>gh≤s.size∧vJ s 0=vJ s gh) (fun gh=>s.size - gh) (0) (by exact (H).sub ⟨rfl,rfl,aC⟩) ?_ ?_
 ·exact ⟨by omega,rfl⟩
 clear H;intro gh a w hI H;obtain ⟨i,hgh⟩:∃ x,x=gh:=⟨_,rfl⟩;subst hgh;obtain ⟨hk,hf⟩:=hI;dsimp only [lca,aV] at H;refine kP H (SQ fun _ K4=>SR fun _ K5=>Rm rfl (Rm rfl (Rv iD rfl (Rc rfl (Kz K5 (Cd rfl ?_ ?_)))))) <;> clear H K5
 ·intro h10 a H
  try have jw:=dT h10
  refine kP H (Kc K4 (SB (SR fun _ K6=>Rm rfl (Rm rfl ?_))));clear H K4;intro a H;refine s_call afd H wn rfl (aef _ _ H.ro s i (by omega) hs) rfl ?_;clear H;rintro v14 _ a w ⟨rfl,rfl⟩ - H;have hd:=Xk s i (by omega);refine kH H (Rm rfl ?_);clear H;intro a H;(iterate 3 refine uT H wn rfl rfl rfl ?_;clear H;intro a H);refine kH H (Ra rfl (Ra rfl (aj K6 rfl (SQ fun _ K7=>SR fun _ K8=>Rm rfl (Rn rfl (Kz K8 (Cd rfl ?_ ?_))))))) <;> clear H K6 K8
  ·intro h19 a H
   try have yD:=dT h19
   exact kP H (SR fun _ K9=>Rm rfl (aj K9 rfl (LR results113 rfl fun H=>H.rt ⟨by rw [hf,vJ,dif_pos (by omega),dif_neg (by simpa using h19)],rfl⟩)))
  intro h19 a H
  try have yD:=dF h19
  refine kP H (Kc K7 (SC (Rm rfl (Rm rfl (Rd rfl (Ra rfl ?_))))));clear H K7;intro a H;refine aH ?_;refine dK ((i+(pQ s i).2.1)) (by exact (H).sub ⟨rfl,rfl,aC⟩) ?_ ?_
  ·have h1:(pQ s i).2.2=true:=by simpa using h19
   have h2:=hd.2 h1;refine ⟨by omega,?_⟩;rw [hf,vJ,dif_pos (by omega),dif_pos h1]
  have h1:(pQ s i).2.2=true:=by simpa using h19
  have h2:=hd.2 h1
  omega
 intro h10 a H
 try have jw:=dF h10
 refine dW ?_;refine K2 _ _ ?_;clear K2;exact kP H (SR fun _ aT=>aj aT rfl (LR results113 rfl fun H=>H.rt ⟨by rw [hf,vJ,dif_neg (by omega)],rfl⟩))
def sW (s:ByteArray):Bool:=decide (vJ s 0 < 0)
theorem FL (G:GH) (w0:World) (hG:Hold G w0) (s:ByteArray) (hs:s.size < 4611686018427387904) :
  Calls prog 54 #[.string s] w0 (bJ w0 G fun v G'=>v=.bool (sW s)∧G=G'):=by
 refine eN [(0,_)] func54 rfl ntmps54 rfl rfl hG ?_;intro a H;refine kP H (SR fun _ K1=>aj K1 rfl (SR fun _ K2=>Rm rfl ?_));clear H K1;intro a H;refine s_call aeF H wn rfl (ahA _ _ H.ro s hs) rfl ?_;clear H;rintro v4 _ a w ⟨rfl,rfl⟩ - H;exact kH H (Rc rfl (aj K2 rfl (LR results54 rfl fun H=>H.rt ⟨rfl,rfl⟩)))
def vD (s:ByteArray) (i:Nat):Nat :=
 if i < s.size then (if qK .and .u8 (ji s i) 192=128 then 0 else 1)+vD s (i+1) else 0
 termination_by s.size - i
theorem Xf (s:ByteArray):∀ (n i:Nat),s.size - i=n→vD s i≤n
 | 0,i,h=>by rw [vD,ah (by omega)];exact dJ _
 | n+1,i,h=>by
  have ih:=Xf s n (i+1) (by omega);rw [vD,av (by omega)]
  split <;> omega
def xL (s:ByteArray):Nat:=if sW s then vD s 0 else 0
def M8 (s:ByteArray):Int:=if sW s then 0 else 12
theorem Jf (s:ByteArray):xL s≤s.size:=by unfold xL;have:=Xf s s.size 0 (by omega);split <;> omega
theorem NC (G:GH) (w0:World) (hG:Hold G w0) (s:ByteArray) (hs:s.size < 4611686018427387904) :
  Calls prog 84 #[.string s] w0 (bJ w0 G fun v G'=>v=.tuple #[vi (xL s),vi (M8 s)]∧G=G'):=by
 refine eN [(0,_)] func84 rfl ntmps84 rfl rfl hG ?_;intro a H;refine kP H (SR fun _ K1=>Ra rfl (aj K1 rfl (SQ fun _ K2=>SR fun _ K3=>Rm rfl ?_)));clear H K1;intro a H;refine s_call EU H wn rfl (FL _ _ H.ro s hs) rfl ?_;clear H;rintro v6 _ a w ⟨rfl,rfl⟩ - H;refine kH H (Rn rfl (Kz K3 (Cd rfl ?_ ?_))) <;> clear H K3
 ·intro h7 a H
  refine kP H (SR fun _ K4=>Ra rfl (aj K4 rfl ?_));clear H K4;intro a H;refine dR ?_;refine (iB H results84 (.cons (bM H rfl) (.cons (bM H rfl) .nil)) ?_).1;exact H.rt ⟨by simp [xL,M8,show sW s=false by simpa using h7],rfl⟩
 intro h7 a H
 try have p7:=dF h7
 refine kP H (Kc K2 (SQ fun _ K5=>SR fun _ K6=>Rm rfl (Rv iD rfl (Rm rfl (Kz K6 (SB ?_))))));clear H K2 K6;intro a H;skip;refine eH (ι:=Nat × Nat) (Tc:=[(0,_),(9,_)]) (Lc:=[]) (fun gh=>[(2,vi gh.2),(10,vi gh.1)]) (fun gh=>[]) (fun gh=>G) (fun gh=>gh.1≤s.size∧gh.2≤gh.1∧gh.2+vD s gh.1=xL s) (fun gh=>s.size - gh.1) ((0,0)) (by exact (H).sub ⟨rfl,rfl,rfl,rfl,aC⟩) ?_ ?_
 ·exact ⟨by omega,by omega,by simp [xL,show sW s=true by simpa using h7]⟩
 clear H;intro gh a w hI H;obtain ⟨i,n⟩:=gh;dsimp only at hI H;obtain ⟨hk,hn,hf⟩:=hI;dsimp only [lca,aV] at H;refine kP H (SR fun _ K7=>Rc rfl (Kz K7 (SQ fun _ K8=>Cd rfl ?_ ?_))) <;> clear H K7
 ·intro h11 a H
  try have rQ:=dT h11
  refine kP H (Kc K8 (SQ fun _ K9=>SB (SR fun _ aT=>Rm rfl (aj aT rfl (SR fun _ bB=>Rm rfl (Rm rfl ?_))))));clear H K8 aT;intro a H;refine qC _ iD H wn rfl rfl rfl (by first|assumption|omega) rfl ?_;clear H;intro a H;refine MQ rfl H wn rfl rfl rfl ?_;clear H;intro a H;refine kH H (Rc rfl (Kz bB (Cd rfl ?_ ?_))) <;> clear H bB
  ·intro bX a H
   try have kQ:=dT bX
   refine kP H (SC (Rm rfl (Rd rfl (aO K9 rfl (SC (Rd rfl (Rm rfl ?_)))))));clear H K9;intro a H;refine aH ?_;refine dK ((i+1,n+1)) (by exact (H).sub ⟨rfl,rfl,rfl,rfl,aC⟩) ?_ ?_
   ·(try dsimp only);rw [← oh (by omega)] at kQ;rw [vD,av (by omega),ah kQ] at hf;exact ⟨by omega,by omega,by omega⟩
   first|omega|(dsimp only;omega)
  intro bX a H
  try have kQ:=dF bX
  refine kP H (Kc K9 (SC (Rd rfl (Rm rfl ?_))));clear H K9;intro a H;refine aH ?_;refine dK ((i+1,n)) (by exact (H).sub ⟨rfl,rfl,rfl,rfl,aC⟩) ?_ ?_
  ·(try dsimp only);rw [← oh (by omega),gH] at kQ;rw [vD,av (by omega),av kQ] at hf;exact ⟨by omega,by omega,by omega⟩
  first|omega|(dsimp only;omega)
 intro h11 a H
 try have rQ:=dF h11
 refine dW ?_;refine K5 _ _ ?_;clear K5;refine kP H (SR fun _ bC=>Rm rfl (Ra rfl (aj bC rfl ?_)));clear H bC;intro a H;refine dR ?_;refine (iB H results84 (.cons (bM H rfl) (.cons (bM H rfl) .nil)) ?_).1;exact H.rt ⟨by rw [vD,ah (by omega),nY] at hf;rw [hf];simp [M8,show sW s=true by simpa using h7],rfl⟩
end
section
open Go.RowKit
theorem M6:prog.underlying 260=some (.slice 229):=by kernel_rfl
theorem vY:Ty prog 229 6 56 [.int .i64 0,.int .i64 0,.int .i64 0,.int .i64 0,.int .i64 0,.string ⟨#[]⟩] true:=⟨by kernel_rfl,by kernel_rfl⟩
theorem abh:uj prog 229 [(0,1),(1,1),(2,1),(3,1),(4,1),(5,1)] [.int .i64 0,.int .i64 0,.int .i64 0,.int .i64 0,.int .i64 0,.string ⟨#[]⟩]:=⟨by kernel_rfl,by kernel_rfl⟩
theorem Xz:∀ args w,(callFunc 193 args).run prog w=.ok (.enter 193 args) w:=enters func193 rfl (by kernel_rfl)
structure kV where
 num:Int
 CG:Int
 low:Int
 high:Int
 std:Int
 name:ByteArray
def kV.dat (x:kV):List Dat:=[li x.num,li x.CG,li x.low,li x.high,li x.std,.lf (.string x.name)]
def kV.cells (x:kV):List ak:=[vi x.num,vi x.CG,vi x.low,vi x.high,vi x.std,.string x.name]
def gV.cells (x:gV):List ak:=[vi x.key,vi x.value]
theorem akC (G:GH) (x:kV):bH G x.dat x.cells:=by
 simp only [kV.dat,kV.cells,bH]
 exact ⟨_,_,rfl,by simp [au,Value.oneCell'],_,_,rfl,by simp [au,Value.oneCell'],_,_,rfl,by simp [au,Value.oneCell'],_,_,rfl,by simp [au,Value.oneCell'],_,_,rfl,by simp [au,Value.oneCell'],_,_,rfl,by simp [au,Value.oneCell'],rfl⟩
theorem akB {G:GH} {x:kV} {cs:List ak} (h:bH G x.dat cs):cs=x.cells:=by
 simp only [kV.dat,bH,au] at h
 obtain ⟨v1,_,rfl,⟨rfl,-⟩,v2,_,rfl,⟨rfl,-⟩,v3,_,rfl,⟨rfl,-⟩,v4,_,rfl,⟨rfl,-⟩,v5,_,rfl,⟨rfl,-⟩,v6,_,rfl,⟨rfl,-⟩,rfl⟩:=h
 rfl
theorem U3 {G:GH} {x:gV} {cs:List ak} (h:bH G x.dat cs):cs=x.cells:=by
 simp only [gV.dat,bH,au] at h
 obtain ⟨v1,_,rfl,⟨rfl,-⟩,v2,_,rfl,⟨rfl,-⟩,rfl⟩:=h
 rfl
theorem ZW (G:GH):∀ (B A:List kV),dG G 6 (A.map kV.dat) (A.map kV.cells).flatten→dG G 6 ((A++B).map kV.dat) ((A++B).map kV.cells).flatten
 | [],A,h=>by rw [Ah];exact h
 | x :: B,A,h=>by
  have h2:=h.snoc (akC G x) rfl;have h3:=ZW G B (A++[x]) (by simpa using h2)
  simpa using h3
theorem akD (G:GH) (A:List kV):dG G 6 (A.map kV.dat) (A.map kV.cells).flatten:=ZW G A [] dG.nil
theorem Us {G:GH} {l:List kV} {A:Option Addr} {n c k:Nat} (hv:au G (.sl 6 (l.map kV.dat)) (.slice A n c)) (hk:k < l.length):∃ b o,A=some ⟨b,o,none⟩∧(∀ j u,[vi l[k].num,vi l[k].CG,vi l[k].low,vi l[k].high,vi l[k].std,.string l[k].name][j]?=some u→aF G b (o+k*6+j)=some u):=by
 obtain ⟨A',c',he,_,_,hg⟩:=hv.slice
 injection he with e1 e2 e3
 subst e1;obtain ⟨b,o,cs,h1,h2,h3,h4⟩:=hg k l[k].dat (by simp [hk]);obtain rfl:=akB h4;exact ⟨b,o,h1,h3⟩
theorem MN {G:GH} {l:List gV} {A:Option Addr} {n c k:Nat} (hv:au G (.sl 2 (l.map gV.dat)) (.slice A n c)) (hk:k < l.length):∃ b o,A=some ⟨b,o,none⟩∧(∀ j u,[vi l[k].key,vi l[k].value][j]?=some u→aF G b (o+k*2+j)=some u):=by
 obtain ⟨A',c',he,_,_,hg⟩:=hv.slice
 injection he with e1 e2 e3
 subst e1;obtain ⟨b,o,cs,h1,h2,h3,h4⟩:=hg k l[k].dat (by simp [hk]);obtain rfl:=U3 h4;exact ⟨b,o,h1,h3⟩
def Ij:List kV:=[⟨1,1,0,1073741824,0,⟨#[99,104,97,114,97,99,116,101,114,45,115,116,121,108,101]⟩⟩,⟨2,1,0,1,0,⟨#[98,111,108,100]⟩⟩,⟨3,1,0,1,0,⟨#[105,116,97,108,105,99]⟩⟩,⟨4,1,0,3,0,⟨#[117,110,100,101,114,108,105,110,101]⟩⟩,⟨5,1,2,1638,22,⟨#[115,105,122,101]⟩⟩,⟨6,1,0,16777215,0,⟨#[99,111,108,111,114]⟩⟩,⟨7,1,0,63,0,⟨#[102,111,110,116]⟩⟩,⟨8,1,0,255,0,⟨#[108,97,110,103,117,97,103,101]⟩⟩,⟨9,1,-400,400,0,⟨#[114,97,105,115,101]⟩⟩,⟨10,1,0,1,0,⟨#[104,105,100,100,101,110]⟩⟩,⟨20,2,0,1073741824,0,⟨#[112,97,114,97,103,114,97,112,104,45,115,116,121,108,101]⟩⟩,⟨21,2,0,3,0,⟨#[97,108,105,103,110]⟩⟩,⟨22,2,-31680,31680,0,⟨#[108,101,102,116]⟩⟩,⟨23,2,-31680,31680,0,⟨#[114,105,103,104,116]⟩⟩,⟨24,2,-31680,31680,0,⟨#[102,105,114,115,116]⟩⟩,⟨25,2,0,31680,0,⟨#[98,101,102,111,114,101]⟩⟩,⟨26,2,0,31680,0,⟨#[97,102,116,101,114]⟩⟩,⟨27,2,0,31680,0,⟨#[108,101,97,100,105,110,103]⟩⟩,⟨28,2,0,1,0,⟨#[107,101,101,112,45,110,101,120,116]⟩⟩,⟨29,2,0,1,0,⟨#[107,101,101,112,45,108,105,110,101,115]⟩⟩,⟨30,2,0,1,1,⟨#[119,105,100,111,119]⟩⟩,⟨31,2,0,1,0,⟨#[112,97,103,101,45,98,101,102,111,114,101]⟩⟩,⟨32,2,0,9,0,⟨#[111,117,116,108,105,110,101]⟩⟩,⟨33,2,0,1073741824,0,⟨#[108,105,115,116]⟩⟩,⟨34,2,1,9,1,⟨#[108,101,118,101,108]⟩⟩,⟨35,2,0,32767,0,⟨#[114,101,115,116,97,114,116]⟩⟩,⟨36,2,1,31680,720,⟨#[116,97,98,45,115,116,111,112]⟩⟩,⟨37,2,0,1,0,⟨#[104,121,112,104,101,110,97,116,101]⟩⟩,⟨40,3,720,31680,12240,⟨#[112,97,103,101,45,119,105,100,116,104]⟩⟩,⟨41,3,720,31680,15840,⟨#[112,97,103,101,45,104,101,105,103,104,116]⟩⟩,⟨42,3,0,31680,1440,⟨#[116,111,112]⟩⟩,⟨43,3,0,31680,1440,⟨#[98,111,116,116,111,109]⟩⟩,⟨44,3,0,31680,1440,⟨#[105,110,110,101,114]⟩⟩,⟨45,3,0,31680,1440,⟨#[111,117,116,101,114]⟩⟩,⟨46,3,0,32767,0,⟨#[102,105,114,115,116,45,112,97,103,101]⟩⟩,⟨47,3,1,6,1,⟨#[112,97,103,101,45,102,111,114,109,97,116]⟩⟩,⟨50,4,0,1,0,⟨#[104,101,97,100,101,114]⟩⟩,⟨51,4,0,1,0,⟨#[99,97,110,116,45,115,112,108,105,116]⟩⟩,⟨52,4,0,31680,0,⟨#[114,111,119,45,104,101,105,103,104,116]⟩⟩,⟨60,5,1,32,1,⟨#[99,111,108,117,109,110,45,115,112,97,110]⟩⟩,⟨61,5,0,2,0,⟨#[118,101,114,116,105,99,97,108,45,109,101,114,103,101]⟩⟩,⟨62,5,0,31680,0,⟨#[99,101,108,108,45,119,105,100,116,104]⟩⟩,⟨63,5,0,16777215,16777215,⟨#[115,104,97,100,101]⟩⟩,⟨70,6,0,31680,0,⟨#[116,97,98,108,101,45,119,105,100,116,104]⟩⟩,⟨71,6,0,2,0,⟨#[116,97,98,108,101,45,97,108,105,103,110]⟩⟩]
set_option maxRecDepth 20000 in
theorem akH (G:GH) (w0:World) (hG:Hold G w0):Calls prog 177 #[] w0 (bJ w0 G fun u G'=>au G' (.sl 6 (Ij.map kV.dat)) u):=by
 refine eN [] func177 rfl ntmps177 rfl rfl hG ?_;intro a H;refine kP H (SR fun _ K1=>aj K1 rfl (SR fun _ K2=>?_));clear H K1;intro a H;(iterate 45 refine nk abh [_,_,_,_,_,_] H wn rfl rfl rfl rfl ?_;clear H;intro a H);refine amr M6 vY (Ij.map kV.cells) H wn rfl rfl rfl rfl rfl rfl rfl ?_;clear H;intro b46 a w aoP H;refine kH H (aj K2 rfl ?_);clear H K2;intro a H;refine lr H results177 rfl ?_;obtain ⟨Gz,hmz,hbz,H⟩:=H.eG;exact H.rt (au.fF (n:=45) (cap:=45) hbz rfl (dJ _) (show 45≤maxLen by decide) (iH (dJ _)) (akD _ _))
theorem ZT (G:GH) (w0:World) (hG:Hold G w0) (x:Int):Calls prog 193 #[vi x] w0 (bJ w0 G fun u G'=>u=.bool false∧G=G'):=by
 refine eN [(0,_)] func193 rfl ntmps193 rfl rfl hG ?_;intro a H;exact kP H (SR fun _ K1=>aj K1 rfl (SR fun _ K2=>Rm rfl (Rm rfl (Rc rfl (aj K2 rfl (LR results193 rfl fun H=>H.rt ⟨by simp,rfl⟩))))))
theorem QS {x y z:Int} (h:(x < y∧z=-1)∨(y < x∧z=1)∨(x=y∧z=0)):z=DC x y:=by
 unfold DC;split
 ·omega
 split <;> omega
theorem adX (G:GH) (w0:World) (hG:Hold G w0) (x y:Int):Calls prog 180 #[vi x,vi y] w0 (bJ w0 G fun u G'=>u=vi (DC x y)):=by
 refine eN [(0,_),(1,_)] func180 rfl ntmps180 rfl rfl hG ?_;intro a H;refine kP H (SR fun _ K1=>aj K1 rfl (SR fun _ K2=>Rm rfl ?_));clear H K1;intro a H;refine s_call Xz H wn rfl (ZT _ _ H.ro x) rfl ?_;clear H;rintro v8 G8 a w ⟨rfl,-⟩ tT H;refine kH H (aj K2 rfl (SR fun _ K3=>Rm rfl ?_));clear H K2;intro a H;refine s_call Xz H wn rfl (ZT _ _ H.ro y) rfl ?_;clear H;rintro v10 Kk a w ⟨rfl,-⟩ vP H;refine kH H (aj K3 rfl (SQ fun _ K4=>SR fun _ K5=>Rm rfl (Kz K5 (Cd rfl ?_ ?_)))) <;> clear H K3 K5
 ·intro h11 a H
  cases h11
 intro h11 a H
 try have rQ:=dF h11
 refine kP H (Kc K4 (SQ fun _ K6=>SR fun _ K7=>Rm rfl (Kz K7 (Cd rfl ?_ ?_)))) <;> clear H K4 K7
 ·intro gG a H
  cases gG
 intro gG a H
 try have rR:=dF gG
 refine kP H (Kc K6 (SQ fun _ K8=>SR fun _ K9=>Rm rfl (Rm rfl (Rc rfl (Kz K9 (Cd rfl ?_ ?_)))))) <;> clear H K6 K9
 ·intro h16 a H
  try have p16:=dT h16
  exact kP H (SR fun _ aT=>aj aT rfl (LR results180 rfl fun H=>H.rt (aB vi (QS (by omega)))))
 intro h16 a H
 try have p16:=dF h16
 refine kP H (Kc K8 (SQ fun _ bB=>SR fun _ bC=>Rm rfl (Rm rfl (Rc rfl (Kz bC (Cd rfl ?_ ?_)))))) <;> clear H K8 bC
 ·intro h19 a H
  try have yD:=dT h19
  exact kP H (SR fun _ bK=>aj bK rfl (LR results180 rfl fun H=>H.rt (aB vi (QS (by omega)))))
 intro h19 a H
 try have yD:=dF h19
 exact kP H (Kc bB (SR fun _ bP=>aj bP rfl (LR results180 rfl fun H=>H.rt (aB vi (QS (by omega))))))
end
section
open Go.RowKit
def kE (xs:Array ak) (o:Nat):Option Int:=match xs[o]? with|some (.int .i64 n)=>some n|_=>none
def O6 (u:Option TypeDesc):Bool:=match u with|some (.int .i64)=>true|_=>false
structure VN (P:Program) (t:TypeId) (rP:List Nat):Prop where
 und:P.underlying t=some (.struct (P.fieldsOf t))
 held:P.stoodInHeld t=false
 guard:P.eqGuardType P.depth t=false
 Bj:(P.fieldsOf t).toList.map (·.offset)=rP
 ok:(P.fieldsOf t).toList.all (fun f=>decide (f.name ≠ "_") && P.plainKey f.type && O6 (P.underlying f.type))=true
theorem U6 {P:Program} {w:World} {d:Nat} {xs ys:Array ak}:∀ fs:List Field,fs.all (fun f=>decide (f.name ≠ "_") && P.plainKey f.type && O6 (P.underlying f.type))=true →
  (fs.map (·.offset)).all (fun o=>(kE xs o).isSome && (kE ys o).isSome)=true→(Op.eqFields (d+1) xs ys fs).run P w=.ok ((fs.map (·.offset)).all fun o=>kE xs o == kE ys o) w
 | [],_,_=>by simp [Op.eqFields]
 | f :: fs,h1,h2=>by
  simp only [List.all_cons,oF,qI,iq] at h1 h2
  obtain ⟨⟨⟨hn,hp⟩,hi⟩,h1⟩:=h1
  obtain ⟨⟨hx,hy⟩,h2⟩:=h2
  have ih:=U6 (w:=w) (d:=d) fs (by simpa using h1) h2
  unfold O6 at hi
  split at hi
  ·rename_i hu
   unfold kE at hx hy
   split at hx
   ·rename_i m hxm
    split at hy
    ·rename_i m2 hym
     have e1:kE xs f.offset=some m:=by unfold kE;rw [hxm]
     have e2:kE ys f.offset=some m2:=by unfold kE;rw [hym]
     simp only [Op.eqFields,hn,ne_eq,not_false_eq_true,if_true,eT,run_part_plain w hp hxm,run_part_plain w hp hym,nC,run_equalIn_int w d f.type .i64 .i64 m m2 hu,iq,List.all_cons,e1,e2]
     by_cases e:m=m2
     ·subst e;simp [ih,List.all_map]
     ·simp [e]
    ·simp at hy
   ·simp at hx
  ·simp at hi
def mK (xs:Array ak) (o:Nat × Bool):Option (Int × Bool):=match xs[o.1]?,o.2 with|some (.int .i64 n),false=>some (n,false)|some (.bool b),true=>some (0,b)|_,_=>none
def CY (u:Option TypeDesc) (b:Bool):Bool:=match u,b with|some (.int .i64),false=>true|some .bool,true=>true|_,_=>false
structure Nc (P:Program) (t:TypeId) (rP:List (Nat × Bool)):Prop where
 und:P.underlying t=some (.struct (P.fieldsOf t))
 held:P.stoodInHeld t=false
 guard:P.eqGuardType P.depth t=false
 Bj:(P.fieldsOf t).toList.map (fun f=>(f.offset,CY (P.underlying f.type) true))=rP
 ok:(P.fieldsOf t).toList.all (fun f=>decide (f.name ≠ "_") && P.plainKey f.type && CY (P.underlying f.type) (CY (P.underlying f.type) true))=true
theorem aaH {P:Program} {w:World} {d:Nat} {xs ys:Array ak}:∀ fs:List Field,fs.all (fun f=>decide (f.name ≠ "_") && P.plainKey f.type && CY (P.underlying f.type) (CY (P.underlying f.type) true))=true →
  (fs.map (fun f=>(f.offset,CY (P.underlying f.type) true))).all (fun o=>(mK xs o).isSome && (mK ys o).isSome)=true→(Op.eqFields (d+1) xs ys fs).run P w=.ok ((fs.map (fun f=>(f.offset,CY (P.underlying f.type) true))).all fun o=>mK xs o == mK ys o) w
 | [],_,_=>by simp [Op.eqFields]
 | f :: fs,h1,h2=>by
  simp only [List.all_cons,oF,qI,iq] at h1 h2
  obtain ⟨⟨⟨hn,hp⟩,hi⟩,h1⟩:=h1
  obtain ⟨⟨hx,hy⟩,h2⟩:=h2
  have ih:=aaH (w:=w) (d:=d) fs (by simpa using h1) h2
  obtain ⟨kb,hkb⟩:∃ kb,kb=CY (P.underlying f.type) true:=⟨_,rfl⟩
  rw [← hkb] at hi hx hy
  cases kb with
  | false =>
   have hu:P.underlying f.type=some (.int .i64):=by clear hkb ih h1 h2 hx hy;unfold CY at hi;split at hi <;> simp_all
   obtain ⟨m,hxm⟩:∃ m,xs[f.offset]?=some (.int .i64 m):=by clear hkb ih h1 h2 hi hy;unfold mK at hx;split at hx <;> simp_all
   obtain ⟨m2,hym⟩:∃ m,ys[f.offset]?=some (.int .i64 m):=by clear hkb ih h1 h2 hi hx;unfold mK at hy;split at hy <;> simp_all
   have e1:mK xs (f.offset,false)=some (m,false):=by unfold mK;rw [hxm]
   have e2:mK ys (f.offset,false)=some (m2,false):=by unfold mK;rw [hym]
   simp only [Op.eqFields,hn,ne_eq,not_false_eq_true,if_true,eT,run_part_plain w hp hxm,run_part_plain w hp hym,nC,run_equalIn_int w d f.type .i64 .i64 m m2 hu,iq,List.all_cons,← hkb,e1,e2]
   by_cases e:m=m2
   ·subst e;simp [ih,List.all_map]
   ·simp [e]
  | true =>
   have hu:P.underlying f.type=some .bool:=by clear hkb ih h1 h2 hx hy;unfold CY at hi;split at hi <;> simp_all
   obtain ⟨m,hxm⟩:∃ m,xs[f.offset]?=some (.bool m):=by clear hkb ih h1 h2 hi hy;unfold mK at hx;split at hx <;> simp_all
   obtain ⟨m2,hym⟩:∃ m,ys[f.offset]?=some (.bool m):=by clear hkb ih h1 h2 hi hx;unfold mK at hy;split at hy <;> simp_all
   have e1:mK xs (f.offset,true)=some (0,m):=by unfold mK;rw [hxm]
   have e2:mK ys (f.offset,true)=some (0,m2):=by unfold mK;rw [hym]
   simp only [Op.eqFields,hn,ne_eq,not_false_eq_true,if_true,eT,run_part_plain w hp hxm,run_part_plain w hp hym,nC,run_equalIn_bool' w d f.type m m2 hu,iq,List.all_cons,← hkb,e1,e2]
   by_cases e:m=m2
   ·subst e;simp [ih,List.all_map]
   ·simp [e]
section
variable {N:Nat} {D:List Deferred} {w0:World} {F:Nat→Prop} {G0 G:GH} {L:List (Nat × Obj)} {T:List (Nat × ak)}
variable {r:Option Nat} {P:Program} {ops:Array Oper} {Q:Exit→Act→World→Prop} {rest:List Oper} {a:Act} {w:World}
variable {d:Nat} {ty:TypeId} {pos:String} {aU:Array Edge} {g:Option (Nat × Bool)}
theorem amt {t yt:TypeId} {rP:List Nat} (he:VN P t rP) {x y:Operand} {xs ys:Array ak} (H:St N D w0 F G0 G L T a w) (hw:Region.wanted ⟨some d,.binOp .eql t x y yt,ty,pos,aU,g⟩ (yielded ops a.tmps)=true) (hx:ev T x=some (.agg xs)) (hy:ev T y=some (.agg ys))
  (hi:rP.all (fun o=>(kE xs o).isSome && (kE ys o).isSome)=true) (hd:Nat.blt d N=true)
  (k:∀ a',St N D w0 F G0 G L ((d,.bool (rP.all fun o=>kE xs o == kE ys o)) :: T) a' w→WL r P ops Q rest a' w):WL r P ops Q (⟨some d,.binOp .eql t x y yt,ty,pos,aU,g⟩ :: rest) a w:=by
 refine gZ (v:=.bool (rP.all fun o=>kE xs o == kE ys o)) (w':=w) hw rfl ?_ (k _ (H.put hd _ H.hp))
 have h1:=U6 (P:=P) (w:=w) (d:=9998) (xs:=xs) (ys:=ys) _ he.ok (by rw [he.Bj];exact hi)
 rw [he.Bj] at h1
 simp only [execOp,H.ev hx,H.ev hy,eT,run_eqGuard_agg w .eql t x y xs ys he.guard,nC,run_eql_struct,run_equalIn_struct w 9999 t xs ys he.und he.held,h1]
 rfl
theorem aaQ {t yt:TypeId} (hu:P.underlying t=some .bool) {x y:Operand} {p q:Bool} (H:St N D w0 F G0 G L T a w) (hw:Region.wanted ⟨some d,.binOp .neq t x y yt,ty,pos,aU,g⟩ (yielded ops a.tmps)=true) (hx:ev T x=some (.bool p)) (hy:ev T y=some (.bool q)) (hd:Nat.blt d N=true)
  (k:∀ a',St N D w0 F G0 G L ((d,.bool (!(p == q))) :: T) a' w→WL r P ops Q rest a' w):WL r P ops Q (⟨some d,.binOp .neq t x y yt,ty,pos,aU,g⟩ :: rest) a w:=by
 refine gZ (v:=.bool (!(p == q))) (w':=w) hw rfl ?_ (k _ (H.put hd _ H.hp))
 simp [execOp,H.ev hx,H.ev hy,eT,eqGuard,binOp,Op.equal,Op.maxDepth,run_equalIn_bool' w 9999 t p q hu]
theorem Eo {t yt:TypeId} {x y:Operand} {p q:ByteArray} (H:St N D w0 F G0 G L T a w) (hw:Region.wanted ⟨some d,.binOp .eql t x y yt,ty,pos,aU,g⟩ (yielded ops a.tmps)=true) (hx:ev T x=some (.string p)) (hy:ev T y=some (.string q)) (hd:Nat.blt d N=true)
  (k:∀ a',St N D w0 F G0 G L ((d,.bool (p.toList == q.toList)) :: T) a' w→WL r P ops Q rest a' w):WL r P ops Q (⟨some d,.binOp .eql t x y yt,ty,pos,aU,g⟩ :: rest) a w:=by
 refine gZ (v:=.bool (p.toList == q.toList)) (w':=w) hw rfl ?_ (k _ (H.put hd _ H.hp))
 simp [execOp,H.ev hx,H.ev hy,eT,eqGuard,binOp,Op.stringOp]
theorem Ep {t yt:TypeId} {x y:Operand} {p q:Int} (z:Int) (H:St N D w0 F G0 G L T a w) (hw:Region.wanted ⟨some d,.binOp .quo t x y yt,ty,pos,aU,g⟩ (yielded ops a.tmps)=true) (hx:ev T x=some (.int .i64 p)) (hy:ev T y=some (.int .i64 q)) (hq:¬ q=0) (hz:p.tdiv q=z) (h1:-9223372036854775808≤z) (h2:z < 9223372036854775808) (hd:Nat.blt d N=true)
  (k:∀ a',St N D w0 F G0 G L ((d,.int .i64 z) :: T) a' w→WL r P ops Q rest a' w):WL r P ops Q (⟨some d,.binOp .quo t x y yt,ty,pos,aU,g⟩ :: rest) a w:=by
 subst hz
 refine gZ (v:=.int .i64 (p.tdiv q)) (w':=w) hw rfl ?_ (k _ (H.put hd _ H.hp))
 simp [execOp,H.ev hx,H.ev hy,eT,eqGuard,binOp,Op.intDiv,hq,JK h1 h2]
theorem Va {op:BinOp} {t yt:TypeId} {rP:List (Nat × Bool)} (ho:op=.eql∨op=.neq) (he:Nc P t rP) {x y:Operand} {xs ys:Array ak} (H:St N D w0 F G0 G L T a w) (hw:Region.wanted ⟨some d,.binOp op t x y yt,ty,pos,aU,g⟩ (yielded ops a.tmps)=true) (hx:ev T x=some (.agg xs)) (hy:ev T y=some (.agg ys))
  (hi:rP.all (fun o=>(mK xs o).isSome && (mK ys o).isSome)=true) (hd:Nat.blt d N=true)
  (k:∀ a',St N D w0 F G0 G L ((d,.bool (if op=.eql then rP.all fun o=>mK xs o == mK ys o else !(rP.all fun o=>mK xs o == mK ys o))) :: T) a' w→WL r P ops Q rest a' w):WL r P ops Q (⟨some d,.binOp op t x y yt,ty,pos,aU,g⟩ :: rest) a w:=by
 have h1:=aaH (P:=P) (w:=w) (d:=9998) (xs:=xs) (ys:=ys) _ he.ok (by rw [he.Bj];exact hi)
 rw [he.Bj] at h1
 rcases ho with rfl|rfl
 ·refine gZ (v:=_) (w':=w) hw rfl ?_ (k _ (H.put hd _ H.hp))
  simp only [execOp,H.ev hx,H.ev hy,eT,run_eqGuard_agg w .eql t x y xs ys he.guard,nC,run_eql_struct,run_equalIn_struct w 9999 t xs ys he.und he.held,h1]
  rfl
 ·refine gZ (v:=_) (w':=w) hw rfl ?_ (k _ (H.put hd _ H.hp))
  simp only [execOp,H.ev hx,H.ev hy,eT,run_eqGuard_agg w .neq t x y xs ys he.guard,nC,run_neq_struct,run_equalIn_struct w 9999 t xs ys he.und he.held,h1]
  rfl
end
end
section
abbrev aM (b o : Nat) : Value := .pointer (some ⟨b, o, none⟩)
end
end Go.Proofs.YtdacibabefnabaaGreat
