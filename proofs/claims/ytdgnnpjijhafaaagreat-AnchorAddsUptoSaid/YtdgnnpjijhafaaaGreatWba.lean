/-
  What the claim stands on, part 1: Lg Op Oq Cb Rep Dr Sq Row Dy De Dj Bd Eq Mp Dk Dw Mk Cl.
-/
import Derived.Test.YtdgnnpjijhafaaaGreatProg
import Derived.CallsIn
import Derived.TacticsIn
import Derived.RangeFuncIn
import Derived.RangeFuncLeaves
import Derived.RangeFuncRecord
import Derived.Below
import Derived.KernelRfl
import Derived.Maps.AppendAt
import Derived.IntWalk
import Derived.OrdersIn
import Derived.Lib.Builder
import Derived.Lib.UnsafeStr
import Derived.Lib.AppendStr
import Derived.Laws.Externs
import Derived.Laws.StructEq
import Derived.ChangeKeysEq
import Derived.MapKept
import Derived.Laws.MakeOwn
namespace Go.Proofs.YtdgnnpjijhafaaaGreat
set_option linter.all false
open Go.Proofs.Tryz
theorem M.{u}{α:Sort u}{a:α}:a=a:=rfl
theorem O{p:Prop}(h:p:=by omega):p:=h
theorem V{p:Prop}(h:p:=by kernel_rfl):p:=h
theorem Z{p:Prop}(h:p:=by decide):p:=h
section
theorem aC:True:=trivial
theorem au.{u}:∀{c:Prop}{h:Decidable c},¬c->∀{α:Sort u}{t e:α},(if c then t else e)=e:=@if_neg
theorem ay.{u}:∀{c:Prop}{h:Decidable c},c->∀{α:Sort u}{t e:α},(if c then t else e)=t:=@if_pos
theorem bM.{u_1,u_2}:∀{α:Type u_1}{β:Type u_2}{xs:List α}(f:α->β),List.length (List.map f xs)=List.length xs:=@List.length_map
theorem cO.{u,v}:∀{α:Sort u}{β:Sort v}{a₁ a₂:α}(f:α->β),a₁=a₂->f a₁=f a₂:=@congrArg
theorem dP:∀{α β:Type}(P:Go.Program)(w:Go.World)(x:Go.Sem α)(f:α->Go.Sem β),Go.Sem.run P (x>>=f) w=Go.Result.andThen (Go.Sem.run P x w) fun a w'=>Go.Sem.run P (f a) w':=@Go.Sem.run_bind
theorem dV.{u,v}:∀{α:Type u}{β:Type v}{f:α->β}{a:α}{l:List α},List.map f (a::l)=f a::List.map f l:=@List.map_cons
theorem eP:∀(n:Nat),n<=n:=@Nat.le_refl
theorem fB:∀(n:Nat),0+n=n:=@Nat.zero_add
theorem fJ.{u_1}:∀{α:Type u_1}{a:α}{l:List α},a∈a::l:=@List.mem_cons_self
theorem fP:∀(n:Nat),0<=n:=@Nat.zero_le
theorem fQ.{u}:∀{α:Type u}(xs:List α),[]++xs=xs:=@List.nil_append
theorem gF.{u_1}:∀{α:Type u_1}{l:List α}{i:Nat}(h:i<List.length l),l[i]?=some l[i]:=@List.getElem?_eq_getElem
theorem gH.{u_1}:∀{α:Type u_1}(y:α){a:α}{l:List α},a∈l->a∈y::l:=@List.mem_cons_of_mem
theorem gT.{u}:∀{α:Type u}{xs bs:List α},List.length (xs++bs)=List.length xs+List.length bs:=@List.length_append
theorem ig.{u_1}:∀{α:Type u_1}{l:List α}{n:Nat}(h:n<List.length l),l[n]∈l:=@List.getElem_mem
theorem iy.{u_1,u_2}:∀{α:Type u_1}{β:Type u_2}{f:α->β}{l₁ l₂:List α},List.map f (l₁++l₂)=List.map f l₁++List.map f l₂:=@List.map_append
theorem iF.{u_1}:∀{α:Type u_1}{a:α}{s t:List α},a∈s++t↔a∈s∨a∈t:=@List.mem_append
theorem iG.{u}:∀{α:Type u}(xs bs cs:List α),xs++bs++cs=xs++(bs++cs):=@List.append_assoc
theorem iL.{u_1}:∀{α:Type u_1}{b:α}{l:List α}{a:α},a∈b::l↔a=b∨a∈l:=@List.mem_cons
theorem iR.{u}:∀{α:Type u}(xs:List α),xs++[]=xs:=@List.append_nil
theorem jd.{u,v}:∀{α:Type u}{β:Type v}(fst:α)(snd:β)(alD:α)(aqH:β),((fst,snd)=(alD,aqH))=(fst=alD∧snd=aqH):=@Prod.mk.injEq
theorem ji.{u_1}:∀{α:Type u_1}{i:Nat}{l:List α}(h:i<List.length l),List.take (i+1) l=List.take i l++[l[i]]:=@List.take_succ_eq_append_getElem
theorem jl.{u}:∀{α:Type u}{a:α}{xs bs:List α},a::xs++bs=a::(xs++bs):=@List.cons_append
theorem jJ.{u_1}:∀{α:Type u_1}{i:Nat}{a:α}{l:List α},l[i]?=some a↔∃h,l[i]=a:=@List.getElem?_eq_some_iff
theorem jX.{u_1}:∀{α:Type u_1}{i:Nat}{l:List α},List.length l<=i->List.take i l=l:=@List.take_of_length_le
theorem kV:∀(a b:Bool),((a&&b)=true)=(a=true∧b=true):=@Bool.and_eq_true
theorem kY:∀{α β:Type}(a:α)(w:Go.World)(f:α->Go.World->Go.Result β),Go.Result.andThen (Go.Result.ok a w) f=f a w:=@Go.Result.andThen_ok
theorem kZ:∀{p:Prop}[inst:Decidable p],p->decide p=true:=@decide_eq_true
theorem lK.{u}:∀{α:Type u}{a:α}{xs:List α},List.length (a::xs)=List.length xs+1:=@List.length_cons
theorem lM.{u_1}:∀{α:Type u_1}{p:α->Bool}{l:List α},List.all l p=true↔∀(x:α),x∈l->p x=true:=@List.all_eq_true
theorem lZ.{u_1}:∀{α:Type u_1}{l:List α}{i:Nat}{a:α},l[i]?=some a->a∈l:=@List.mem_of_getElem?
theorem mg.{u_1}:∀{α:Type u_1}{i:Nat}{l:List α}(h:i<List.length l),List.drop i l=l[i]::List.drop (i+1) l:=@List.drop_eq_getElem_cons
theorem mh.{u_1}:∀{α:Type u_1}{i:Nat}{l:List α},List.length l<=i->List.drop i l=[]:=@List.drop_of_length_le
theorem mE:∀{p:Prop}[inst:Decidable p],¬p->decide p=false:=@decide_eq_false
theorem mW:∀{p:Prop}[inst:Decidable p],decide p=true->p:=@of_decide_eq_true
theorem nK.{u_1,u_2}:∀{α:Type u_1}{b:α}{asH:Type u_2}{x:Option asH}{f:asH->α},Option.map f x=some b↔∃a,x=some a∧f a=b:=@Option.map_eq_some_iff
theorem nL:∀{p:Prop}[Decidable p],¬¬p↔p:=@Decidable.not_not
theorem nW.{u_1}:∀{α:Type u_1}(l:List α),List.Sublist l l:=@List.Sublist.refl
theorem oH.{u_1}:∀{α:Type u_1}{a b:α},a∈[b]↔a=b:=@List.mem_singleton
theorem oI.{u_1}:∀{α:Type u_1}{l:List α},List.take (List.length l) l=l:=@List.take_length
theorem oW.{u}:∀{α:Type u}(val arS:α),(some val=some arS)=(val=arS):=@Option.some.injEq
theorem oZ:∀(n:Nat),n+0=n:=@Nat.add_zero
theorem ql.{u_1,u_2}:∀{α:Type u_1}{β:Type u_2}{f:α->β}{l:List α}{i:Nat},(List.map f l)[i]?=Option.map f l[i]?:=@List.getElem?_map
theorem qm:∀{p:Prop}[inst:Decidable p],(decide p=true)=p:=@decide_eq_true_eq
theorem qo:∀{m n:Nat},m∈List.range n↔m<n:=@List.mem_range
theorem rO:∀{α:Type}(P:Go.Program)(w:Go.World)(a:α),Go.Sem.run P (pure a) w=Go.Result.ok a w:=@Go.Sem.run_pure
theorem sQ.{u_1}:∀{α:Type u_1}{xs:Array α},List.length xs.toList=Array.size xs:=@Array.length_toList
theorem ug.{u,v}:∀{α:Type u}{β:Type v}{f:α->β},List.map f []=[]:=@List.map_nil
theorem uQ.{u_1}:∀{α:Type u_1}{l₁ l₂:List α}{i:Nat},List.length l₁<=i->(l₁++l₂)[i]?=l₂[i-List.length l₁]?:=@List.getElem?_append_right
theorem vD.{u_1}:∀{α:Type u_1}{l₁ l₂:List α},List.Perm (l₁++l₂) (l₂++l₁):=@List.perm_append_comm
theorem xG.{u_1}:∀{α:Type u_1}{l:List α}{i j:Nat},(List.take i l)[j]?=if j<i then l[j]? else none:=@List.getElem?_take
theorem xH.{u_1}:∀{α:Type u_1}{l₁ l₂:List α}{i:Nat},i<List.length l₁->(l₁++l₂)[i]?=l₁[i]?:=@List.getElem?_append_left
theorem xI.{u}:∀{α:Type u}{l:List α},List.drop 0 l=l:=@List.drop_zero
theorem zJ:(false=true)=False:=@Bool.false_eq_true
theorem zK.{u_1}:∀{α:Type u_1}[inst:BEq α] [LawfulBEq α]{a:α}{xs:List α},List.contains xs a=true↔a∈xs:=@List.contains_iff_mem
theorem zL:∀{a b:Bool},a=b↔(a=true↔b=true):=@Bool.eq_iff_iff
theorem Cc:∀{n m:Nat},Nat.beq n m=true->n=m:=@Nat.eq_of_beq_eq_true
theorem Ce.{u}:∀{α:Type u}{R:α->α->Prop}{a:α}{l:List α},List.Pairwise R (a::l)↔(∀(a':α),a'∈l->R a a')∧List.Pairwise R l:=@List.pairwise_cons
theorem Cg.{u_1}:∀{α:Type u_1}{a:α}{l:List α},(a::l)[0]?=some a:=@List.getElem?_cons_zero
theorem Ch:∀(n m:Nat),n+m-n=m:=@Nat.add_sub_cancel_left
theorem Ci:∀{p:Prop}{x:Decidable p},decide p=false↔¬p:=@decide_eq_false_iff_not
theorem D5.{u_1,u_2}:∀{α:Type u_1}{β:Type u_2}(a:α)(f:α->β),Option.map f (some a)=some (f a):=@Option.map_some
theorem E5.{u_1}:∀{α:Type u_1}(a:α)(l:List α),List.Sublist l (a::l):=@List.sublist_cons_self
theorem E8.{u}:∀{α:Type u}{a:α}{l:List α}{i:Nat},List.drop (i+1) (a::l)=List.drop i l:=@List.drop_succ_cons
theorem Me:∀(b:Bool),(true&&b)=b:=@Bool.true_and
abbrev aj :=Value
theorem iN{a b:Bool}(h:a=b):Value.bool a=Value.bool b:=congrArg _ h
end
abbrev aW(f :FuncId) :Prop :=∀(args :Array Value)(w :World),(callFunc f args).run Tryz.prog w=.ok (.enter f args) w
open Go.RowKit
section
def FW(r:Option Nat):Fence:={ Fence.wide with round:=r }
theorem SK(r:Option Nat):(FW r).depth.isSome=true->1<=(0:Nat):=by intro h;cases h
abbrev WP(r:Option Nat)(P:Program)(c:Code)(Q:Exit->Act->World->Prop)(a:Act)(w:World):Prop:=c.wpIn (FW r) 0 P Q a w
abbrev WL(r:Option Nat)(P:Program)(ops:Array Oper)(Q:Exit->Act->World->Prop)(l:List Oper)(a:Act)(w:World):Prop:=wpListIn (FW r) 0 P ops Q l a w
theorem ZX{r:Option Nat}{n:Nat}{P:Program}{f:FuncId}{args:Array aj}{w:World}{R:Ending->World->Prop}(h:Calls P f args w R):CallsIn (FW r) n P f args w R:=callsIn_wide.2 h
theorem avj{r:Option Nat}{n:Nat}{P:Program}{f:FuncId}{args:Array aj}{w:World}{R:Ending->World->Prop}(h:CallsIn (FW r) n P f args w R):Calls P f args w R:=callsIn_wide.1 h
def lk:List (Nat×aj)->Nat->Option aj
 |[],_=>none
 |(s,v)::r,t=>bif Nat.beq s t then some v else lk r t
theorem mq(t:Nat)(v:aj)(T:List (Nat×aj)):lk ((t,v)::T) t=some v:=by simp[lk]
theorem gL{s t:Nat}(h:s≠t)(v:aj)(T:List (Nat×aj)):lk ((s,v)::T) t=lk T t:=by
 have:Nat.beq s t=false:=by
  cases h':Nat.beq s t with
  |false=>rfl
  |true=>exact absurd (Cc h') h
 simp[lk,this]
def ev(T:List (Nat×aj)):Operand->Option aj
 |.tmp t=>lk T t
 |.const v=>some v
 |.global g=>some (.pointer (some ⟨g,0,none⟩))
 |.func f=>some (.func (.func f) #[] #[])
def evs(T:List (Nat×aj)):List Operand->Option (List aj)
 |[]=>some []
 |x::r=>match ev T x,evs T r with|some v,some vs=>some (v::vs)|_,_=>none
abbrev GH:=Nat->Option Obj
structure Hp(w0:World)(F:Nat->Prop)(G0 G:GH)(L:List (Nat×Obj))(w:World):Prop where
 os:w.os=w0.os
 tape:w.tape=w0.tape
 output:w.output=w0.output
 size:w0.heap.size<=w.heap.size
 xR:∀k,F k->k<w0.heap.size
 fr:∀k,F k->w.heap[k]?=w0.heap[k]?
 ro:∀k o,G k=some o->w.heap[k]?=some o
 gm:∀k o,G0 k=some o->G k=some o
 gx:∀k o,G k=some o->G0 k=some o∨¬F k
 own:∀p∈L,w.heap[p.1]?=some p.2
 vV:∀p∈L,G p.1=none
 vU:∀p∈L,¬F p.1
 nd:L.Pairwise fun p q=>p.1≠q.1
structure St(N:Nat)(D:List Deferred)(w0:World)(F:Nat->Prop)(G0 G:GH)(L:List (Nat×Obj))(T:List (Nat×aj))(a:Act)(w:World):Prop where
 nX:a.tmps.size=N
 get:∀t v,lk T t=some v->a.tmps[t]?=some v
 uS:a.defers=D
 hp:Hp w0 F G0 G L w
theorem lt_of_heap{w:World}{k:Nat}{o:Obj}(h:w.heap[k]?=some o):k<w.heap.size:=(Array.getElem?_eq_some_iff.1 h).1
structure xE(b:Nat)(o:Obj)(w w':World):Prop where
 os:w'.os=w.os
 tape:w'.tape=w.tape
 output:w'.output=w.output
 size:w'.heap.size=w.heap.size
 this:w'.heap[b]?=some o
 others:∀k,k≠b->w'.heap[k]?=w.heap[k]?
section
variable{N:Nat}{D:List Deferred}{w0 w w':World}{F:Nat->Prop}{G0 G G':GH}{L L':List (Nat×Obj)}{T:List (Nat×aj)}{a:Act}{b:Nat}{o o':Obj}
theorem Hp.lt(h:Hp w0 F G0 G L w){p:Nat×Obj}(hp:p∈L):p.1<w.heap.size:=lt_of_heap<|h.own p hp
theorem Hp.alloc(h:Hp w0 F G0 G L w)(o:Obj):Hp w0 F G0 G ((w.heap.size,o)::L) (w.alloc o):=by
 have hold:∀k,k<w.heap.size->(w.alloc o).heap[k]?=w.heap[k]?:=fun k hk=>Below.heap_alloc w o k hk
 refine⟨h.os,h.tape,h.output,by simp;exact Nat.le_succ_of_le h.size,h.xR,fun k hk=>(hold k<|Nat.lt_of_lt_of_le (h.xR k hk) h.size).trans (h.fr k hk),fun k o' hk=>(hold k<|lt_of_heap<|h.ro k o' hk).trans (h.ro k o' hk),h.gm,h.gx,?_,?_,?_,?_⟩
 ·intro p hp
  rcases iL.1 hp with rfl|hp
  ·show(w.heap.push o)[w.heap.size]?=some o;simp
  ·exact(hold _<|h.lt hp).trans<|h.own p hp
 ·intro p hp
  rcases iL.1 hp with rfl|hp
  ·cases hg:G w.heap.size with
   |none=>rfl
   |some o'=>exact absurd (lt_of_heap<|h.ro _ _ hg)<|Nat.lt_irrefl _
  ·exact h.vV p hp
 ·intro p hp
  rcases iL.1 hp with rfl|hp
  ·intro hf;exact absurd (Nat.lt_of_lt_of_le (h.xR _ hf) h.size)<|Nat.lt_irrefl _
  ·exact h.vU p hp
 ·refine Ce.2 ⟨fun q hq=>?_,h.nd⟩
  have:=h.lt hq
  simp only;omega
theorem Hp.below(h:Hp w0 F G0 G L w)(hb:Below w.heap.size w w'):Hp w0 F G0 G L w':=by
 refine⟨hb.os.trans h.os,hb.tape.trans h.tape,hb.output.trans h.output,Nat.le_trans h.size hb.size,h.xR,fun k hk=>(hb.block k<|Nat.lt_of_lt_of_le (h.xR k hk) h.size).trans (h.fr k hk),fun k o hk=>(hb.block k<|lt_of_heap<|h.ro k o hk).trans (h.ro k o hk),h.gm,h.gx,fun p hp=>(hb.block _<|h.lt hp).trans (h.own p hp),h.vV,h.vU,h.nd⟩
def Ext(n1:Nat)(G G':GH)(w':World):Prop:=(∀k o,G k=some o->G' k=some o)∧(∀k o,G' k=some o->G k=some o∨n1<=k)∧(∀k o,G' k=some o->w'.heap[k]?=some o)
theorem Hp.afA(h:Hp w0 F G0 G L w)(hb:Below w.heap.size w w')(hx:Ext w.heap.size G G' w'):Hp w0 F G0 G' L w':=by
 have h':=h.below hb
 refine⟨h'.os,h'.tape,h'.output,h'.size,h'.xR,h'.fr,hx.2.2,fun k o hk=>hx.1 k o (h.gm k o hk),fun k o hk=>?_,h'.own,fun p hp=>?_,h'.vU,h'.nd⟩
 ·rcases hx.2.1 k o hk with hk|hk
  ·exact h.gx k o hk
  ·exact .inr fun hf=>absurd (Nat.lt_of_lt_of_le (h.xR k hf) h.size) O
 ·cases hg:G' p.1 with
  |none=>rfl
  |some o=>
   rcases hx.2.1 _ _ hg with hk|hk
   ·rw[h.vV p hp]at hk;cases hk
   ·exact absurd (h.lt hp) O
theorem adr:∀{L:List (Nat×Obj)}{i b:Nat}{o o':Obj},L.Pairwise (fun p q=>p.1≠q.1)->L[i]?=some (b,o)->(L.set i (b,o')).Pairwise fun p q=>p.1≠q.1
 |[],_,_,_,_,h,_=>h
 |p::L,0,b,o,o',h,hi=>by
  simp only[Cg,oW]at hi
  subst hi
  exact Ce.2 ⟨(Ce.1 h).1,(Ce.1 h).2⟩
 |p::L,i+1,b,o,o',h,hi=>by
  simp only[List.getElem?_cons_succ]at hi
  refine Ce.2 ⟨fun q hq=>?_,adr (Ce.1 h).2 hi⟩
  rcases List.mem_or_eq_of_mem_set hq with hq|rfl
  ·exact(Ce.1 h).1 q hq
  ·exact(Ce.1 h).1 (b,o)<|lZ hi
theorem adb:∀{L:List (Nat×Obj)}{i:Nat}{p q:Nat×Obj},L.Pairwise (fun p q=>p.1≠q.1)->L[i]?=some p->q∈L->q.1=p.1->q=p
 |[],_,_,_,_,h,_,_=>by simp at h
 |x::L,0,p,q,h,hi,hq,e=>by
  simp only[Cg,oW]at hi
  subst hi
  rcases iL.1 hq with rfl|hq
  ·rfl
  ·exact absurd e.symm ((Ce.1 h).1 q hq)
 |x::L,i+1,p,q,h,hi,hq,e=>by
  simp only[List.getElem?_cons_succ]at hi
  rcases iL.1 hq with rfl|hq
  ·exact absurd e ((Ce.1 h).1 p<|lZ hi)
  ·exact adb (Ce.1 h).2 hi hq e
theorem Hp.upd(h:Hp w0 F G0 G L w){i:Nat}(hi:L[i]?=some (b,o))(hu:xE b o' w w'):Hp w0 F G0 G (L.set i (b,o')) w':=by
 have hm:(b,o)∈L:=lZ hi
 refine⟨hu.os.trans h.os,hu.tape.trans h.tape,hu.output.trans h.output,hu.size ▸ h.size,h.xR,fun k hk=>?_,fun k o hk=>?_,h.gm,h.gx,fun p hp=>?_,fun p hp=>?_,fun p hp=>?_,adr h.nd hi⟩
 ·exact(hu.others k<|fun e=>h.vU _ hm<|e ▸ hk).trans<|h.fr k hk
 ·refine(hu.others k<|fun e=>?_).trans<|h.ro k o hk
  have:=h.vV _ hm
  rw[<-e,hk]at this;cases this
 ·by_cases e:p.1=b
  ·rcases List.mem_or_eq_of_mem_set hp with hp'|rfl
   ·obtain⟨j,hj⟩:=List.getElem?_of_mem hp
    have hib:i<L.length:=(jJ.1 hi).1
    have hset:(L.set i (b,o'))[i]?=some (b,o'):=by simp[hib]
    have:=adb (adr (o':=o') h.nd hi) hset hp e
    rw[this];exact hu.this
   ·exact hu.this
  ·rcases List.mem_or_eq_of_mem_set hp with hp|rfl
   ·exact(hu.others _ e).trans<|h.own p hp
   ·exact absurd M e
 ·rcases List.mem_or_eq_of_mem_set hp with hp|rfl
  ·exact h.vV p hp
  ·exact(h.vV (b,o) hm:G b=none)
 ·rcases List.mem_or_eq_of_mem_set hp with hp|rfl
  ·exact h.vU p hp
  ·exact(h.vU (b,o) hm:¬F b)
theorem Hp.drew(h:Hp w0 F G0 G L w):Hp w0 F G0 G L w.drew:=⟨h.os,h.tape,h.output,h.size,h.xR,h.fr,h.ro,h.gm,h.gx,h.own,h.vV,h.vU,h.nd⟩
theorem Hp.drop(h:Hp w0 F G0 G L w)(hs:L'.Sublist L):Hp w0 F G0 G L' w:=⟨h.os,h.tape,h.output,h.size,h.xR,h.fr,h.ro,h.gm,h.gx,fun p hp=>h.own p (hs.subset hp),fun p hp=>h.vV p (hs.subset hp),fun p hp=>h.vU p (hs.subset hp),h.nd.sublist hs⟩
theorem Hp.dR{Pl dH Lo:List (Nat×Obj)}(h:Hp w0 F G0 G (Pl++Lo) w)(idx:List Nat)(hi:idx.Nodup)(hL:idx.map (fun i=>Pl[i]?)=dH.map some):Hp w0 F G0 G (dH++Lo) w:=by
 have hget:∀(j:Nat)(p:Nat×Obj),dH[j]?=some p->∃i:Nat,idx[j]?=some i∧Pl[i]?=some p:=by
  intro j p hp
  have h1:(idx.map<|fun i=>Pl[i]?)[j]?=some (some p):=by rw[hL];simp[hp]
  rw[ql]at h1
  obtain⟨i,hi1,hi2⟩:=nK.1 h1
  exact⟨i,hi1,hi2⟩
 have hmem:∀p∈dH++Lo,p∈Pl++Lo:=by
  intro p hp
  rcases iF.1 hp with hp|hp
  ·obtain⟨j,hj⟩:=List.getElem?_of_mem hp
   obtain⟨i,_,hi2⟩:=hget j p hj
   exact List.mem_append_left _<|lZ hi2
  ·exact List.mem_append_right _ hp
 have hnd:=List.pairwise_append.1 h.nd
 refine⟨h.os,h.tape,h.output,h.size,h.xR,h.fr,h.ro,h.gm,h.gx,fun p hp=>h.own p (hmem p hp),fun p hp=>h.vV p (hmem p hp),fun p hp=>h.vU p (hmem p hp),List.pairwise_append.2 ⟨?_,hnd.2.1,fun p hp q hq=>?_⟩⟩
 ·refine List.pairwise_iff_getElem.2 fun x y hx hy hxy=>?_
  obtain⟨i,hi1,hi2⟩:=hget x _<|gF hx
  obtain⟨j,hj1,hj2⟩:=hget y _<|gF hy
  have hij:i≠j:=by
   intro e
   subst e
   obtain⟨hx1,hx2⟩:=jJ.1 hi1
   obtain⟨hy1,hy2⟩:=jJ.1 hj1
   exact(List.pairwise_iff_getElem.1 hi x y hx1 hy1 hxy) (by rw[hx2,hy2])
  obtain⟨hi3,hi4⟩:=jJ.1 hi2
  obtain⟨hj3,hj4⟩:=jJ.1 hj2
  rcases Nat.lt_or_ge i j with hlt|hge
  ·rw[<-hi4,<-hj4];exact List.pairwise_iff_getElem.1 hnd.1 i j hi3 hj3 hlt
  ·rw[<-hi4,<-hj4];exact Ne.symm<|List.pairwise_iff_getElem.1 hnd.1 j i hj3 hi3 O
 ·obtain⟨j,hj⟩:=List.getElem?_of_mem hp
  obtain⟨i,_,hi2⟩:=hget j p hj
  exact hnd.2.2 p (lZ hi2) q hq
def GH.add(G:GH)(b:Nat)(o:Obj):GH:=fun k=>if k=b then some o else G k
theorem GH.Md(G:GH){b:Nat}{o:Obj}(hn:G b=none)(k:Nat)(o':Obj)(h:G k=some o'):(G.add b o) k=some o':=by
 unfold GH.add;rw[au (fun e=>by subst e;rw[hn]at h;cases h)];exact h
theorem GH.Jm(G:GH)(b:Nat)(o:Obj):(G.add b o) b=some o:=by simp[GH.add]
theorem Hp.giveUp(h:Hp w0 F G0 G L w)(i:Nat)(hi:L[i]?=some (b,o)):Hp w0 F G0 (G.add b o) (L.eraseIdx i) w:=by
 have hm:(b,o)∈L:=lZ hi
 have hsub:(L.eraseIdx i).Sublist L:=List.eraseIdx_sublist L i
 have hne:∀p∈L.eraseIdx i,p.1≠b:=by
  intro p hp e
  have h1:=adb h.nd hi (hsub.subset hp) e
  subst h1
  obtain⟨j,hj,hjp⟩:=List.mem_eraseIdx_iff_getElem?.1 hp
  have hnd:=h.nd
  have hij:j≠i:=hj
  have hlt1:j<L.length:=(jJ.1 hjp).1
  have hlt2:i<L.length:=(jJ.1 hi).1
  have e1:=(jJ.1 hjp).2
  have e2:=(jJ.1 hi).2
  rcases Nat.lt_or_ge j i with hlt|hge
  ·exact(List.pairwise_iff_getElem.1 hnd j i hlt1 hlt2 hlt) (by rw[e1,e2])
  ·exact(List.pairwise_iff_getElem.1 hnd i j hlt2 hlt1 O) (by rw[e1,e2])
 refine⟨h.os,h.tape,h.output,h.size,h.xR,h.fr,fun k o' hk=>?_,fun k o' hk=>GH.Md G (h.vV _ hm) k o' (h.gm k o' hk),fun k o' hk=>?_,fun p hp=>h.own p (hsub.subset hp),fun p hp=>?_,fun p hp=>h.vU p (hsub.subset hp),h.nd.sublist hsub⟩
 ·unfold GH.add at hk
  split at hk
  ·rename_i e;subst e;cases hk;exact h.own _ hm
  ·exact h.ro k o' hk
 ·unfold GH.add at hk
  split at hk
  ·rename_i e;subst e;exact .inr<|h.vU _ hm
  ·exact h.gx k o' hk
 ·unfold GH.add
  rw[au<|hne p hp]
  exact h.vV p<|hsub.subset hp
theorem St.ev(h:St N D w0 F G0 G L T a w){x:Operand}{v:aj}(hx:Proofs.YtdgnnpjijhafaaaGreat.ev T x=some v):a.eval x=v:=by
 cases x with
 |tmp t=>
  have:=h.get t v hx
  simp only[Act.eval,Array.getD_eq_getD_getElem?,this,Option.getD_some]
 |const u=>simp only[Proofs.YtdgnnpjijhafaaaGreat.ev,oW]at hx;subst hx;rfl
 |global g=>simpa[Proofs.YtdgnnpjijhafaaaGreat.ev,Act.eval]using hx
 |func f=>simpa[Proofs.YtdgnnpjijhafaaaGreat.ev,Act.eval]using hx
theorem St.evs(h:St N D w0 F G0 G L T a w):∀{xs:List Operand}{vs:List aj},Proofs.YtdgnnpjijhafaaaGreat.evs T xs=some vs->xs.map a.eval=vs
 |[],vs,hx=>by simp[Proofs.YtdgnnpjijhafaaaGreat.evs]at hx;subst hx;rfl
 |x::xs,vs,hx=>by
  unfold Proofs.YtdgnnpjijhafaaaGreat.evs at hx
  split at hx
  ·rename_i v vs' h1 h2
   simp only[oW]at hx
   subst hx
   rw[dV,h.ev h1,h.evs h2]
  ·cases hx
theorem St.put(h:St N D w0 F G0 G L T a w){d:Nat}(hd:Nat.blt d N=true)(v:aj)(H':Hp w0 F G0 G' L' w'):St N D w0 F G0 G' L' ((d,v)::T) (a.put (some d) v) w':=by
 have hlt:d<a.tmps.size:=by rw[h.nX];exact Eq.mp Nat.blt_eq hd
 refine⟨by simp[Act.put,h.nX],fun t u ht=>?_,h.uS,H'⟩
 simp only[Act.put,Array.getElem?_setIfInBounds]
 by_cases e:d=t
 ·subst e
  rw[mq]at ht
  simp[hlt];simpa using ht
 ·rw[gL e]at ht
  simp[e];exact h.get t u ht
theorem St.move(h:St N D w0 F G0 G L T a w)(H':Hp w0 F G0 G' L' w'):St N D w0 F G0 G' L' T a w':=⟨h.nX,h.get,h.uS,H'⟩
def aea(T:List (Nat×aj)):List (Nat×aj)->Prop
 |[]=>True
 |(t,v)::r=>lk T t=some v∧aea T r
theorem ard{T:List (Nat×aj)}:∀{T':List (Nat×aj)},aea T T'->∀{t v},lk T' t=some v->lk T t=some v
 |[],_,_,_,h=>by simp[lk]at h
 |(s,u)::r,hs,t,v,h=>by
  by_cases e:s=t
  ·subst e;rw[mq]at h;exact h ▸ hs.1
  ·rw[gL e]at h;exact ard hs.2 h
theorem St.sub(h:St N D w0 F G0 G L T a w){T':List (Nat×aj)}(hs:aea T T'):St N D w0 F G0 G L T' a w:=⟨h.nX,fun t v ht=>h.get t v (ard hs ht),h.uS,h.hp⟩
theorem St.dR{Pl dH Lo:List (Nat×Obj)}(h:St N D w0 F G0 G (Pl++Lo) T a w)(idx:List Nat)(hi:idx.Nodup)(hL:idx.map (fun i=>Pl[i]?)=dH.map some):St N D w0 F G0 G (dH++Lo) T a w:=⟨h.nX,h.get,h.uS,h.hp.dR idx hi hL⟩
end
end
section
section base
variable{r:Option Nat}{P:Program}{ops:Array Oper}{Q:Exit->Act->World->Prop}{rest:List Oper}{a:Act}{w w':World}{o:Oper}
def Wu:Op->Bool
 |.defer _=>false
 |_=>true
theorem adT{o:Oper}{ro:Option Nat}{ρ:Operand->aj}(h:Wu o.op=true):o.semAt ro ρ=execOp ρ o :=
 Oper.semAt_eq ro ρ o fun c e=>by rw[e]at h;cases h
theorem aI(h:Q .normal a w):WL r P ops Q [] a w:=wpListIn_nil h
theorem aev(hw:Region.wanted o (yielded ops a.tmps)=true)(h:o.wpIn (FW r) 0 P a w (WL r P ops Q rest) Q):WL r P ops Q (o::rest) a w:=by
 show wpListIn (FW r) 0 P ops Q (o::rest) a w
 unfold wpListIn
 rw[ay hw]
 exact h
theorem asj(hw:Region.wanted o (yielded ops a.tmps)=false)(h:WL r P ops Q rest (a.put o.dst undef) w):WL r P ops Q (o::rest) a w:=by
 show wpListIn (FW r) 0 P ops Q (o::rest) a w
 unfold wpListIn
 rw[au (by simp[hw])]
 exact⟨fun _ _=>trivial,h⟩
theorem fH{v:aj}(hw:Region.wanted o (yielded ops a.tmps)=true)(hd:Wu o.op=true)(h:(execOp a.eval o).run P w=.ok (.value v) w')
  (k:WL r P ops Q rest (a.put o.dst v) w'):WL r P ops Q (o::rest) a w:=by
 refine aev hw ⟨fun _ _=>trivial,?_⟩
 rw[adT hd,h]
 exact k
theorem Xz(hw:Region.wanted o (yielded ops a.tmps)=true)(hd:Wu o.op=true)(h:(execOp a.eval o).run P w=.ok .skip w')
  (k:WL r P ops Q rest (a.put o.dst undef) w'):WL r P ops Q (o::rest) a w:=by
 refine aev hw ⟨fun _ _=>trivial,?_⟩
 rw[adT hd,h]
 exact k
def After(P:Program)(nx:Result Next)(R:Ending->World->Prop):Prop :=
 match nx with
 |.ok (.enter f args) w'=>Calls P f args w' R
 |.ok (.round l f tmps assign body) w'=>RoundIn (FW none) 0 P l f tmps assign body w' R
 |_=>False
structure uN(P:Program)(fv:aj)(args:List aj)(w:World)(R:Ending->World->Prop):Prop where
 go:After P ((do let d <-Deferred.ofValue fv args.toArray;invoke d.target d.args:Sem Next).run P w) R
theorem aeu{nx:Result Next}{R:Ending->World->Prop}(hw:Region.wanted o (yielded ops a.tmps)=true)(hd:Wu o.op=true)(h:(execOp a.eval o).run P w=nx)(hc:After P nx R)
  (k:∀e w',R e w'->∃v,e=.returned v∧WL r P ops Q rest (a.put o.dst v) w'):WL r P ops Q (o::rest) a w:=by
 refine aev hw ⟨fun _ _=>trivial,?_⟩
 rw[adT hd,h]
 cases nx with
 |halt x y=>exact hc.elim
 |ok x w1=>
  cases x with
  |enter f args=>
   refine⟨SK r,(ZX hc).mono fun e w2 hR=>?_⟩
   obtain⟨v,rfl,hk⟩:=k e w2 hR
   exact hk
  |round l f tmps assign body=>
   have hc':RoundIn (FW none) 0 P l f tmps assign body w1 R:=hc
   refine⟨SK r,?_⟩
   have h2:RoundIn (FW r) (0-1) P l f tmps assign body w1 R:=⟨aC,fun c cs hr=>hc'.2 c cs<|room_wide _⟩
   exact h2.mono fun e w2 hR=>by obtain⟨v,rfl,hk⟩:=k e w2 hR;exact hk
  |_=>exact hc.elim
end base
section steps
variable{N:Nat}{D:List Deferred}{w0:World}{F:Nat->Prop}{G0 G:GH}{L:List (Nat×Obj)}{T:List (Nat×aj)}
variable{r:Option Nat}{P:Program}{ops:Array Oper}{Q:Exit->Act->World->Prop}{rest:List Oper}{a:Act}{w:World}
variable{d:Nat}{ty:TypeId}{pos:String}{aT:Array Edge}{g:Option (Nat×Bool)}
theorem wn{op:Op}{dst:Option Tmp}{y:Nat->Option Bool}:Region.wanted ⟨dst,op,ty,pos,aT,none⟩ y=true:=rfl
theorem asr(H:St N D w0 F G0 G L T a w){j t:Nat}{b:Bool}(hj:(ops[j]?).bind (·.dst)=some t)(ht:lk T t=some (.bool b)):yielded ops a.tmps j=some b:=by
 unfold yielded
 rw[hj]
 simp[H.get t _ ht]
theorem wg(H:St N D w0 F G0 G L T a w){op:Op}{dst:Option Tmp}{j t:Nat}{want b:Bool}(hj:(ops[j]?).bind (·.dst)=some t)(ht:lk T t=some (.bool b))(hb:b=want) :
  Region.wanted ⟨dst,op,ty,pos,aT,some (j,want)⟩ (yielded ops a.tmps)=true:=by
 simp[Region.wanted,asr H hj ht,hb]
theorem aqu(H:St N D w0 F G0 G L T a w){op:Op}{j t:Nat}{want b:Bool}(hj:(ops[j]?).bind (·.dst)=some t)(ht:lk T t=some (.bool b))(hb:b=!want)(hd:Nat.blt d N=true)
  (k:∀a',St N D w0 F G0 G L ((d,undef)::T) a' w->WL r P ops Q rest a' w):WL r P ops Q (⟨some d,op,ty,pos,aT,some (j,want)⟩::rest) a w:=by
 refine asj ?_<|k _<|H.put hd undef H.hp
 simp only[Region.wanted,asr H hj ht,hb]
 cases want<;>rfl
theorem aHa(H:St N D w0 F G0 G L T a w){op:Op}{j t:Nat}{want:Bool}(hj:(ops[j]?).bind (·.dst)=some t)(ht:lk T t=some undef)(hd:Nat.blt d N=true)
  (k:∀a',St N D w0 F G0 G L ((d,undef)::T) a' w->WL r P ops Q rest a' w):WL r P ops Q (⟨some d,op,ty,pos,aT,some (j,want)⟩::rest) a w:=by
 refine asj ?_<|k _<|H.put hd undef H.hp
 have h:yielded ops a.tmps j=none:=by
  unfold yielded
  rw[hj]
  simp[H.get t _ ht,undef]
 simp only[Region.wanted,h]
 cases want<;>rfl
theorem WU(_H:St N D w0 F G0 G L T a w)(t:Nat){b:Bool}{X:Prop}(_ht:lk T t=some (.bool b))(h1:b=true->X)(h0:b=false->X):X:=by cases b<;>simp_all
theorem IQ{x:Operand}{v:aj}(H:St N D w0 F G0 G L T a w)(hw:Region.wanted ⟨some d,.move x,ty,pos,aT,g⟩ (yielded ops a.tmps)=true)(hx:ev T x=some v)(hd:Nat.blt d N=true)
  (k:∀a',St N D w0 F G0 G L ((d,v)::T) a' w->WL r P ops Q rest a' w):WL r P ops Q (⟨some d,.move x,ty,pos,aT,g⟩::rest) a w :=
 fH (v:=v) (w':=w) hw M (by simp[execOp,H.ev hx]) (k _<|H.put hd v H.hp)
theorem aGW{x:Operand}{v:aj}(H:St N D w0 F G0 G L T a w)(hw:Region.wanted ⟨some d,.assign x,ty,pos,aT,g⟩ (yielded ops a.tmps)=true)(hx:ev T x=some v)(hd:Nat.blt d N=true)
  (k:∀a',St N D w0 F G0 G L ((d,v)::T) a' w->WL r P ops Q rest a' w):WL r P ops Q (⟨some d,.assign x,ty,pos,aT,g⟩::rest) a w :=
 fH (v:=v) (w':=w) hw M (by simp[execOp,H.ev hx]) (k _<|H.put hd v H.hp)
theorem Ol{c x y:Operand}{b:Bool}{v:aj}(H:St N D w0 F G0 G L T a w)(hw:Region.wanted ⟨some d,.pick c x y,ty,pos,aT,g⟩ (yielded ops a.tmps)=true)(hc:ev T c=some (.bool b))(hb:b=true)(hx:ev T x=some v)(hd:Nat.blt d N=true)
  (k:∀a',St N D w0 F G0 G L ((d,v)::T) a' w->WL r P ops Q rest a' w):WL r P ops Q (⟨some d,.pick c x y,ty,pos,aT,g⟩::rest) a w :=
 fH (v:=v) (w':=w) hw M (by simp[execOp,H.ev hx,H.ev hc,asBool,hb]) (k _<|H.put hd v H.hp)
theorem R6{c x y:Operand}{b:Bool}{v:aj}(H:St N D w0 F G0 G L T a w)(hw:Region.wanted ⟨some d,.pick c x y,ty,pos,aT,g⟩ (yielded ops a.tmps)=true)(hc:ev T c=some (.bool b))(hb:b=false)(hx:ev T y=some v)(hd:Nat.blt d N=true)
  (k:∀a',St N D w0 F G0 G L ((d,v)::T) a' w->WL r P ops Q rest a' w):WL r P ops Q (⟨some d,.pick c x y,ty,pos,aT,g⟩::rest) a w :=
 fH (v:=v) (w':=w) hw M (by simp[execOp,H.ev hx,H.ev hc,asBool,hb]) (k _<|H.put hd v H.hp)
class Und (P:Program) (t:TypeId) (d:outParam TypeDesc):Prop where
 h:P.underlying t=some d
class Ty (P:Program) (t:TypeId) (sz bytes:outParam Nat) (zero:outParam (List aj)) (agg:outParam Bool):Prop where
 info:(P.info? t).map (fun i=>(i.size,i.bytes,i.zero.map fun z=>z.cells.toList))=some (sz,bytes,some zero)
 ag:(P.underlying t).map (fun|.struct _=>true|.array _ _=>true|_=>false)=some agg
theorem Ty.parts{t:TypeId}{sz bytes:Nat}{zero:List aj}{agg:Bool}(h:Ty P t sz bytes zero agg):∃i z,P.info? t=some i∧i.size=sz∧i.bytes=bytes∧i.zero=some z∧z.cells=zero.toArray:=by
 obtain⟨i,hi,hx⟩:=nK.1 h.info
 simp only[jd]at hx
 obtain⟨z,hz,hzz⟩:=nK.1 hx.2.2
 exact⟨i,z,hi,hx.1,hx.2.1,hz,by rw[<-hzz]⟩
theorem EA{t:TypeId}{i:TypeInfo}(h:P.info? t=some i)(w:World):(typeInfo t).run P w=.ok i w:=by simp[typeInfo,program,Sem.run,dP,h]
theorem Ty.EB{t:TypeId}{sz bytes:Nat}{zero:List aj}{agg:Bool}(h:Ty P t sz bytes zero agg)(w:World):(sizeOf t).run P w=.ok sz w:=by
 obtain⟨i,z,hi,h1,-,-,-⟩:=h.parts
 simp[sizeOf,dP,EA hi,h1]
theorem Ty.aqi{t:TypeId}{sz bytes:Nat}{zero:List aj}{agg:Bool}(h:Ty P t sz bytes zero agg)(w:World):∃z,(zeroValue t).run P w=.ok z w∧z.cells=zero.toArray:=by
 obtain⟨i,z,hi,-,-,h1,h2⟩:=h.parts
 exact⟨z,by simp[zeroValue,dP,EA hi,h1],h2⟩
theorem lV{t:TypeId}{u:TypeDesc}(h:P.underlying t=some u)(w:World):(underlying t).run P w=.ok u w:=by simp[underlying,program,Sem.run,dP,h]
theorem Ty.WQ{t:TypeId}{sz bytes:Nat}{zero:List aj}{agg:Bool}(h:Ty P t sz bytes zero agg)(w:World):(isAgg t).run P w=.ok agg w:=by
 obtain⟨u,hu,hx⟩:=nK.1 h.ag
 unfold isAgg
 simp only[dP,lV hu,kY]
 cases u<;>simp_all
theorem dK{elem:TypeId}{sz bytes:Nat}{zero:List aj}{agg:Bool}(ht:Ty P elem sz bytes zero agg)(H:St N D w0 F G0 G L T a w)(hw:Region.wanted ⟨some d,.alloc elem,ty,pos,aT,g⟩ (yielded ops a.tmps)=true)(hd:Nat.blt d N=true)
  (k:∀b a' w',w0.heap.size<=b->St N D w0 F G0 G ((b,.cells zero.toArray elem (0,0))::L) ((d,.pointer<|some ⟨b,0,none⟩)::T) a' w'->WL r P ops Q rest a' w'):WL r P ops Q (⟨some d,.alloc elem,ty,pos,aT,g⟩::rest) a w:=by
 obtain⟨z,hz,hzc⟩:=ht.aqi w
 refine fH (v:=.pointer<|some ⟨w.heap.size,0,none⟩) (w':=w.alloc (.cells zero.toArray elem (0,0))) hw M ?_<|k _ _ _ H.hp.size<|H.put hd _<|H.hp.alloc _
 simp[execOp,Instr.alloc,dP,hz,newVar,newRow,newObj,Sem.run,hzc]
theorem eD{elem:TypeId}{x:Operand}{v:aj}{cs:List aj}(H:St N D w0 F G0 G L T a w)(hw:Region.wanted ⟨some d,.box elem x,ty,pos,aT,g⟩ (yielded ops a.tmps)=true)(hx:ev T x=some v)(hc:v.cells=cs.toArray)(hd:Nat.blt d N=true)
  (k:∀b a' w',w0.heap.size<=b->St N D w0 F G0 G ((b,.cells cs.toArray elem (0,0))::L) ((d,.pointer<|some ⟨b,0,none⟩)::T) a' w'->WL r P ops Q rest a' w'):WL r P ops Q (⟨some d,.box elem x,ty,pos,aT,g⟩::rest) a w:=by
 refine fH (v:=.pointer<|some ⟨w.heap.size,0,none⟩) (w':=w.alloc (.cells cs.toArray elem (0,0))) hw M ?_<|k _ _ _ H.hp.size<|H.put hd _<|H.hp.alloc _
 simp[execOp,Instr.box,dP,newVar,newRow,newObj,Sem.run,H.ev hx,hc]
def aJ(G:GH)(b o:Nat):Option aj:=match G b with|some (.cells c _ _)=>c[o]?|_=>none
theorem Hp.aJ(h:Hp w0 F G0 G L w){b o:Nat}{v:aj}(hg:Proofs.YtdgnnpjijhafaaaGreat.aJ G b o=some v):w.cell? ⟨b,o,none⟩=some v:=by
 unfold Proofs.YtdgnnpjijhafaaaGreat.aJ at hg
 split at hg
 ·rename_i c e f he
  simp only[World.cell?,h.ro b _ he]
  exact hg
 ·cases hg
theorem Hp.sD(h:Hp w0 F G0 G L w)(i:Nat){b o:Nat}{c:Array aj}{e:TypeId}{fz:Nat×Nat}{v:aj}(hi:L[i]?=some (b,.cells c e fz))(hv:c[o]?=some v):w.cell? ⟨b,o,none⟩=some v:=by
 have:=h.own _<|lZ hi
 simp only[World.cell?]at *
 rw[this]
 exact hv
theorem add_lit(b o n:Nat):(⟨b,o,none⟩:Addr).add n=⟨b,o+n,none⟩:=by
 unfold Addr.add
 split
 ·rename_i h;subst h;rfl
 ·rfl
theorem adC{b o:Nat}{v:aj}(h:w.cell? ⟨b,o,none⟩=some v):(load ⟨b,o,none⟩).run P w=.ok v w:=by simp[load,Sem.run,h]
theorem run_loadCells (b:Nat) (w:World):∀ (cs:List aj) (o i:Nat) (acc:Array aj),(∀ j v,cs[j]?=some v->w.cell? ⟨b,o+i+j,none⟩=some v) ->
  (loadCellsFrom ⟨b,o,none⟩ i cs.length acc).run P w=.ok (acc++cs.toArray) w
 | [],o,i,acc,_=>by simp [loadCellsFrom,Sem.run]
 | c :: cs,o,i,acc,h=>by
  have h0:=h 0 c M
  have ih:=run_loadCells b w cs o (i+1) (acc.push c) (fun j v hj=>by have:=h (j+1) v (by simpa using hj);rw [<- this];congr 2;omega)
  simp only [loadCellsFrom,lK,dP,add_lit,adC (P:=P) (by simpa using h0),kY,ih]
  congr 1
  apply Array.ext'
  simp
theorem vo{t:TypeId}{sz bytes:Nat}{zero:List aj}(ht:Ty P t sz bytes zero false){x:Operand}{b o:Nat}{v:aj}(H:St N D w0 F G0 G L T a w)(hw:Region.wanted ⟨some d,.load t x,ty,pos,aT,g⟩ (yielded ops a.tmps)=true)
  (hx:ev T x=some (.pointer<|some ⟨b,o,none⟩))(hc:w.cell? ⟨b,o,none⟩=some v)(hd:Nat.blt d N=true)
  (k:∀a',St N D w0 F G0 G L ((d,v)::T) a' w->WL r P ops Q rest a' w):WL r P ops Q (⟨some d,.load t x,ty,pos,aT,g⟩::rest) a w:=by
 refine fH (v:=v) (w':=w) hw M ?_<|k _<|H.put hd v H.hp
 simp only[execOp,Instr.loadAt,Instr.sureAddr,loadVar,dP,H.ev hx,ht.WQ,kY,rO,zJ,if_false,adC hc]
theorem aY{t:TypeId}{sz bytes:Nat}{zero:List aj}(ht:Ty P t sz bytes zero true){x:Operand}{b o:Nat}{cs:List aj}(H:St N D w0 F G0 G L T a w)(hw:Region.wanted ⟨some d,.load t x,ty,pos,aT,g⟩ (yielded ops a.tmps)=true)
  (hx:ev T x=some (.pointer<|some ⟨b,o,none⟩))(hl:cs.length=sz)(hc:∀j v,cs[j]?=some v->w.cell? ⟨b,o+j,none⟩=some v)(hd:Nat.blt d N=true)
  (k:∀a',St N D w0 F G0 G L ((d,.agg cs.toArray)::T) a' w->WL r P ops Q rest a' w):WL r P ops Q (⟨some d,.load t x,ty,pos,aT,g⟩::rest) a w:=by
 refine fH (v:=.agg cs.toArray) (w':=w) hw M ?_<|k _<|H.put hd _ H.hp
 have h1:=run_loadCells (P:=P) b w cs o 0 #[] (fun j v hj=>by simpa using hc j v hj)
 simp only[Array.empty_append,hl]at h1
 simp[execOp,Instr.loadAt,Instr.sureAddr,loadVar,dP,H.ev hx,ht.WQ,ht.EB,loadCells,h1]
theorem Hp.dB(h:Hp w0 F G0 G L w)(i:Nat){b o:Nat}{c:List aj}{e:TypeId}{fz:Nat×Nat}{cs:List aj}(hi:L[i]?=some (b,.cells c.toArray e fz))(hv:(c.drop o).take cs.length=cs):∀j v,cs[j]?=some v->w.cell? ⟨b,o+j,none⟩=some v:=by
 intro j v hj;refine h.sD i hi ?_
 rw[<-hv,xG]at hj
 split at hj
 ·rw[List.getElem?_drop]at hj
  simpa using hj
 ·cases hj
theorem aIF{b o:Nat}{c:Array aj}{e:TypeId}{fz:Nat×Nat}(h:w.heap[b]?=some (.cells c e fz))(v:aj):xE b (.cells (c.setIfInBounds o v) e fz) w (w.setCell ⟨b,o,none⟩ v):=by
 refine⟨M,M,M,by simp,?_,fun k hk=>Below.heap_setCell w _ v k hk⟩
 simp[World.setCell,Array.getElem?_modify,h]
theorem xE.trans{b:Nat}{o1 o2:Obj}{w1 w2 w3:World}(h:xE b o1 w1 w2)(k:xE b o2 w2 w3):xE b o2 w1 w3 :=
 ⟨k.os.trans h.os,k.tape.trans h.tape,k.output.trans h.output,k.size.trans h.size,k.this,fun j hj=>(k.others j hj).trans<|h.others j hj⟩
theorem xE.refl{b:Nat}{o:Obj}{w:World}(h:w.heap[b]?=some o):xE b o w w:=⟨M,M,M,M,h,fun _ _=>rfl⟩
def oneCell':aj->Bool
 |.agg _|.tuple _=>false
 |_=>true
def setRow(c:List aj):Nat->List aj->List aj
 |_,[]=>c
 |o,v::vs=>setRow (c.set o v) (o+1) vs
theorem aGO{b o:Nat}{c:Array aj}{e:TypeId}{v:aj}(hb:w.heap[b]?=some (.cells c e (0,0)))(ho:o<c.size)(hv:oneCell' v=true) :
  (store ⟨b,o,none⟩ v).run P w=.ok () (w.setCell ⟨b,o,none⟩ v):=by
 have h1:w.cell? ⟨b,o,none⟩=some c[o]:=by simp[World.cell?,hb,ho]
 have h2:w.frozen? ⟨b,o,none⟩=false:=by simp[World.frozen?,hb]
 unfold store
 cases v<;>first|(simp[oneCell']at hv;done)|(simp only[Sem.run,h1,h2];rfl)
theorem adF (b:Nat) (e:TypeId) (o0:Nat):∀ (vs:List aj) (i:Nat) (c:List aj) (w:World),w.heap[b]?=some (.cells c.toArray e (0,0))->o0+i+vs.length<=c.length->(∀ v∈vs,oneCell' v=true) ->
  ∃ w',(storeCells ⟨b,o0,none⟩ vs i).run P w=.ok () w'∧xE b (.cells (setRow c (o0+i) vs).toArray e (0,0)) w w'
 | [],i,c,w,hb,_,_=>⟨w,by simp [storeCells,Sem.run],xE.refl hb⟩
 | v :: vs,i,c,w,hb,hl,hv=>by
  simp only [lK] at hl
  have hr:=aGO (P:=P) (o:=o0+i) (v:=v) hb (by simp;omega) (hv v (by simp))
  have hu:=aIF (o:=o0+i) hb v
  have hb':=hu.this
  simp only [List.setIfInBounds_toArray] at hb' hu
  obtain ⟨w2,h2,u2⟩:=adF b e o0 vs (i+1) (c.set (o0+i) v) _ hb' (by simp;omega) (fun u hu=>hv u (by simp [hu]))
  refine ⟨w2,?_,?_⟩
  ·simp only [storeCells,dP,add_lit,hr,kY,h2]
  ·exact hu.trans u2
theorem EG{t:TypeId}{sz bytes:Nat}{zero:List aj}{agg:Bool}(ht:Ty P t sz bytes zero agg){x y:Operand}(i:Nat){b o:Nat}{c:List aj}{e:TypeId}{v:aj}{vs:List aj}(c':List aj)(H:St N D w0 F G0 G L T a w)(hw:Region.wanted ⟨none,.store t x y,ty,pos,aT,g⟩ (yielded ops a.tmps)=true)
  (hx:ev T x=some (.pointer<|some ⟨b,o,none⟩))(hi:L[i]?=some (b,.cells c.toArray e (0,0)))(hy:ev T y=some v)(hvs:v.cells=vs.toArray)(hl:Nat.beq vs.length sz=true)(h1:vs.all oneCell'=true)(hle:Nat.ble (o+vs.length) c.length=true)(hset:setRow c o vs=c')
  (k:∀w',St N D w0 F G0 G (L.set i (b,.cells c'.toArray e (0,0))) T a w'->WL r P ops Q rest a w'):WL r P ops Q (⟨none,.store t x y,ty,pos,aT,g⟩::rest) a w:=by
 have hb:=H.hp.own _<|lZ hi
 obtain⟨w2,h2,u2⟩:=adF (P:=P) b e o vs 0 c w hb (by simpa using Nat.le_of_ble_eq_true hle)<|fun u hu=>lM.1 h1 u hu
 simp only[oZ,hset]at u2
 refine Xz (w':=w2) hw M ?_<|k w2<|H.move<|H.hp.upd hi u2
 have hl':vs.length=sz:=Cc hl
 simp[execOp,Instr.storeAt,Instr.sureAddr,storeVar,dP,H.ev hx,H.ev hy,ht.EB,hvs,hl',h2]
class dG (P:Program) (s n:Nat) (off:outParam Nat):Prop where
 h:(match P.underlying s with|some (.struct fs)=>(fs[n]?).bind fun f=>(P.info? f.type).map fun i=>(f.offset,i.size==0)|_=>none)=some (off,false)
theorem dG.parts{s n off:Nat}(h:dG P s n off):∃fs fl i,P.underlying s=some (.struct fs)∧fs[n]?=some fl∧P.info? fl.type=some i∧fl.offset=off∧i.size≠0:=by
 obtain⟨h⟩:=h
 split at h
 ·rename_i fs hs
  obtain⟨fl,hf,h2⟩:=Option.bind_eq_some_iff.1 h
  obtain⟨i,hi,h3⟩:=nK.1 h2
  simp only[jd,beq_eq_false_iff_ne]at h3
  exact⟨fs,fl,i,hs,hf,hi,h3.1,h3.2⟩
 ·cases h
theorem Oj{s:TypeId}{x:Operand}{n b o off:Nat}(hs:dG P s n off)(H:St N D w0 F G0 G L T a w)(hw:Region.wanted ⟨some d,.fieldAddr s x n,ty,pos,aT,g⟩ (yielded ops a.tmps)=true)
  (hx:ev T x=some (.pointer<|some ⟨b,o,none⟩))(hd:Nat.blt d N=true)
  (k:∀a',St N D w0 F G0 G L ((d,.pointer<|some ⟨b,o+off,none⟩)::T) a' w->WL r P ops Q rest a' w):WL r P ops Q (⟨some d,.fieldAddr s x n,ty,pos,aT,g⟩::rest) a w:=by
 obtain⟨fs,fl,i,h1,h2,h3,h4,h5⟩:=hs.parts
 refine fH (v:=.pointer<|some ⟨b,o+off,none⟩) (w':=w) hw M ?_<|k _<|H.put hd _ H.hp
 simp only[execOp,Instr.fieldAt,Instr.sureAddr,dP,H.ev hx,lV h1,h2,kY,rO,fieldPlace,sizeOf,EA h3,au h5,add_lit,h4]
theorem Dp{s e:TypeId}{sz bytes:Nat}{zero:List aj}{agg:Bool}(hs:P.underlying s=some (.slice e))(ht:Ty P e sz bytes zero agg){x y:Operand}{b o n c:Nat}{kd:IntKind}{z:Int}(i:Nat)(H:St N D w0 F G0 G L T a w)(hw:Region.wanted ⟨some d,.indexAddr s x y,ty,pos,aT,g⟩ (yielded ops a.tmps)=true)
  (hx:ev T x=some (.slice (some ⟨b,o,none⟩) n c))(hy:ev T y=some (.int kd z))(hz:z=(i:Int))(hn:i<n)(hd:Nat.blt d N=true)
  (k:∀a',St N D w0 F G0 G L ((d,.pointer<|some ⟨b,o+i*sz,none⟩)::T) a' w->WL r P ops Q rest a' w):WL r P ops Q (⟨some d,.indexAddr s x y,ty,pos,aT,g⟩::rest) a w:=by
 subst hz
 refine fH (v:=.pointer<|some ⟨b,o+i*sz,none⟩) (w':=w) hw M ?_<|k _<|H.put hd _ H.hp
 have hr:(0:Int)<=i∧(i:Int)<(n:Int):=by omega
 simp only[execOp,Instr.indexAt,asIntOf,dP,H.ev hx,H.ev hy,lV hs,kY,rO,ay hr,ht.EB,add_lit,Int.toNat_natCast]
theorem iH{x:Operand}{n:Nat}{vs:List aj}{v:aj}(H:St N D w0 F G0 G L T a w)(hw:Region.wanted ⟨some d,.extract x n,ty,pos,aT,g⟩ (yielded ops a.tmps)=true)(hx:ev T x=some (.tuple vs.toArray))(hv:vs[n]?=some v)(hd:Nat.blt d N=true)
  (k:∀a',St N D w0 F G0 G L ((d,v)::T) a' w->WL r P ops Q rest a' w):WL r P ops Q (⟨some d,.extract x n,ty,pos,aT,g⟩::rest) a w :=
 fH (v:=v) (w':=w) hw M (by simp[execOp,Instr.extract,H.ev hx,hv]) (k _<|H.put hd _ H.hp)
theorem Gm{x:Operand}{p:Addr}(H:St N D w0 F G0 G L T a w)(hw:Region.wanted ⟨some d,.nilCheck x,ty,pos,aT,g⟩ (yielded ops a.tmps)=true)(hx:ev T x=some (.pointer<|some p))(hd:Nat.blt d N=true)
  (k:∀a',St N D w0 F G0 G L ((d,.pointer<|some p)::T) a' w->WL r P ops Q rest a' w):WL r P ops Q (⟨some d,.nilCheck x,ty,pos,aT,g⟩::rest) a w :=
 fH (v:=.pointer<|some p) (w':=w) hw M (by simp[execOp,H.ev hx]) (k _<|H.put hd _ H.hp)
theorem wU{fn:Fn}{xs:List Operand}{vs:List aj}(H:St N D w0 F G0 G L T a w)(hw:Region.wanted ⟨some d,.makeFunc fn #[] xs.toArray,ty,pos,aT,g⟩ (yielded ops a.tmps)=true)(hx:evs T xs=some vs)(hd:Nat.blt d N=true)
  (k:∀a',St N D w0 F G0 G L ((d,.func fn #[] vs.toArray)::T) a' w->WL r P ops Q rest a' w):WL r P ops Q (⟨some d,.makeFunc fn #[] xs.toArray,ty,pos,aT,g⟩::rest) a w :=
 fH (v:=.func fn #[] vs.toArray) (w':=w) hw M (by simp[execOp,Instr.makeFunc,H.evs hx]) (k _<|H.put hd _ H.hp)
def Bo(pl:List (Nat×Nat)):List aj->List (Nat×List aj)->Option (List aj)
 |c,[]=>some c
 |c,(i,vs)::rest=>match pl[i]? with
  |none=>none
  |some (off,size)=>bif Nat.beq vs.length size&&Nat.ble (off+vs.length) c.length then Bo pl (setRow c off vs) rest else none
theorem WV:∀(vs:List aj)(o:Nat)(c:List aj),(setRow c o vs).length=c.length
 |[],_,_=>rfl
 |v::vs,o,c=>by simp[setRow,WV vs]
theorem alx(off:Nat):∀(vs:List aj)(j:Nat)(c:List aj),
  ((vs.zipIdx j).toArray).foldl (fun cs(x:aj×Nat)=>cs.setIfInBounds (off+x.2) x.1) c.toArray=(setRow c (off+j) vs).toArray
 |[],j,c=>by simp[setRow]
 |v::vs,j,c=>by
  have ih:=alx off vs (j+1)<|c.set (off+j) v
  simp only[List.zipIdx_cons,List.foldl_toArray']at *
  simp only[List.foldl_cons,List.setIfInBounds_toArray]
  exact ih
theorem fill_eq(place:Nat->Option (Nat×Nat))(pl:List (Nat×Nat))(hp:∀i q,pl[i]?=some q->place i=some q):∀(parts:List (Nat×aj))(WB:List (Nat×List aj))(c c':List aj),
  parts.map (fun x=>(x.1,x.2.cells.toList))=WB->Bo pl c WB=some c'->Instr.fill place c.toArray parts=some c'.toArray
 |[],WB,c,c',hm,h=>by subst hm;simp[Bo]at h;subst h;rfl
 |(i,v)::parts,WB,c,c',hm,h=>by
  subst hm
  simp only[dV,Bo]at h
  split at h
  ·cases h
  ·rename_i off size hq
   cases hcond:(Nat.beq v.cells.toList.length size&&Nat.ble (off+v.cells.toList.length) c.length)with
   |false=>rw[hcond]at h;cases h
   |true=>
    rw[hcond]at h
    simp only[kV]at hcond
    have e1:=Cc hcond.1
    have e2:=Nat.le_of_ble_eq_true hcond.2
    have ih:=fill_eq place pl hp parts _ (setRow c off v.cells.toList) c' M h
    have hf:=alx off v.cells.toList 0 c
    simp only[oZ]at hf
    simp only[sQ]at e1 e2
    unfold Instr.fill
    rw[hp i _ hq]
    have hz:(v.cells.zipIdx:Array (aj×Nat))=((v.cells.toList.zipIdx 0).toArray):=by
     apply Array.ext';simp
    simp only[e1,ne_eq,not_true_eq_false,zJ,decide_false,Bool.false_or,List.size_toArray]
    rw[au (by simp;omega),hz,hf]
    exact ih
structure sO(P:Program)(t:TypeId)(pl:List (Nat×Nat))(zero:List aj):Prop where
 h:(match P.underlying t with|some (.struct fs)=>some (fs.toList.map fun f=>(f.offset,(P.info? f.type).map (·.size)))|_=>none)=some (pl.map fun q=>(q.1,some q.2))
 z:(P.info? t).map (fun i=>i.zero.map fun z=>z.cells.toList)=some (some zero)
end steps
end
section
section steps
variable{N:Nat}{D:List Deferred}{w0:World}{F:Nat->Prop}{G0 G:GH}{L:List (Nat×Obj)}{T:List (Nat×aj)}
variable{r:Option Nat}{P:Program}{ops:Array Oper}{Q:Exit->Act->World->Prop}{rest:List Oper}{a:Act}{w:World}
variable{d:Nat}{ty:TypeId}{pos:String}{aT:Array Edge}{g:Option (Nat×Bool)}
theorem sO.parts{t:TypeId}{pl:List (Nat×Nat)}{zero:List aj}(h:sO P t pl zero):∃fs i z,P.underlying t=some (.struct fs)∧P.info? t=some i∧i.zero=some z∧z.cells=zero.toArray∧
  fs.toList.map (fun f=>(f.offset,(P.info? f.type).map (·.size)))=pl.map fun q=>(q.1,some q.2):=by
 obtain⟨h,hz⟩:=h
 obtain⟨i,hi,hx⟩:=nK.1 hz
 obtain⟨z,hz1,hz2⟩:=nK.1 hx
 split at h
 ·rename_i fs hs
  exact⟨fs,i,z,hs,hi,hz1,by rw[<-hz2],by simpa using h⟩
 ·cases h
theorem aqg(w:World):∀(fs:List Field)(pl:List (Nat×Nat)),fs.map (fun f=>(f.offset,(P.info? f.type).map (·.size)))=pl.map (fun q=>(q.1,some q.2))->
  (fs.mapM<|fun f=>(do pure (f.offset,<-sizeOf f.type):Sem (Nat×Nat))).run P w=.ok pl w
 |[],[],_=>by simp[Sem.run]
 |[],q::pl,h=>by simp at h
 |f::fs,[],h=>by simp at h
 |f::fs,q::pl,h=>by
  simp only[dV,List.cons.injEq,jd]at h
  obtain⟨⟨h1,h2⟩,h3⟩:=h
  obtain⟨i,hi,hs⟩:=nK.1 h2
  have ih:=aqg w fs pl h3
  have hsz:(sizeOf f.type).run P w=.ok q.2 w:=by simp only[sizeOf,dP,EA hi,kY,rO,hs]
  simp only[List.mapM_cons,dP,hsz,kY,rO,ih,h1]
theorem run_build{t:TypeId}{pl:List (Nat×Nat)}{zero:List aj}(h:sO P t pl zero){parts:Array (Nat×aj)}{cs:List aj}
  (hf:Bo pl zero (parts.toList.map fun x=>(x.1,x.2.cells.toList))=some cs)(w:World):(Instr.build t parts).run P w=.ok (.agg cs.toArray) w:=by
 obtain⟨fs,i,z,h1,h2,h3,h4,h5⟩:=h.parts
 have hm:=aqg (P:=P) w fs.toList pl h5
 have hm':(fs.mapM<|fun f=>(do pure (f.offset,<-sizeOf f.type):Sem (Nat×Nat))).run P w=.ok pl.toArray w:=by
  rw[Array.mapM_eq_mapM_toList]
  simp only[map_eq_pure_bind,dP,hm,kY,rO]
 have abK:=fill_eq (fun i=>pl.toArray[i]?) pl (fun i q hq=>by simpa using hq) parts.toList _ zero cs M hf
 simp only[Instr.build,zeroValue,dP,EA h2,h3,kY,rO,h4,lV h1,hm',abK]
def pts(T:List (Nat×aj)):List (Nat×Operand)->Option (List (Nat×aj))
 |[]=>some []
 |(i,x)::q=>match ev T x,pts T q with|some v,some vs=>some ((i,v)::vs)|_,_=>none
theorem St.pts(H:St N D w0 F G0 G L T a w):∀{xs:List (Nat×Operand)}{vs:List (Nat×aj)},Proofs.YtdgnnpjijhafaaaGreat.pts T xs=some vs->xs.map (fun x=>(x.1,a.eval x.2))=vs
 |[],vs,hx=>by simp[Proofs.YtdgnnpjijhafaaaGreat.pts]at hx;subst hx;rfl
 |(i,x)::xs,vs,hx=>by
  unfold Proofs.YtdgnnpjijhafaaaGreat.pts at hx
  split at hx
  ·rename_i v vs' h1 h2
   simp only[oW]at hx
   subst hx
   rw[dV,H.ev h1,H.pts h2]
  ·cases hx
theorem jM{t:TypeId}{pl:List (Nat×Nat)}{zero:List aj}(ht:sO P t pl zero){xs:List (Nat×Operand)}{vs:List (Nat×aj)}{vs':List (Nat×List aj)}(cs:List aj)(H:St N D w0 F G0 G L T a w)(hw:Region.wanted ⟨some d,.build t xs.toArray,ty,pos,aT,g⟩ (yielded ops a.tmps)=true)
  (hx:pts T xs=some vs)(hv:vs.map (fun x=>(x.1,x.2.cells.toList))=vs')(hf:Bo pl zero vs'=some cs)(hd:Nat.blt d N=true)
  (k:∀a',St N D w0 F G0 G L ((d,.agg cs.toArray)::T) a' w->WL r P ops Q rest a' w):WL r P ops Q (⟨some d,.build t xs.toArray,ty,pos,aT,g⟩::rest) a w:=by
 refine fH (v:=.agg cs.toArray) (w':=w) hw M ?_<|k _<|H.put hd _ H.hp
 have h1:=run_build ht (parts:=(vs.toArray)) (cs:=cs) (by simpa[hv]using hf) w
 simp only[execOp,List.map_toArray,H.pts hx,dP,h1,kY,rO]
theorem iT{t e:TypeId}{sz bytes:Nat}{zero:List aj}{agg:Bool}(hs:P.underlying t=some (.slice e))(ht:Ty P e sz bytes zero agg){n:Nat}{xs:List (Nat×Operand)}{vs:List (Nat×aj)}{vs':List (Nat×List aj)}(z:List aj)(cs:List aj)(H:St N D w0 F G0 G L T a w)(hw:Region.wanted ⟨some d,.buildSlice t n xs.toArray,ty,pos,aT,g⟩ (yielded ops a.tmps)=true)
  (hx:pts T xs=some vs)(hv:vs.map (fun x=>(x.1,x.2.cells.toList))=vs')(hn:Nat.ble (n*sz) 1000=true)(hn0:Nat.beq (n*sz) 0=false)(hz:(List.range<|n*sz).map (fun i=>zero[i%zero.length]!)=z)(hpl:∀i q,((List.range n).map fun i=>(i*sz,sz))[i]?=some q->(some (i*sz,sz):Option (Nat×Nat))=some q)
  (hf:Bo ((List.range n).map fun i=>(i*sz,sz)) z vs'=some cs)(hd:Nat.blt d N=true)
  (k:∀b a' w',w0.heap.size<=b->St N D w0 F G0 G ((b,.cells cs.toArray e (0,0))::L) ((d,.slice (some ⟨b,0,none⟩) n n)::T) a' w'->WL r P ops Q rest a' w'):WL r P ops Q (⟨some d,.buildSlice t n xs.toArray,ty,pos,aT,g⟩::rest) a w:=by
 refine fH (v:=.slice (some ⟨w.heap.size,0,none⟩) n n) (w':=w.alloc (.cells cs.toArray e (0,0))) hw M ?_<|k _ _ _ H.hp.size<|H.put hd _<|H.hp.alloc _
 obtain⟨z0,hz0,hzc⟩:=ht.aqi w
 have h16:¬n*sz>2^24:=by have:=Nat.le_of_ble_eq_true hn;simp;omega
 have h0:¬n*sz=0:=by intro e;rw[e]at hn0;cases hn0
 have abK:=fill_eq (fun i=>some (i*sz,sz)) _ hpl vs vs' z cs hv hf
 have hz':(Array.range<|n*sz).map (fun x=>zero.toArray[x%zero.toArray.size]!)=z.toArray:=by
  rw[<-hz];apply Array.ext';simp
 simp only[execOp,List.map_toArray,H.pts hx,Instr.buildSlice,dP,lV hs,kY,ht.EB,au h16,au h0,hz0,hzc,rO,hz',abK,newRow,newObj,Sem.run]
 rfl
theorem KC{z:Int}(h1:-9223372036854775808<=z)(h2:z<9223372036854775808):IntKind.i64.wrap z=z:=by
 unfold IntKind.wrap
 have e:(2:Int)^64=18446744073709551616:=by decide
 have e':(2:Int)^(64-1)=9223372036854775808:=by decide
 simp only[IntKind.bits,IntKind.signed,Me,e,e',qm]
 split <;>omega
theorem EC{x y:Operand}{t yt:TypeId}{p q:Int}(z:Int)(H:St N D w0 F G0 G L T a w)(hw:Region.wanted ⟨some d,.binOp .add t x y yt,ty,pos,aT,g⟩ (yielded ops a.tmps)=true)(hx:ev T x=some (.int .i64 p))(hy:ev T y=some (.int .i64 q))(hz:p+q=z)(h1:-9223372036854775808<=z)(h2:z<9223372036854775808)(hd:Nat.blt d N=true)
  (k:∀a',St N D w0 F G0 G L ((d,.int .i64 z)::T) a' w->WL r P ops Q rest a' w):WL r P ops Q (⟨some d,.binOp .add t x y yt,ty,pos,aT,g⟩::rest) a w :=
 fH (v:=.int .i64 z) (w':=w) hw M (by simp[execOp,eqGuard,binOp,Op.intArith,H.ev hx,H.ev hy,dP,hz,KC h1 h2]) (k _<|H.put hd _ H.hp)
theorem EH{x y:Operand}{t yt:TypeId}{p q:Int}(z:Int)(H:St N D w0 F G0 G L T a w)(hw:Region.wanted ⟨some d,.binOp .sub t x y yt,ty,pos,aT,g⟩ (yielded ops a.tmps)=true)(hx:ev T x=some (.int .i64 p))(hy:ev T y=some (.int .i64 q))(hz:p-q=z)(h1:-9223372036854775808<=z)(h2:z<9223372036854775808)(hd:Nat.blt d N=true)
  (k:∀a',St N D w0 F G0 G L ((d,.int .i64 z)::T) a' w->WL r P ops Q rest a' w):WL r P ops Q (⟨some d,.binOp .sub t x y yt,ty,pos,aT,g⟩::rest) a w :=
 fH (v:=.int .i64 z) (w':=w) hw M (by simp[execOp,eqGuard,binOp,Op.intArith,H.ev hx,H.ev hy,dP,hz,KC h1 h2]) (k _<|H.put hd _ H.hp)
def P5:BinOp->Int->Int->Option Bool
 |.eql,x,y=>some (decide (x=y))
 |.neq,x,y=>some (decide (¬x=y))
 |.lss,x,y=>some (decide (x<y))
 |.leq,x,y=>some (decide (x<=y))
 |.gtr,x,y=>some (decide (y<x))
 |.geq,x,y=>some (decide (y<=x))
 |_,_,_=>none
theorem aGL{op:BinOp}{kd:IntKind}{x y:Int}{b:Bool}(h:P5 op x y=some b)(t:TypeId)(X xx:Operand)(w:World):(do eqGuard op t X xx (.int kd x) (.int kd y);binOp op t (.int kd x) (.int kd y):Sem aj).run P w=.ok (.bool b) w:=by
 cases op<;>simp only[P5,oW,reduceCtorEq]at h<;>subst h<;>simp[eqGuard,binOp,Op.intCmp,dP]
 ·rfl
 ·rfl
theorem KX{op:BinOp}{x y:Operand}{t yt:TypeId}{kd:IntKind}{p q:Int}{b:Bool}(H:St N D w0 F G0 G L T a w)(hw:Region.wanted ⟨some d,.binOp op t x y yt,ty,pos,aT,g⟩ (yielded ops a.tmps)=true)(hx:ev T x=some (.int kd p))(hy:ev T y=some (.int kd q))(hb:P5 op p q=some b)(hd:Nat.blt d N=true)
  (k:∀a',St N D w0 F G0 G L ((d,.bool b)::T) a' w->WL r P ops Q rest a' w):WL r P ops Q (⟨some d,.binOp op t x y yt,ty,pos,aT,g⟩::rest) a w:=by
 refine fH (v:=.bool b) (w':=w) hw M ?_<|k _<|H.put hd _ H.hp
 have h1:=aGL (P:=P) (kd:=kd) hb t x y w
 simp only[execOp,H.ev hx,H.ev hy]
 rw[dP,h1]
 rfl
theorem adP{x:Operand}{t:TypeId}{b:Bool}(H:St N D w0 F G0 G L T a w)(hw:Region.wanted ⟨some d,.unOp .not t x,ty,pos,aT,g⟩ (yielded ops a.tmps)=true)(hx:ev T x=some (.bool b))(hd:Nat.blt d N=true)
  (k:∀a',St N D w0 F G0 G L ((d,.bool (!b))::T) a' w->WL r P ops Q rest a' w):WL r P ops Q (⟨some d,.unOp .not t x,ty,pos,aT,g⟩::rest) a w :=
 fH (v:=.bool (!b)) (w':=w) hw M (by simp[execOp,Op.unary,H.ev hx,dP]) (k _<|H.put hd _ H.hp)
def rP(op:BinOp)(k:IntKind)(x y:Int):Int :=
 let a:=BitVec.ofInt k.bits x
 let b:=BitVec.ofInt k.bits y
 k.wrap (match op with|.and=>(a&&& b).toNat|.or=>(a|||b).toNat|.xor=>(a^^^b).toNat|_=>(a&&& ~~~b).toNat)
theorem R5{op:BinOp}{x y:Operand}{t yt:TypeId}{kd:IntKind}{p q:Int}(hop:(match op with|.and|.or|.xor|.andNot=>true|_=>false)=true)(H:St N D w0 F G0 G L T a w)(hw:Region.wanted ⟨some d,.binOp op t x y yt,ty,pos,aT,g⟩ (yielded ops a.tmps)=true)(hx:ev T x=some (.int kd p))(hy:ev T y=some (.int kd q))(hd:Nat.blt d N=true)
  (k:∀a',St N D w0 F G0 G L ((d,.int kd<|rP op kd p q)::T) a' w->WL r P ops Q rest a' w):WL r P ops Q (⟨some d,.binOp op t x y yt,ty,pos,aT,g⟩::rest) a w:=by
 refine fH (v:=.int kd<|rP op kd p q) (w':=w) hw M ?_<|k _<|H.put hd _ H.hp
 cases op<;>simp only[zJ]at hop<;>simp[execOp,eqGuard,binOp,Op.intBits,H.ev hx,H.ev hy,rP]
theorem aG9{x y:Operand}{t yt:TypeId}{kd ky:IntKind}{p q:Int}(n:Nat)(H:St N D w0 F G0 G L T a w)(hw:Region.wanted ⟨some d,.binOp .shl t x y yt,ty,pos,aT,g⟩ (yielded ops a.tmps)=true)(hx:ev T x=some (.int kd p))(hy:ev T y=some (.int ky q))(hq:q=(n:Int))(hn:n<=kd.bits)(hd:Nat.blt d N=true)
  (k:∀a',St N D w0 F G0 G L ((d,.int kd<|kd.wrap<|p*2^n)::T) a' w->WL r P ops Q rest a' w):WL r P ops Q (⟨some d,.binOp .shl t x y yt,ty,pos,aT,g⟩::rest) a w:=by
 subst hq
 refine fH (v:=.int kd<|kd.wrap<|p*2^n) (w':=w) hw M ?_<|k _<|H.put hd _ H.hp
 have h0:¬((n:Int)<0):=by omega
 have h1:min n kd.bits=n:=by omega
 simp[execOp,eqGuard,binOp,Op.shift,H.ev hx,H.ev hy,h0,h1]
theorem adR{x y:Operand}{t yt:TypeId}{kd ky:IntKind}{p q:Int}(n:Nat)(H:St N D w0 F G0 G L T a w)(hw:Region.wanted ⟨some d,.binOp .shr t x y yt,ty,pos,aT,g⟩ (yielded ops a.tmps)=true)(hx:ev T x=some (.int kd p))(hy:ev T y=some (.int ky q))(hq:q=(n:Int))(hn:n<=kd.bits)(hd:Nat.blt d N=true)
  (k:∀a',St N D w0 F G0 G L ((d,.int kd<|p.fdiv (2^n))::T) a' w->WL r P ops Q rest a' w):WL r P ops Q (⟨some d,.binOp .shr t x y yt,ty,pos,aT,g⟩::rest) a w:=by
 subst hq
 refine fH (v:=.int kd<|p.fdiv (2^n)) (w':=w) hw M ?_<|k _<|H.put hd _ H.hp
 have h0:¬((n:Int)<0):=by omega
 have h1:min n kd.bits=n:=by omega
 simp[execOp,eqGuard,binOp,Op.shift,H.ev hx,H.ev hy,h0,h1]
theorem IK{x:Operand}{t u:TypeId}{kd ks:IntKind}{p:Int}{su:TypeDesc}(z:Int)(hu:P.underlying u=some (.int kd))(ht:P.underlying t=some su)(H:St N D w0 F G0 G L T a w)(hw:Region.wanted ⟨some d,.convert t u x,ty,pos,aT,g⟩ (yielded ops a.tmps)=true)(hx:ev T x=some (.int ks p))(hz:kd.wrap p=z)(hd:Nat.blt d N=true)
  (k:∀a',St N D w0 F G0 G L ((d,.int kd z)::T) a' w->WL r P ops Q rest a' w):WL r P ops Q (⟨some d,.convert t u x,ty,pos,aT,g⟩::rest) a w:=by
 refine fH (v:=.int kd z) (w':=w) hw M ?_<|k _<|H.put hd _ H.hp
 simp[execOp,convert,lV hu,lV ht,H.ev hx,dP,Conv.intToInt,hz]
theorem qO{x y:Operand}{t:TypeId}{s:ByteArray}{kd:IntKind}{z:Int}(i:Nat)(ht:P.underlying t=some .string)(H:St N D w0 F G0 G L T a w)(hw:Region.wanted ⟨some d,.index t x y,ty,pos,aT,g⟩ (yielded ops a.tmps)=true)(hx:ev T x=some (.string s))(hy:ev T y=some (.int kd z))(hz:z=(i:Int))(hi:i<s.size)(hd:Nat.blt d N=true)
  (k:∀a',St N D w0 F G0 G L ((d,.int .u8 (s[i].toNat:Int))::T) a' w->WL r P ops Q rest a' w):WL r P ops Q (⟨some d,.index t x y,ty,pos,aT,g⟩::rest) a w:=by
 subst hz
 refine fH (v:=.int .u8 (s[i].toNat:Int)) (w':=w) hw M ?_<|k _<|H.put hd _ H.hp
 simp[execOp,Instr.index,asIntOf,lV ht,H.ev hx,H.ev hy,dP,hi]
theorem adO{x:Operand}{t e:TypeId}{A:Option Addr}{n c:Nat}(hs:P.underlying t=some (.slice e))(H:St N D w0 F G0 G L T a w)(hw:Region.wanted ⟨some d,.call { callee:=.builtin .len,args:=#[x],argTypes:=#[t] },ty,pos,aT,g⟩ (yielded ops a.tmps)=true)(hx:ev T x=some (.slice A n c))(hd:Nat.blt d N=true)
  (k:∀a',St N D w0 F G0 G L ((d,.int .i64 n)::T) a' w->WL r P ops Q rest a' w):WL r P ops Q (⟨some d,.call { callee:=.builtin .len,args:=#[x],argTypes:=#[t] },ty,pos,aT,g⟩::rest) a w :=
 fH (v:=.int .i64 n) (w':=w) hw M (by simp[execOp,resolve,invoke,builtin,Builtin.len_,H.ev hx,dP,lV hs,goInt]) (k _<|H.put hd _ H.hp)
theorem Gj{x:Operand}{t:TypeId}{s:ByteArray}(hs:P.underlying t=some .string)(H:St N D w0 F G0 G L T a w)(hw:Region.wanted ⟨some d,.call { callee:=.builtin .len,args:=#[x],argTypes:=#[t] },ty,pos,aT,g⟩ (yielded ops a.tmps)=true)(hx:ev T x=some (.string s))(hd:Nat.blt d N=true)
  (k:∀a',St N D w0 F G0 G L ((d,.int .i64 s.size)::T) a' w->WL r P ops Q rest a' w):WL r P ops Q (⟨some d,.call { callee:=.builtin .len,args:=#[x],argTypes:=#[t] },ty,pos,aT,g⟩::rest) a w :=
 fH (v:=.int .i64 s.size) (w':=w) hw M (by simp[execOp,resolve,invoke,builtin,Builtin.len_,H.ev hx,dP,lV hs,goInt]) (k _<|H.put hd _ H.hp)
theorem KZ{x y:Operand}{t t':TypeId}{kd:IntKind}{p q:Int}(H:St N D w0 F G0 G L T a w)(hw:Region.wanted ⟨some d,.call { callee:=.builtin .max,args:=#[x,y],argTypes:=#[t,t'] },ty,pos,aT,g⟩ (yielded ops a.tmps)=true)(hx:ev T x=some (.int kd p))(hy:ev T y=some (.int kd q))(hd:Nat.blt d N=true)
  (k:∀a',St N D w0 F G0 G L ((d,.int kd<|max p q)::T) a' w->WL r P ops Q rest a' w):WL r P ops Q (⟨some d,.call { callee:=.builtin .max,args:=#[x,y],argTypes:=#[t,t'] },ty,pos,aT,g⟩::rest) a w:=by
 refine fH (v:=.int kd<|max p q) (w':=w) hw M ?_<|k _<|H.put hd _ H.hp
 have e:(if q>p then q else p)=max p q:=by omega
 simp[execOp,resolve,invoke,builtin,Builtin.max_,Builtin.max2,H.ev hx,H.ev hy,dP,e]
theorem aqr{x y:Operand}{t t':TypeId}{kd:IntKind}{p q:Int}(H:St N D w0 F G0 G L T a w)(hw:Region.wanted ⟨some d,.call { callee:=.builtin .min,args:=#[x,y],argTypes:=#[t,t'] },ty,pos,aT,g⟩ (yielded ops a.tmps)=true)(hx:ev T x=some (.int kd p))(hy:ev T y=some (.int kd q))(hd:Nat.blt d N=true)
  (k:∀a',St N D w0 F G0 G L ((d,.int kd<|min p q)::T) a' w->WL r P ops Q rest a' w):WL r P ops Q (⟨some d,.call { callee:=.builtin .min,args:=#[x,y],argTypes:=#[t,t'] },ty,pos,aT,g⟩::rest) a w:=by
 refine fH (v:=.int kd<|min p q) (w':=w) hw M ?_<|k _<|H.put hd _ H.hp
 have e:(if q<p then q else p)=min p q:=by omega
 simp[execOp,resolve,invoke,builtin,Builtin.min_,Builtin.min2,H.ev hx,H.ev hy,dP,e]
def bD(w:World)(G:GH)(R:aj->GH->Prop):Ending->World->Prop:=fun e w'=>∃v G',e=.returned v∧Below w.heap.size w w'∧Ext w.heap.size G G' w'∧R v G'
def Hold(G:GH)(w:World):Prop:=∀k o,G k=some o->w.heap[k]?=some o
theorem s_call{f:FuncId}{xs:List Operand}{vs:List aj}{ts:Array TypeId}{R:aj->GH->Prop}(en:∀args w,(callFunc f args).run P w=.ok (.enter f args) w)(H:St N D w0 F G0 G L T a w)(hw:Region.wanted ⟨some d,.call { callee:=.value (.func f),args:=xs.toArray,argTypes:=ts },ty,pos,aT,g⟩ (yielded ops a.tmps)=true)
  (hx:evs T xs=some vs)(hc:Calls P f vs.toArray w (bD w G R))(hd:Nat.blt d N=true)
  (k:∀v G' a' w',R v G'->(∀k o,G k=some o->G' k=some o)->St N D w0 F G0 G' L ((d,v)::T) a' w'->WL r P ops Q rest a' w'):WL r P ops Q (⟨some d,.call { callee:=.value (.func f),args:=xs.toArray,argTypes:=ts },ty,pos,aT,g⟩::rest) a w:=by
 refine aeu (nx:=.ok (.enter f vs.toArray) w) (R:=bD w G R) hw M ?_ hc ?_
 ·have h1:=H.evs hx
  simp[execOp,resolve,Act.eval,Deferred.ofValue,invoke,dP,h1,en]
 ·rintro e w' ⟨v,G',rfl,hb,hX,hR⟩
  exact⟨v,M,k v G' _ w' hR hX.1<|H.put hd v<|H.hp.afA hb hX⟩
theorem bU{x y:Code}(h:∀K:Act->World->Prop,(∀a w,WP r P y Q a w->K a w)->WP r P x (Exit.then K Q) a w):WP r P (.seq x y) Q a w:=wpIn_seq_k h
theorem mF{id:Nat}{l:List Oper}(h:WL r P l.toArray Q l a w):WP r P (.region id l.toArray false) Q a w:=wpIn_region_lit h
theorem dw{id:Nat}{l:List Oper}{y:Code}(h:∀K:Act->World->Prop,(∀a w,WP r P y Q a w->WL r P l.toArray (Exit.then K Q) [] a w)->WL r P l.toArray (Exit.then K Q) l a w):WP r P (.seq (.region id l.toArray false) y) Q a w:=bU fun K hK=>mF<|h K fun a w h=>aI<|hK a w h
theorem fU(h:Q .normal a w):WP r P .skip Q a w:=wpIn_skip h
theorem eH(h:Q .ret a w):WP r P .ret Q a w:=wpIn_ret h
theorem dS{id:Nat}(h:Q (.exit id) a w):WP r P (.exit id) Q a w:=wpIn_exit h
theorem xK{id:Nat}{c:Code}(h:WP r P c (Exit.inBlock id Q) a w):WP r P (.block id c) Q a w:=wpIn_block h
theorem jU{c:Operand}{x y:Code}{b:Bool}(H:St N D w0 F G0 G L T a w)(hc:ev T c=some (.bool b))(h1:b=true->WP r P x Q a w)(h0:b=false->WP r P y Q a w):WP r P (.cond c x y) Q a w :=
 wpIn_cond_split (H.ev hc) h1 h0
theorem zR{c:Operand}{x y:Code}{b:Bool}(H:St N D w0 F G0 G L T a w)(hc:ev T c=some (.bool b))(hb:b=true)(h1:WP r P x Q a w):WP r P (.cond c x y) Q a w :=
 wpIn_cond_true (by rw[H.ev hc,hb]) h1
theorem oJ{c:Operand}{x y:Code}{b:Bool}(H:St N D w0 F G0 G L T a w)(hc:ev T c=some (.bool b))(hb:b=false)(h1:WP r P y Q a w):WP r P (.cond c x y) Q a w :=
 wpIn_cond_false (by rw[H.ev hc,hb]) h1
theorem aiN{ι:Type}{c:Code}(xj:ι->Act->World->Prop)(m:ι->Nat)(i0:ι)(h0:xj i0 a w)
  (round:∀i a w,xj i a w->WP r P c (Exit.then (fun a' w'=>∃i',xj i' a' w'∧m i'<m i) Q) a w):WP r P (.loop c) Q a w:=by
 intro b k cs hro hb hr
 have key:∀j i a w,m i=j->xj i a w->
   ∃e a' w',Q e a' w'∧ArrivesIn (Machine.fenced P<|FW r) P (lone (b.atR a (.code c::.inLoop c::k)) cs w) b k cs e a' w':=by
  intro j
  induction j using Nat.strongRecOn with
  |_ j ih=>
   intro i a w hn hI
   obtain⟨e,a₁,w₁,hq,harr⟩:=round i a w hI b (.inLoop c::k) cs hro hb hr
   cases e with
   |normal=>
    obtain⟨i',hI₁,hlt⟩:=hq
    obtain⟨e₂,a₂,w₂,hq₂,harr₂⟩:=ih (m i') (hn ▸ hlt) i' a₁ w₁ M hI₁
    exact⟨e₂,a₂,w₂,hq₂,.of_steps (StepsIn.trans harr (.one (fenced_calm hb hr M) stepR_inLoop)) harr₂⟩
   |exit id=>exact⟨_,a₁,w₁,hq,.pass (x:=.inLoop c) M (fun _ _=>.inl (by simp)) harr⟩
   |goto l=>exact⟨_,a₁,w₁,hq,.pass (x:=.inLoop c) M (fun _ _=>.inl (by simp)) harr⟩
   |ret=>exact⟨_,a₁,w₁,hq,.pass (x:=.inLoop c) M (fun _ _=>.inl (by simp)) harr⟩
   |panic ch=>exact⟨_,a₁,w₁,hq,.pass (x:=.inLoop c) M (fun _ _=>.inl (by simp)) harr⟩
   |outgrown=>exact⟨_,a₁,w₁,hq,.pass (x:=.inLoop c) M (fun _ _=>.inl (by simp)) harr⟩
 obtain⟨e,a',w',hq,harr⟩:=key _ i0 a w M h0
 exact⟨e,a',w',hq,.of_steps (.one (fenced_calm hb hr M) stepR_loop) harr⟩
theorem dY{ι:Type}{c:Code}{Tc:List (Nat×aj)}{Lc:List (Nat×Obj)}(Tv:ι->List (Nat×aj))(Lv:ι->List (Nat×Obj))(Gv:ι->GH)(Pr:ι->Prop)(m:ι->Nat)(i0:ι)
  (H:St N D w0 F G0 (Gv i0) (Lc++Lv i0) (Tv i0++Tc) a w)(hP:Pr i0)
  (round:∀i a w,Pr i->St N D w0 F G0 (Gv i) (Lc++Lv i) (Tv i++Tc) a w->
   WP r P c (Exit.then (fun a' w'=>∃i',(St N D w0 F G0 (Gv i') (Lc++Lv i') (Tv i'++Tc) a' w'∧Pr i')∧m i'<m i) Q) a w):WP r P (.loop c) Q a w :=
 aiN (fun i a w=>St N D w0 F G0 (Gv i) (Lc++Lv i) (Tv i++Tc) a w∧Pr i) m i0 ⟨H,hP⟩ fun i a w hI=>round i a w hI.2 hI.1
theorem rQ{ι:Type}{x y:Code}{Tc:List (Nat×aj)}{Lc Lr:List (Nat×Obj)}{Gh:GH}(Tv:ι->List (Nat×aj))(Lv:ι->List (Nat×Obj))(Gv:ι->GH)(Pr:ι->Prop)
  (_:St N D w0 F G0 Gh (Lc++Lr) Tc a w)(h1:WP r P x (Exit.then (fun a w=>∃i,St N D w0 F G0 (Gv i) (Lc++Lv i) (Tv i++Tc) a w∧Pr i) Q) a w)
  (h2:∀i a w,Pr i->St N D w0 F G0 (Gv i) (Lc++Lv i) (Tv i++Tc) a w->WP r P y Q a w):WP r P (.seq x y) Q a w :=
 wpIn_seq (wpIn_mono h1 fun e a w h=>by
  cases e with
  |normal=>obtain⟨i,H,hP⟩:=h;exact h2 i a w hP H
  |_=>exact h)
theorem aEI{ι:Type}{Tc:List (Nat×aj)}{Lc:List (Nat×Obj)}{Tv:ι->List (Nat×aj)}{Lv:ι->List (Nat×Obj)}{Gv:ι->GH}{Pr:ι->Prop}{m:ι->Nat}{i:ι}(i':ι)
  (H:St N D w0 F G0 (Gv i') (Lc++Lv i') (Tv i'++Tc) a w)(hP:Pr i')(hm:m i'<m i) :
  ∃i',(St N D w0 F G0 (Gv i') (Lc++Lv i') (Tv i'++Tc) a w∧Pr i')∧m i'<m i:=⟨i',⟨H,hP⟩,hm⟩
def Jq:Nat->List aj->List (Nat×aj)
 |_,[]=>[]
 |i,v::vs=>(i,v)::Jq (i+1) vs
theorem enters{f:FuncId}{fn:Func}{c:Code}(hf:P.funcs[f]?=some fn)(hb:fn.body=some c)(hname:(fn.name== "runtime.NumGoroutine")=false)(args:Array aj)(w:World):(callFunc f args).run P w=.ok (.enter f args) w:=by
 have h1:fn.name≠ "runtime.NumGoroutine":=by simpa using hname
 simp[callFunc,hf,h1,hb,mark]
theorem enter{f:FuncId}{fn:Func}{c:Code}{vs:List aj}{R:Ending->World->Prop}(hf:P.funcs[f]?=some fn)(hb:fn.body=some c)(hN:fn.ntmps=N)(hle:Nat.ble vs.length N=true)
  (hT:Jq 0 vs=T)(hG:Hold G w)(hF:∀k,F k->k<w.heap.size)(hL:∀p∈L,w.heap[p.1]?=some p.2)(hLG:∀p∈L,G p.1=none)(hLF:∀p∈L,¬F p.1)(hnd:L.Pairwise fun p q=>p.1≠q.1)
  (h:∀a,St N [] w F G G L T a w->WP none P c (bodyPostM (FW none) 0 P fn R) a w):Calls P f vs.toArray w R:=by
 refine avj (r:=none) (n:=0)<|callsIn_of_wp_marks hf hb trivial (h _ ⟨?_,?_,M,⟨M,M,M,eP _,hF,fun _ _=>rfl,hG,fun _ _ h=>h,fun _ _ h=>.inl h,hL,hLG,hLF,hnd⟩⟩) M
 ·have:=Nat.le_of_ble_eq_true hle
  simp[hN];omega
 ·intro t v ht
  have hlen:t<vs.length∧vs[t]?=some v:=by
   subst hT
   have key:∀(vs:List aj)(s:Nat),lk (Jq s vs) t=some v->s<=t∧vs[t-s]?=some v:=by
    intro vs
    induction vs with
    |nil=>intro s h;simp[Jq,lk]at h
    |cons u vs ih=>
     intro s h
     simp only[Jq]at h
     by_cases e:s=t
     ·subst e;rw[mq]at h;simpa using h
     ·rw[gL e]at h
      obtain⟨h1,h2⟩:=ih (s+1) h
      refine⟨O,?_⟩
      have:t-s=(t-(s+1))+1:=by omega
      rw[this];simpa using h2
   have:=key vs 0 ht
   simp only[fP,Nat.sub_zero,true_and]at this
   exact⟨(jJ.1 this).1,this⟩
  rw[Array.getElem?_append_left (by simpa using hlen.1)]
  simpa using hlen.2
def Oi(tmps:Array aj):ResultVar->Sem aj
 |.tmp t=>pure (tmps.getD t undef)
 |.cell a t=>do loadVar t (<-asAddr (tmps.getD a undef))
def RV(P:Program)(w:World)(tmps:Array aj)(rv:ResultVar)(v:aj):Prop:=(Oi tmps rv).run P w=.ok v w
theorem cK(H:St N D w0 F G0 G L T a w){t:Nat}{v:aj}(h:lk T t=some v):RV P w a.tmps (.tmp t) v:=by
 have:=H.ev (x:=.tmp t) h
 simp only[Act.eval]at this
 simp[RV,Oi,this]
theorem vk{t:TypeId}{sz bytes:Nat}{zero:List aj}(ht:Ty P t sz bytes zero true)(H:St N D w0 F G0 G L T a w){s b o:Nat}{cs:List aj}(h:lk T s=some (.pointer<|some ⟨b,o,none⟩))(hl:cs.length=sz)(hc:∀j v,cs[j]?=some v->w.cell? ⟨b,o+j,none⟩=some v) :
  RV P w a.tmps (.cell s t) (.agg cs.toArray):=by
 have:=H.ev (x:=.tmp s) h
 simp only[Act.eval]at this
 have h1:=run_loadCells (P:=P) b w cs o 0 #[] (fun j v hj=>by simpa using hc j v hj)
 simp only[Array.empty_append,hl]at h1
 simp[RV,Oi,this,asAddr,loadVar,dP,ht.WQ,ht.EB,loadCells,h1]
theorem AA{t:TypeId}{sz bytes:Nat}{zero:List aj}(ht:Ty P t sz bytes zero false)(H:St N D w0 F G0 G L T a w){s b o:Nat}{v:aj}(h:lk T s=some (.pointer<|some ⟨b,o,none⟩))(hc:w.cell? ⟨b,o,none⟩=some v) :
  RV P w a.tmps (.cell s t) v:=by
 have:=H.ev (x:=.tmp s) h
 simp only[Act.eval]at this
 simp only[RV,Oi,this,asAddr,loadVar,dP,ht.WQ,kY,rO,zJ,if_false,adC hc]
inductive GY(P:Program)(w:World)(tmps:Array aj):List ResultVar->List aj->Prop
 |nil:GY P w tmps [] []
 |cons {rv rs v vs}:RV P w tmps rv v->GY P w tmps rs vs->GY P w tmps (rv::rs) (v::vs)
def adq:List aj->aj
 |[v]=>v
 |vs=>.tuple vs.toArray
theorem aGN{fn:Func}{rs:List ResultVar}{vs:List aj}{tmps:Array aj}(hr:fn.results=rs.toArray)(h:GY P w tmps rs vs):(results fn tmps).run P w=.ok (adq vs) w:=by
 have hm:∀{rs:List ResultVar}{vs:List aj},GY P w tmps rs vs->(rs.mapM<|Oi tmps).run P w=.ok vs w:=by
  intro rs vs h
  induction h with
  |nil=>simp
  |cons h1 _ ih=>
   unfold RV at h1
   simp only[List.mapM_cons,dP,h1,kY,ih,rO]
 have hm':=hm h
 have hres:results fn tmps=(do let vs <-fn.results.mapM (Oi tmps);pure (if h:vs.size=1 then vs[0]else .tuple vs)):=rfl
 rw[hres,hr,Array.mapM_eq_mapM_toList]
 simp only[map_eq_pure_bind,dP,hm',kY,rO]
 match vs with
 |[]=>rfl
 |[v]=>rfl
 |v::u::vs=>simp[adq]
theorem leave{fn:Func}{rs:List ResultVar}{vs:List aj}{R:Ending->World->Prop}(v:aj)(H:St N [] w0 F G0 G L T a w)(hr:fn.results=rs.toArray)(h:GY P w a.tmps rs vs)(hv:adq vs=v)(hR:R (.returned v) w) :
  bodyPostM (FW none) 0 P fn R .ret a w∧bodyPostM (FW none) 0 P fn R .normal a w:=by
 subst hv
 have h1:LeavesInM (FW none) 0 P fn a.tmps R a.defers .returning w:=by
  rw[H.uS]
  exact⟨_,aGN hr h,hR⟩
 exact⟨h1,h1⟩
theorem leave0{fn:Func}{R:Ending->World->Prop}(H:St N [] w0 F G0 G L T a w)(hr:fn.results=#[])(hR:R (.returned (.tuple #[])) w) :
  bodyPostM (FW none) 0 P fn R .ret a w∧bodyPostM (FW none) 0 P fn R .normal a w:=leave (rs:=[]) _ H hr .nil M hR
theorem leave1{fn:Func}{rs:List ResultVar}{v:aj}{R:Ending->World->Prop}(H:St N [] w0 F G0 G L T a w)(hr:fn.results=rs.toArray)(h:GY P w a.tmps rs [v])(hR:R (.returned v) w) :
  bodyPostM (FW none) 0 P fn R .ret a w∧bodyPostM (FW none) 0 P fn R .normal a w:=leave _ H hr h M hR
theorem gV{fn:Func}{rs:List ResultVar}{v u:aj}{vs:List aj}{R:Ending->World->Prop}(H:St N [] w0 F G0 G L T a w)(hr:fn.results=rs.toArray)(h:GY P w a.tmps rs (v::u::vs))(hR:R (.returned (.tuple (v::u::vs).toArray)) w) :
  bodyPostM (FW none) 0 P fn R .ret a w∧bodyPostM (FW none) 0 P fn R .normal a w:=leave _ H hr h M hR
theorem Hp.ret{R:aj->GH->Prop}{v:aj}(h:Hp w0 (fun k=>k<w0.heap.size) G0 G L w)(hR:R v G):bD w0 G0 R (.returned v) w :=
 ⟨v,G,rfl,⟨h.os,h.tape,h.output,h.size,h.fr⟩,⟨h.gm,fun k o hk=>(h.gx k o hk).imp id (fun hn=>Nat.le_of_not_lt hn),h.ro⟩,hR⟩
end steps
end
section
abbrev OL:=List (Nat×Obj)
structure fZ(G:GH)(L:OL)(w:World):Prop where
 ro:Hold G w
 own:∀p∈L,w.heap[p.1]?=some p.2
 sep:∀p∈L,G p.1=none
 nd:L.Pairwise fun p q=>p.1≠q.1
structure Change(w w':World)(G G':GH)(L L':OL):Prop where
 os:w'.os=w.os
 tape:w'.tape=w.tape
 output:w'.output=w.output
 size:w.heap.size<=w'.heap.size
 fr:∀k,k<w.heap.size->(∀p∈L,p.1≠k)->w'.heap[k]?=w.heap[k]?
 gm:∀k o,G k=some o->G' k=some o
 gx:∀k o,G' k=some o->G k=some o∨w.heap.size<=k∨∃p∈L,p.1=k
 owns:fZ G' L' w'
 lx:∀p∈L',w.heap.size<=p.1∨∃q∈L,q.1=p.1
def Fr(w:World)(L0:OL):Nat->Prop:=fun k=>k<w.heap.size∧∀p∈L0,p.1≠k
section
variable{N:Nat}{D:List Deferred}{w0 w w':World}{F:Nat->Prop}{G0 G G':GH}{L L' Li L0:OL}{T:List (Nat×aj)}{a:Act}
theorem Hp.owns(h:Hp w0 F G0 G (Li++L) w):fZ G L w :=
 ⟨h.ro,fun p hp=>h.own p (List.mem_append_right _ hp),fun p hp=>h.vV p (List.mem_append_right _ hp),(List.pairwise_append.1 h.nd).2.1⟩
theorem Hp.change(h:Hp w0 F G0 G (Li++L) w)(hc:Change w w' G G' L L'):Hp w0 F G0 G' (Li++L') w':=by
 have hnd:=List.pairwise_append.1 h.nd
 have hFs:∀k,F k->k<w.heap.size:=fun k hk=>Nat.lt_of_lt_of_le (h.xR k hk) h.size
 have Nb:∀p∈Li,p.1<w.heap.size∧∀q∈L,q.1≠p.1:=fun p hp=>⟨lt_of_heap (h.own p<|List.mem_append_left _ hp),fun q hq e=>hnd.2.2 p hp q hq e.symm⟩
 refine⟨hc.os.trans h.os,hc.tape.trans h.tape,hc.output.trans h.output,Nat.le_trans h.size hc.size,h.xR,fun k hk=>?_,hc.owns.ro,fun k o hk=>hc.gm k o (h.gm k o hk),fun k o hk=>?_,fun p hp=>?_,fun p hp=>?_,fun p hp=>?_,?_⟩
 ·exact(hc.fr k (hFs k hk) fun p hp e=>h.vU p (List.mem_append_right _ hp)<|e ▸ hk).trans<|h.fr k hk
 ·rcases hc.gx k o hk with hk|hk|⟨p,hp,rfl⟩
  ·exact h.gx k o hk
  ·exact .inr fun hf=>absurd (hFs k hf) O
  ·exact .inr<|h.vU p<|List.mem_append_right _ hp
 ·rcases iF.1 hp with hp|hp
  ·exact(hc.fr _ (Nb p hp).1 (Nb p hp).2).trans<|h.own p<|List.mem_append_left _ hp
  ·exact hc.owns.own p hp
 ·rcases iF.1 hp with hp|hp
  ·cases hg:G' p.1 with
   |none=>rfl
   |some o=>
    rcases hc.gx _ o hg with hk|hk|⟨q,hq,e⟩
    ·rw[h.vV p<|List.mem_append_left _ hp]at hk;cases hk
    ·exact absurd (Nb p hp).1 O
    ·exact absurd e ((Nb p hp).2 q hq)
  ·exact hc.owns.sep p hp
 ·rcases iF.1 hp with hp|hp
  ·exact h.vU p<|List.mem_append_left _ hp
  ·rcases hc.lx p hp with hk|⟨q,hq,e⟩
   ·exact fun hf=>absurd (hFs _ hf) O
   ·exact e ▸ h.vU q (List.mem_append_right _ hq)
 ·refine List.pairwise_append.2 ⟨hnd.1,hc.owns.nd,fun p hp q hq e=>?_⟩
  rcases hc.lx q hq with hk|⟨q',hq',e'⟩
  ·have:=(Nb p hp).1;omega
  ·exact(Nb p hp).2 q' hq'<|e'.trans e.symm
theorem Hp.arl(h:Hp w0 (Fr w0 L0) G0 G L w):Change w0 w G0 G L0 L:=by
 have hn:∀k,¬Fr w0 L0 k->w0.heap.size<=k∨∃p∈L0,p.1=k:=by
  intro k hk
  by_cases hlt:k<w0.heap.size
  ·right
   apply Classical.byContradiction
   intro hno;exact hk ⟨hlt,fun p hp e=>hno ⟨p,hp,e⟩⟩
  ·exact .inl O
 exact⟨h.os,h.tape,h.output,h.size,fun k h1 h2=>h.fr k ⟨h1,h2⟩,h.gm,fun k o hk=>(h.gx k o hk).imp id (hn k),⟨h.ro,h.own,h.vV,h.nd⟩,fun p hp=>hn _<|h.vU p hp⟩
theorem fZ.hp(h:fZ G L w):Hp w (Fr w L) G G L w :=
 ⟨rfl,rfl,rfl,eP _,fun _ hk=>hk.1,fun _ _=>rfl,h.ro,fun _ _ h=>h,fun _ _ h=>.inl h,h.own,h.sep,fun p hp hf=>hf.2 p hp M,h.nd⟩
theorem Change.trans{w2:World}{G2:GH}{L2:OL}(h1:Change w w' G G' L L')(h2:Change w' w2 G' G2 L' L2)(hG:Hold G w)(hL:∀p∈L,p.1<w.heap.size):Change w w2 G G2 L L2:=by
 refine⟨h2.os.trans h1.os,h2.tape.trans h1.tape,h2.output.trans h1.output,Nat.le_trans h1.size h2.size,fun k hk hn=>?_,fun k o hk=>h2.gm k o (h1.gm k o hk),fun k o hk=>?_,h2.owns,fun p hp=>?_⟩
 ·refine(h2.fr k (Nat.lt_of_lt_of_le hk h1.size) fun p hp e=>?_).trans<|h1.fr k hk hn
  rcases h1.lx p hp with hk'|⟨q,hq,e'⟩
  ·omega
  ·exact hn q hq<|e'.trans e
 ·rcases h2.gx k o hk with hk|hk|⟨p,hp,rfl⟩
  ·exact h1.gx k o hk
  ·exact .inr (.inl<|Nat.le_trans h1.size hk)
  ·rcases h1.lx p hp with hk'|⟨q,hq,e'⟩
   ·exact .inr (.inl hk')
   ·exact .inr (.inr ⟨q,hq,e'⟩)
 ·rcases h2.lx p hp with hk|⟨q,hq,e⟩
  ·exact .inl<|Nat.le_trans h1.size hk
  ·rcases h1.lx q hq with hk'|⟨q',hq',e'⟩
   ·exact .inl<|e ▸ hk'
   ·exact .inr ⟨q',hq',e'.trans e⟩
theorem Hp.perm(h:Hp w0 F G0 G L w)(hp:L.Perm L'):Hp w0 F G0 G L' w :=
 ⟨h.os,h.tape,h.output,h.size,h.xR,h.fr,h.ro,h.gm,h.gx,fun p hq=>h.own p (hp.mem_iff.2 hq),fun p hq=>h.vV p (hp.mem_iff.2 hq),fun p hq=>h.vU p (hp.mem_iff.2 hq),(hp.pairwise_iff<|fun{x y}(h:x.1≠y.1)e=>h e.symm).1 h.nd⟩
theorem St.perm(h:St N D w0 F G0 G L T a w)(hp:L.Perm L'):St N D w0 F G0 G L' T a w:=⟨h.nX,h.get,h.uS,h.hp.perm hp⟩
def fG(w:World)(G:GH)(L:OL)(R:aj->GH->OL->Prop):Ending->World->Prop:=fun e w'=>∃v G' L',e=.returned v∧Change w w' G G' L L'∧R v G' L'
theorem Hp.gX{R:aj->GH->OL->Prop}{v:aj}(h:Hp w0 (Fr w0 L0) G0 G L w)(hR:R v G L):fG w0 G0 L0 R (.returned v) w:=⟨v,G,L,M,h.arl,hR⟩
end
section steps
variable{N:Nat}{D:List Deferred}{w0:World}{F:Nat->Prop}{G0 G:GH}{L Li L0:OL}{T:List (Nat×aj)}
variable{r:Option Nat}{P:Program}{ops:Array Oper}{Q:Exit->Act->World->Prop}{rest:List Oper}{a:Act}{w:World}
variable{d:Nat}{ty:TypeId}{pos:String}{aT:Array Edge}{g:Option (Nat×Bool)}
theorem kJ{f:FuncId}{caps args:List aj}{R:Ending->World->Prop}(en:∀args w,(callFunc f args).run P w=.ok (.enter f args) w)(h:Calls P f (args++caps).toArray w R):uN P (.func (.func f) #[] caps.toArray) args w R:=by
 refine⟨?_⟩
 have e:(do let d <-Deferred.ofValue (.func (.func f) #[] caps.toArray) args.toArray;invoke d.target d.args:Sem Next).run P w=.ok (.enter f (args++caps).toArray) w:=by
  simp[Deferred.ofValue,dP,invoke,en]
 rw[e]
 exact h
theorem BM{x:Operand}{fv:aj}{xs:List Operand}{vs:List aj}{ts:Array TypeId}{R:aj->GH->OL->Prop}(H:St N D w0 F G0 G (Li++L) T a w)(hw:Region.wanted ⟨some d,.call { callee:=.value x,args:=xs.toArray,argTypes:=ts },ty,pos,aT,g⟩ (yielded ops a.tmps)=true)
  (hf:ev T x=some fv)(hx:evs T xs=some vs)(hc:uN P fv vs w (fG w G L R))(hd:Nat.blt d N=true)
  (k:∀v G' L' a' w',R v G' L'->(∀k o,G k=some o->G' k=some o)->St N D w0 F G0 G' (Li++L') ((d,v)::T) a' w'->WL r P ops Q rest a' w'):WL r P ops Q (⟨some d,.call { callee:=.value x,args:=xs.toArray,argTypes:=ts },ty,pos,aT,g⟩::rest) a w:=by
 refine aeu (nx:=_) (R:=fG w G L R) hw M M ?_ ?_
 ·have h1:=H.evs hx
  have e:(execOp a.eval ⟨some d,.call { callee:=.value x,args:=xs.toArray,argTypes:=ts },ty,pos,aT,g⟩)=(do let d <-Deferred.ofValue fv vs.toArray;invoke d.target d.args:Sem Next):=by
   simp only[execOp,resolve,H.ev hf,List.map_toArray,h1]
  rw[e]
  exact hc.go
 ·rintro e w' ⟨v,G',L',rfl,hb,hR⟩
  exact⟨v,M,k v G' L' _ w' hR hb.gm<|H.put hd v<|H.hp.change hb⟩
theorem gM{f:FuncId}{xs:List Operand}{vs:List aj}{ts:Array TypeId}{R:aj->GH->OL->Prop}(en:∀args w,(callFunc f args).run P w=.ok (.enter f args) w)(H:St N D w0 F G0 G (Li++L) T a w)(hw:Region.wanted ⟨some d,.call { callee:=.value (.func f),args:=xs.toArray,argTypes:=ts },ty,pos,aT,g⟩ (yielded ops a.tmps)=true)
  (hx:evs T xs=some vs)(hc:Calls P f vs.toArray w (fG w G L R))(hd:Nat.blt d N=true)
  (k:∀v G' L' a' w',R v G' L'->(∀k o,G k=some o->G' k=some o)->St N D w0 F G0 G' (Li++L') ((d,v)::T) a' w'->WL r P ops Q rest a' w'):WL r P ops Q (⟨some d,.call { callee:=.value (.func f),args:=xs.toArray,argTypes:=ts },ty,pos,aT,g⟩::rest) a w:=by
 refine BM (fv:=.func (.func f) #[] #[]) H hw M hx ?_ hd k
 have h:=kJ (caps:=[]) (args:=vs) en (by simpa using hc)
 exact h
abbrev AP:=List aj->GH->Prop
def zD(xs:List AP)(k:Nat)(args:List aj)(g:GH):Prop:=∃p,xs[k]?=some p∧p args g
def OQ(P:Program)(fv:aj)(Gi:GH)(xs:List AP)(J:Nat->GH->OL->Prop)(Jx:GH->OL->Prop):Prop :=
 ∀k args G L w,zD xs k args G->(∀b o,Gi b=some o->G b=some o)->J k G L->fZ G L w->
  uN P fv args w (fG w G L fun v G' L'=>∃b,v=.bool b∧(b=true->J (k+1) G' L')∧(b=false->Jx G' L'))
def GX(J:Nat->GH->OL->Prop):Prop:=∀k(G G':GH)L,(∀b o,G b=some o->G' b=some o)->J k G L->J k G' L
def Ma(J:GH->OL->Prop):Prop:=∀(G G':GH)L,(∀b o,G b=some o->G' b=some o)->J G L->J G' L
def Iter(P:Program)(Gi:GH)(gv:aj)(xs:List AP):Prop :=
 ∀(J:Nat->GH->OL->Prop)(Jx:GH->OL->Prop)(fv:aj)(G:GH)(L:OL)(w:World),fv.cells=#[fv]->(∀b o,Gi b=some o->G b=some o)->GX J->Ma Jx->J 0 G L->fZ G L w->OQ P fv G xs J Jx->
  uN P gv [fv] w (fG w G L fun _ G' L'=>J xs.length G' L'∨Jx G' L')
theorem Iter.mono{Gi GV:GH}{gv:aj}{xs:List AP}(h:Iter P Gi gv xs)(hm:∀b o,Gi b=some o->GV b=some o):Iter P GV gv xs :=
 fun J Jx fv G L w h0 h1=>h J Jx fv G L w h0 fun b o hb=>h1 b o<|hm b o hb
def yJ:List Nat->List aj->List (Nat×aj)->List (Nat×aj)
 |p::ps,v::vs,T=>yJ ps vs ((p,v)::T)
 |_,_,T=>T
theorem aqY:∀(ps:List Nat)(vs:List aj)(T:List (Nat×aj))(tm:Array aj),tm.size=N->(∀t v,lk T t=some v->tm[t]?=some v)->ps.all (Nat.blt · N)=true->
  ((ps.zip vs).foldl (fun t(x:Nat×aj)=>t.setIfInBounds x.1 x.2) tm).size=N∧∀t v,lk (yJ ps vs T) t=some v->((ps.zip vs).foldl (fun t(x:Nat×aj)=>t.setIfInBounds x.1 x.2) tm)[t]?=some v
 |[],_,T,tm,h1,h2,_=>⟨h1,by simpa[yJ]using h2⟩
 |p::ps,[],T,tm,h1,h2,_=>⟨h1,by simpa[yJ]using h2⟩
 |p::ps,v::vs,T,tm,h1,h2,h3=>by
  simp only[List.all_cons,kV]at h3
  have hp:p<tm.size:=by rw[h1];exact Eq.mp Nat.blt_eq h3.1
  simp only[List.zip_cons_cons,List.foldl_cons,yJ]
  refine aqY ps vs _ _ (by simpa using h1) (fun t u ht=>?_) h3.2
  rw[Array.getElem?_setIfInBounds]
  by_cases e:p=t
  ·subst e;rw[mq]at ht;simp[hp];simpa using ht
  ·rw[gL e]at ht;simp[e];exact h2 t u ht
structure Rec where
 fn:FuncId
 tmps:Array aj
 params:Array Tmp
 assign:Code
 body:Code
 defers:Nat
def Rec.at(q:Rec)(s:LoopState)(p:Option Code):Obj:=.loop { state:=s,pending:=p,fn:=q.fn,tmps:=q.tmps,params:=q.params,assign:=q.assign,body:=q.body,defers:=q.defers }
def CbR(w1:World)(G:GH)(L:OL)(Jn:GH->OL->Prop)(Jx:GH->OL->Prop):Ending->World->Prop:=fG w1 G L fun v G' L'=>∃b,v=.bool b∧(b=true->Jn G' L')∧(b=false->Jx G' L')
theorem IZ{b:Nat}{o:Obj}(o':Obj)(h:w.heap[b]?=some o):xE b o' w (w.putObj b o') :=
 ⟨rfl,rfl,rfl,World.putObj_size,World.putObj_heap_same (lt_of_heap h),fun _ hk=>World.putObj_heap_other hk⟩
theorem aiK{l:Nat}{q:Rec}{c:Code}{R:Ending->World->Prop}(H:St N D w0 F G0 G ((l,q.at .ready none)::L) T a w)
  (k:∀w',St N D w0 F G0 G ((l,q.at .busy none)::L) T a w'->WP (some l) P c (roundPost P l R) a w') :
  ∃w₂,(Instr.beginRound l).run P w=.ok () w₂∧c.wpIn (FW<|some l) 0 P (roundPost P l R) a w₂:=by
 have hl:=H.hp.own _<|fJ
 exact⟨_,run_beginRound hl M,k _<|H.move<|H.hp.upd (i:=0) M<|IZ _ hl⟩
theorem Oe{l:Nat}{q:Rec}{w1:World}{G1:GH}{L1:OL}{Jn Jx:GH->OL->Prop}(jump:Option Code)(H:St N D w1 (Fr w1 L1) G1 G ((l,q.at .busy none)::L) T a w)
  (h:match jump with|none=>Jn G ((l,q.at .ready none)::L)|some c=>Jx G ((l,q.at .done (some c))::L)) :
  ∃v w',(Instr.endRound l jump).run P w=.ok v w'∧CbR w1 G1 L1 Jn Jx (.returned v) w':=by
 have hl:=H.hp.own _<|fJ
 refine⟨_,_,run_endRound jump hl,?_⟩
 cases jump with
 |none=>exact Hp.gX (H.hp.upd (i:=0) M<|IZ _ hl) ⟨true,M,fun _=>h,fun e=>by cases e⟩
 |some c=>exact Hp.gX (H.hp.upd (i:=0) M<|IZ _ hl) ⟨false,M,fun e=>(by cases e),fun _=>h⟩
def Jr(l:Nat)(q:Rec)(bk:OL)(J:GH->OL->Prop):GH->OL->Prop:=fun G L=>∃Lu,L=(l,q.at .ready none)::(bk++Lu)∧J G Lu
def SN(l:Nat)(q:Rec)(bk:OL)(Jx:Code->GH->OL->Prop):GH->OL->Prop:=fun G L=>∃c Lu,L=(l,q.at .done (some c))::(bk++Lu)∧Jx c G Lu
def Yg(P:Program)(N:Nat)(ps:List Nat)(assign body:Code)(T:List (Nat×aj))(G:GH)(J:Nat->GH->OL->Prop)(Jx:Code->GH->OL->Prop)(xs:List AP):Prop :=
 ∀(l:Nat)(q:Rec)(bk:OL)(k:Nat)(args:List aj)(G1:GH)(L1:OL)(w1:World)(a1:Act),zD xs k args G1->(∀b o,G b=some o->G1 b=some o)->J k G1 L1->
  St N [] w1 (Fr w1 ((l,q.at .ready none)::(bk++L1))) G1 G1 ((l,q.at .ready none)::(bk++L1)) (yJ ps args T) a1 w1->
  WP (some l) P assign (Exit.then (fun a2 w2=>∃w3,(Instr.beginRound l).run P w2=.ok () w3∧body.wpIn (FW (some l)) 0 P (roundPost P l (CbR w1 G1 ((l,q.at .ready none)::(bk++L1)) (Jr l q bk (J (k+1))) (SN l q bk Jx))) a2 w3) (fun _ _ _=>False)) a1 w1
theorem aiO{fn:FuncId}{tm:Array aj}{ps:List Nat}{assign body:Code}{df l:Nat}{bk:OL}{J:Nat->GH->OL->Prop}{Jx:Code->GH->OL->Prop}{xs:List AP}(h1:tm.size=N)(h2:∀t v,lk T t=some v->tm[t]?=some v)
  (hps:ps.all (Nat.blt · N)=true)(hlen:∀k args g,zD xs k args g->args.length=ps.length)(hr:Yg P N ps assign body T G J Jx xs) :
  OQ P (.func (.yield l) #[] #[]) G xs (fun k=>Jr l ⟨fn,tm,ps.toArray,assign,body,df⟩ bk<|J k) (SN l ⟨fn,tm,ps.toArray,assign,body,df⟩ bk Jx):=by
 intro k args G1 L1 w1 hk hm hJ ho
 obtain⟨Lu,rfl,hJ⟩:=hJ
 have hl:=ho.own _<|fJ
 have hargs:args.toArray.size=ps.toArray.size:=by simpa using hlen k args _ hk
 have hy:=run_yield (P:=P) (args:=args.toArray) hl hargs
 have hz:(ps.toArray.zip args.toArray).foldl (fun tmps(x:Nat×aj)=>tmps.setIfInBounds x.1 x.2) tm=(ps.zip args).foldl (fun t(x:Nat×aj)=>t.setIfInBounds x.1 x.2) tm:=by
  simp[List.zip_toArray]
 obtain⟨z1,z2⟩:=aqY ps args T tm h1 h2 hps
 refine⟨?_⟩
 have e:(do let d <-Deferred.ofValue (.func (.yield l) #[] #[]) args.toArray;invoke d.target d.args:Sem Next).run P w1=.ok (.round l fn ((ps.zip args).foldl (fun t(x:Nat×aj)=>t.setIfInBounds x.1 x.2) tm) assign body) w1:=by
  simp only[Deferred.ofValue,pure_bind,invoke,Array.empty_append]
  rw[<-hz]
  exact hy
 rw[e]
 exact roundIn_of_wpIn (F:=FW none) trivial<|hr l _ bk k args G1 Lu w1 { tmps:=_,defers:=[] } hk hm hJ ⟨z1,z2,M,ho.hp⟩
theorem avf{Cw:Operand}{ps:List Nat}{assign body:Code}{gf:FuncId}{caps:List aj}{xs:List AP}{Gi:GH}
  (H:St N D w0 F G0 G L T a w)(hg:ev T Cw=some (.func (.func gf) #[] caps.toArray))(en:∀args w,(callFunc gf args).run P w=.ok (.enter gf args) w)(hit:Iter P Gi (.func (.func gf) #[] caps.toArray) xs)(hGi:∀b o,Gi b=some o->G b=some o)
  (hps:ps.all (Nat.blt · N)=true)(hlen:∀k args g,zD xs k args g->args.length=ps.length)
  (J:Nat->GH->OL->Prop)(Jx:Code->GH->OL->Prop)(wK:GX J)(hJx:∀c,Ma<|Jx c)(h0:J 0 G L)(ace:Yg P N ps assign body T G J Jx xs)
  (hdone:∀Dk G1 L1 a1 w1,(∀b o,G b=some o->G1 b=some o)->J xs.length G1 L1->St N ({ target:=.collected Dk,args:=#[] }::D) w0 F G0 G1 ((Dk,.deferred<|some [])::L1) T a1 w1->Q .normal a1 w1)
  (hstop:∀Dk c G1 L1 a1 w1,(∀b o,G b=some o->G1 b=some o)->Jx c G1 L1->St N ({ target:=.collected Dk,args:=#[] }::D) w0 F G0 G1 ((Dk,.deferred<|some [])::L1) T a1 w1->WP none P c Q a1 w1) :
  WP none P (.rangeFunc Cw ps.toArray assign body) Q a w:=by
 refine wpIn_rangeFunc ?_
 intro fn _
 have hev:=H.ev hg
 let q:Rec:=⟨fn,a.tmps,ps.toArray,assign,body,w.heap.size⟩
 obtain⟨W1,hW1⟩:∃W1,W1=(w.alloc (.deferred<|some [])).alloc (q.at .ready none):=⟨_,M⟩
 have H1:Hp w0 F G0 G ((w.heap.size+1,q.at .ready none)::(w.heap.size,.deferred<|some [])::L) W1:=by
  have:=(H.hp.alloc (.deferred<|some [])).alloc<|q.at .ready none
  rw[World.size_alloc]at this
  rw[hW1];exact this
 refine⟨w.heap.size+1,[{ target:=.collected w.heap.size,args:=#[] }],W1,{ target:=.fn (.func gf) caps.toArray,args:=#[.func (.yield<|w.heap.size+1) #[] #[]] },W1,gf,
  #[.func (.yield<|w.heap.size+1) #[] #[]]++caps.toArray,W1,by rw[hW1];exact run_enterLoop_outer fn a.tmps ps.toArray assign body,?_,fun _ _=>trivial,?_,SK none,?_⟩
 ·simp only[resolve,rangeCall,hev]
  simp[Deferred.ofValue,Act.eval]
 ·simp[invoke,en]
 ·have hcv:=hit (fun k=>Jr (w.heap.size+1) q [(w.heap.size,.deferred<|some [])]<|J k) (SN (w.heap.size+1) q [(w.heap.size,.deferred<|some [])] Jx) (.func (.yield<|w.heap.size+1) #[] #[]) G
   ((w.heap.size+1,q.at .ready none)::(w.heap.size,.deferred<|some [])::L) W1 rfl hGi (fun k G G' L hm⟨Lu,e,h⟩=>⟨Lu,e,wK k G G' Lu hm h⟩) (fun G G' L hm⟨c,Lu,e,h⟩=>⟨c,Lu,e,hJx c G G' Lu hm h⟩) ⟨L,M,h0⟩ (Hp.owns (Li:=[]) H1) (aiO H.nX H.get hps hlen ace)
  replace hcv:=hcv.go
  have e:(do let d <-Deferred.ofValue (.func (.func gf) #[] caps.toArray) [Value.func (.yield<|w.heap.size+1) #[] #[]].toArray;invoke d.target d.args:Sem Next).run P W1=.ok (.enter gf (#[.func (.yield<|w.heap.size+1) #[] #[]]++caps.toArray)) W1:=by
   simp[Deferred.ofValue,invoke,en]
  rw[e]at hcv
  refine(ZX hcv).mono ?_
  rintro e w2 ⟨v,G2,L2,rfl,hch,hJ⟩
  have H2:=Hp.change (Li:=[]) H1 hch
  rcases hJ with⟨Lu,rfl,hJ⟩|⟨c,Lu,rfl,hJ⟩
  ·have hl:=H2.own _<|fJ
   have H3:=(H2.upd (i:=0) M<|IZ (q.at .exhausted none) hl).drop<|E5 _ _
   exact⟨none,_,run_endLoop hl (by simp),hdone _ G2 Lu _ _ hch.gm hJ ⟨H.nX,H.get,by simp[H.uS],H3⟩⟩
  ·have hl:=H2.own _<|fJ
   have H3:=(H2.upd (i:=0) M<|IZ (q.at .exhausted (some c)) hl).drop<|E5 _ _
   exact⟨some c,_,run_endLoop hl (by simp),hstop _ c G2 Lu _ _ hch.gm hJ ⟨H.nX,H.get,by simp[H.uS],H3⟩⟩
theorem Iu{fn:Func}{R:Ending->World->Prop}{b:Nat}(H:St N ({ target:=.collected b,args:=#[] }::D) w0 F G0 G L T a w)(i:Nat)(hi:L[i]?=some (b,.deferred<|some []))
  (k:∀a' w',St N D w0 F G0 G (L.eraseIdx i) T a' w'->bodyPostM (FW none) 0 P fn R .ret a' w'):bodyPostM (FW none) 0 P fn R .ret a w∧bodyPostM (FW none) 0 P fn R .normal a w:=by
 have hb:=H.hp.own _<|lZ hi
 have H2:=(H.hp.upd hi<|IZ (.deferred none) hb).drop (L':=L.eraseIdx i) (by
  have h1:(L.set i (b,.deferred none)).eraseIdx i=L.eraseIdx i:=by
   apply List.ext_getElem?
   intro j
   simp only[List.getElem?_eraseIdx,List.getElem?_set]
   split <;>split <;>first|rfl|omega
  rw[<-h1];exact List.eraseIdx_sublist _ _)
 have hk:=k { a with defers:=D } _ ⟨H.nX,H.get,M,H2⟩
 have h1:LeavesInM (FW none) 0 P fn a.tmps R a.defers .returning w:=by
  rw[H.uS]
  exact⟨by simp,.inl ⟨b,_,M,run_takeDeferred hb,hk⟩⟩
 exact⟨h1,h1⟩
theorem St.giveUp{b:Nat}{o:Obj}(h:St N D w0 F G0 G L T a w)(i:Nat)(hi:L[i]?=some (b,o)):St N D w0 F G0 (G.add b o) (L.eraseIdx i) T a w:=⟨h.nX,h.get,h.uS,h.hp.giveUp i hi⟩
theorem St.alQ{b:Nat}{o:Obj}(h:St N D w0 F G0 G L T a w)(i:Nat)(hi:L[i]?=some (b,o)):G b=none:=h.hp.vV _<|lZ hi
theorem iY{f:FuncId}{fn:Func}{c:Code}{vs:List aj}{R:Ending->World->Prop}(hf:P.funcs[f]?=some fn)(hb:fn.body=some c)(hN:fn.ntmps=N)(hle:Nat.ble vs.length N=true)
  (hT:Jq 0 vs=T)(ho:fZ G L w)(h:∀a,St N [] w (Fr w L) G G L T a w->WP none P c (bodyPostM (FW none) 0 P fn R) a w):Calls P f vs.toArray w R :=
 enter hf hb hN hle hT ho.ro (fun _ hk=>hk.1) ho.own ho.sep (fun p hp hf=>hf.2 p hp M) ho.nd h
end steps
end
inductive Dat where
 |lf (v:aj)
 |sl (sz:Nat) (rows:List (List Dat))
mutual
def av(G:GH):Dat->aj->Prop
 |.lf u,v=>v=u∧Value.oneCell' u=true
 |.sl sz rows,v=>∃A c,v=.slice A rows.length c∧rows.length<=c∧c<=maxLen∧(rows≠[]->∃b o,A=some ⟨b,o,none⟩∧nV G sz b o rows)
def nV(G:GH)(sz b:Nat):Nat->List (List Dat)->Prop
 |_,[]=>True
 |o,r::rs=>(∃cs,cs.length=sz∧(∀j v,cs[j]?=some v->aJ G b (o+j)=some v)∧bg G r cs)∧nV G sz b (o+sz) rs
def bg(G:GH):List Dat->List aj->Prop
 |[],cs=>cs=[]
 |d::ds,cs=>∃v vs,cs=v::vs∧av G d v∧bg G ds vs
end
theorem aH{G G':GH}(hm:∀k o,G k=some o->G' k=some o){b o:Nat}{v:aj}(h:aJ G b o=some v):aJ G' b o=some v:=by
 unfold aJ at h|-
 cases hg:G b with
 |none=>rw[hg]at h;cases h
 |some ob=>rw[hg]at h;rw[hm b ob hg];exact h
mutual
theorem av.mono{G G':GH}(hm:∀k o,G k=some o->G' k=some o):∀{d:Dat}{v:aj},av G d v->av G' d v
 |.lf u,v,h=>by simpa[av]using h
 |.sl sz rows,v,h=>by
  simp only[av]at h|-
  obtain⟨A,c,h1,h2,h3,h4⟩:=h
  exact⟨A,c,h1,h2,h3,fun hn=>let⟨b,o,e,hr⟩:=h4 hn;⟨b,o,e,nV.mono hm hr⟩⟩
theorem nV.mono{G G':GH}(hm:∀k o,G k=some o->G' k=some o){sz b:Nat}:∀{rows:List (List Dat)}{o:Nat},nV G sz b o rows->nV G' sz b o rows
 |[],o,_=>by simp[nV]
 |r::rs,o,h=>by
  simp only[nV]at h|-
  obtain⟨⟨cs,h1,h2,h3⟩,h4⟩:=h
  exact⟨⟨cs,h1,fun j v hj=>aH hm (h2 j v hj),bg.mono hm h3⟩,nV.mono hm h4⟩
theorem bg.mono{G G':GH}(hm:∀k o,G k=some o->G' k=some o):∀{ds:List Dat}{cs:List aj},bg G ds cs->bg G' ds cs
 |[],cs,h=>by simpa[bg]using h
 |d::ds,cs,h=>by
  simp only[bg]at h|-
  obtain⟨v,vs,h1,h2,h3⟩:=h
  exact⟨v,vs,h1,av.mono hm h2,bg.mono hm h3⟩
end
theorem nV.get{G:GH}{sz b:Nat}:∀{rows:List (List Dat)}{o k:Nat}{r:List Dat},nV G sz b o rows->rows[k]?=some r->∃cs,cs.length=sz∧(∀j v,cs[j]?=some v->aJ G b (o+k*sz+j)=some v)∧bg G r cs
 |[],_,_,_,_,h=>by simp at h
 |r::rs,o,0,q,h,hk=>by
  simp only[Cg,oW]at hk
  subst hk
  simp only[nV]at h
  simpa using h.1
 |r::rs,o,k+1,q,h,hk=>by
  simp only[List.getElem?_cons_succ]at hk
  simp only[nV]at h
  obtain⟨cs,h1,h2,h3⟩:=nV.get h.2 hk
  exact⟨cs,h1,fun j v hj=>by rw[<-h2 j v hj];congr 1;rw[Nat.succ_mul];omega,h3⟩
theorem av.slice{G:GH}{sz:Nat}{rows:List (List Dat)}{v:aj}(h:av G (.sl sz rows) v):∃A c,v=.slice A rows.length c∧rows.length<=c∧c<=maxLen∧
  ∀k r,rows[k]?=some r->∃b o cs,A=some ⟨b,o,none⟩∧cs.length=sz∧(∀j u,cs[j]?=some u->aJ G b (o+k*sz+j)=some u)∧bg G r cs:=by
 simp only[av]at h
 obtain⟨A,c,h1,h2,h3,h4⟩:=h
 refine⟨A,c,h1,h2,h3,fun k r hk=>?_⟩
 obtain⟨b,o,e,hr⟩:=h4 (by rintro rfl;simp at hk)
 obtain⟨cs,g1,g2,g3⟩:=hr.get hk
 exact⟨b,o,cs,e,g1,g2,g3⟩
theorem nV.mk{G:GH}{sz b:Nat}:∀{rows:List (List Dat)}{o:Nat},(∀k r,rows[k]?=some r->∃cs,cs.length=sz∧(∀j u,cs[j]?=some u->aJ G b (o+k*sz+j)=some u)∧bg G r cs)->nV G sz b o rows
 |[],o,_=>by simp[nV]
 |r::rs,o,h=>by
  simp only[nV]
  refine⟨by simpa using h 0 r M,nV.mk fun k q hk=>?_⟩
  obtain⟨cs,h1,h2,h3⟩:=h (k+1) q (by simpa using hk)
  exact⟨cs,h1,fun j v hj=>by rw[<-h2 j v hj];congr 1;rw[Nat.succ_mul];omega,h3⟩
abbrev vi(n:Int):aj:=.int .i64 n
structure jy where
 key:Int
 value:Int
structure kS where
 rev:Int
 move:Int
structure ku where
 rev:Int
 key:Int
 before:Int
 had:Bool
structure zG where
 ins:Int
 move:Int
 dQ:List kS
 layers:List ku
structure fI where
 props:List jy
 marks:zG
mutual
inductive ah where
 |mk (kind code id:Int) (text:ByteArray) (head:fI) (flow:List ah) (rows:List aN)
inductive aN where
 |mk (head:fI) (cells:List aP)
inductive aP where
 |mk (id:Int) (head:fI) (flow:List ah)
end
namespace ah
def kind:ah->Int|.mk k _ _ _ _ _ _=>k
def code:ah->Int|.mk _ c _ _ _ _ _=>c
def id:ah->Int|.mk _ _ i _ _ _ _=>i
def text:ah->ByteArray|.mk _ _ _ t _ _ _=>t
def head:ah->fI|.mk _ _ _ _ h _ _=>h
def flow:ah->List ah|.mk _ _ _ _ _ f _=>f
def rows:ah->List aN|.mk _ _ _ _ _ _ r=>r
end ah
namespace aN
def head:aN->fI|.mk h _=>h
def cells:aN->List aP|.mk _ c=>c
end aN
namespace aP
def id:aP->Int|.mk i _ _=>i
def head:aP->fI|.mk _ h _=>h
def flow:aP->List ah|.mk _ _ f=>f
end aP
abbrev li(n:Int):Dat:=.lf (.int .i64 n)
def jy.dat(p:jy):List Dat:=[li p.key,li p.value]
def kS.dat(p:kS):List Dat:=[li p.rev,li p.move]
def ku.dat(p:ku):List Dat:=[li p.rev,li p.key,li p.before,.lf (.bool p.had)]
def zG.dat(m:zG):List Dat:=[li m.ins,li m.move,.sl 2 (m.dQ.map kS.dat),.sl 4 (m.layers.map ku.dat)]
def fI.dat(h:fI):List Dat:=.sl 2 (h.props.map jy.dat)::h.marks.dat
mutual
def ah.dat:ah->List Dat
 |.mk k c i t h f r=>li k::li c::li i::.lf (.string t)::(h.dat++[.sl 11 (JI f),.sl 6 (MH r)])
def aN.dat:aN->List Dat
 |.mk h cs=>h.dat++[.sl 7 (P9 cs)]
def aP.dat:aP->List Dat
 |.mk i h f=>li i::(h.dat++[.sl 11 (JI f)])
def JI:List ah->List (List Dat)
 |[]=>[]
 |x::r=>x.dat::JI r
def MH:List aN->List (List Dat)
 |[]=>[]
 |x::r=>x.dat::MH r
def P9:List aP->List (List Dat)
 |[]=>[]
 |x::r=>x.dat::P9 r
end
theorem aah:∀l:List ah,JI l=l.map ah.dat
 |[]=>by simp[JI]
 |x::r=>by simp[JI,aah r]
theorem ajs:∀l:List aN,MH l=l.map aN.dat
 |[]=>by simp[MH]
 |x::r=>by simp[MH,ajs r]
theorem ajr:∀l:List aP,P9 l=l.map aP.dat
 |[]=>by simp[P9]
 |x::r=>by simp[P9,ajr r]
theorem ah.sW(x:ah):x.dat=li x.kind::li x.code::li x.id::.lf (.string x.text)::(x.head.dat++[.sl 11 (x.flow.map ah.dat),.sl 6<|x.rows.map aN.dat]):=by
 cases x;simp[ah.dat,ah.kind,ah.code,ah.id,ah.text,ah.head,ah.flow,ah.rows,aah,ajs]
theorem aN.sW(x:aN):x.dat=x.head.dat++[.sl 7<|x.cells.map aP.dat]:=by
 cases x;simp[aN.dat,aN.head,aN.cells,ajr]
theorem aP.sW(x:aP):x.dat=li x.id::(x.head.dat++[.sl 11<|x.flow.map ah.dat]):=by
 cases x;simp[aP.dat,aP.id,aP.head,aP.flow,aah]
structure kr(G:GH)(x:fI)(p d l:aj):Prop where
 props:av G (.sl 2 (x.props.map jy.dat)) p
 dQ:av G (.sl 2 (x.marks.dQ.map kS.dat)) d
 layers:av G (.sl 4 (x.marks.layers.map ku.dat)) l
theorem kr.mono{G G':GH}(hm:∀k o,G k=some o->G' k=some o){x:fI}{p d l:aj}(h:kr G x p d l):kr G' x p d l:=⟨h.props.mono hm,h.dQ.mono hm,h.layers.mono hm⟩
theorem av.form{G:GH}{sz:Nat}{rows:List (List Dat)}{v:aj}(h:av G (.sl sz rows) v):∃A n c,v=.slice A n c:=by
 obtain⟨A,c,h,_⟩:=h.slice
 exact⟨A,_,c,h⟩
theorem bg.item{G:GH}{x:ah}{cs:List aj}(h:bg G x.dat cs):∃pA pn pc dA dn dc lA ln lc fA fn fc rA rn rc,cs=[vi x.kind,vi x.code,vi x.id,.string x.text,.slice pA pn pc,vi x.head.marks.ins,vi x.head.marks.move,.slice dA dn dc,.slice lA ln lc,.slice fA fn fc,.slice rA rn rc]∧
  kr G x.head (.slice pA pn pc) (.slice dA dn dc) (.slice lA ln lc)∧av G (.sl 11<|x.flow.map ah.dat) (.slice fA fn fc)∧av G (.sl 6<|x.rows.map aN.dat) (.slice rA rn rc):=by
 rw[ah.sW]at h
 simp only[fI.dat,zG.dat,jl,fQ,bg]at h
 obtain⟨v1,_,rfl,h1,v2,_,rfl,h2,v3,_,rfl,h3,v4,_,rfl,h4,p,_,rfl,hp,v5,_,rfl,h5,v6,_,rfl,h6,d,_,rfl,hd,l,_,rfl,hl,f,_,rfl,hf,r,_,rfl,hr,rfl⟩:=h
 obtain⟨pA,pn,pc,rfl⟩:=hp.form
 obtain⟨dA,dn,dc,rfl⟩:=hd.form
 obtain⟨lA,ln,lc,rfl⟩:=hl.form
 obtain⟨fA,fn,fc,rfl⟩:=hf.form
 obtain⟨rA,rn,rc,rfl⟩:=hr.form
 simp only[av]at h1 h2 h3 h4 h5 h6
 obtain⟨rfl,-⟩:=h1;obtain⟨rfl,-⟩:=h2;obtain⟨rfl,-⟩:=h3;obtain⟨rfl,-⟩:=h4;obtain⟨rfl,-⟩:=h5;obtain⟨rfl,-⟩:=h6
 exact⟨pA,pn,pc,dA,dn,dc,lA,ln,lc,fA,fn,fc,rA,rn,rc,M,⟨hp,hd,hl⟩,hf,hr⟩
theorem bg.row{G:GH}{x:aN}{cs:List aj}(h:bg G x.dat cs):∃pA pn pc dA dn dc lA ln lc cA cn cc,cs=[.slice pA pn pc,vi x.head.marks.ins,vi x.head.marks.move,.slice dA dn dc,.slice lA ln lc,.slice cA cn cc]∧kr G x.head (.slice pA pn pc) (.slice dA dn dc) (.slice lA ln lc)∧av G (.sl 7<|x.cells.map aP.dat) (.slice cA cn cc):=by
 rw[aN.sW]at h
 simp only[fI.dat,zG.dat,jl,fQ,bg]at h
 obtain⟨p,_,rfl,hp,v5,_,rfl,h5,v6,_,rfl,h6,d,_,rfl,hd,l,_,rfl,hl,f,_,rfl,hf,rfl⟩:=h
 obtain⟨pA,pn,pc,rfl⟩:=hp.form
 obtain⟨dA,dn,dc,rfl⟩:=hd.form
 obtain⟨lA,ln,lc,rfl⟩:=hl.form
 obtain⟨fA,fn,fc,rfl⟩:=hf.form
 simp only[av]at h5 h6
 obtain⟨rfl,-⟩:=h5;obtain⟨rfl,-⟩:=h6
 exact⟨pA,pn,pc,dA,dn,dc,lA,ln,lc,fA,fn,fc,M,⟨hp,hd,hl⟩,hf⟩
theorem bg.cell{G:GH}{x:aP}{cs:List aj}(h:bg G x.dat cs):∃pA pn pc dA dn dc lA ln lc fA fn fc,cs=[vi x.id,.slice pA pn pc,vi x.head.marks.ins,vi x.head.marks.move,.slice dA dn dc,.slice lA ln lc,.slice fA fn fc]∧kr G x.head (.slice pA pn pc) (.slice dA dn dc) (.slice lA ln lc)∧av G (.sl 11<|x.flow.map ah.dat) (.slice fA fn fc):=by
 rw[aP.sW]at h
 simp only[fI.dat,zG.dat,jl,fQ,bg]at h
 obtain⟨v1,_,rfl,h1,p,_,rfl,hp,v5,_,rfl,h5,v6,_,rfl,h6,d,_,rfl,hd,l,_,rfl,hl,f,_,rfl,hf,rfl⟩:=h
 obtain⟨pA,pn,pc,rfl⟩:=hp.form
 obtain⟨dA,dn,dc,rfl⟩:=hd.form
 obtain⟨lA,ln,lc,rfl⟩:=hl.form
 obtain⟨fA,fn,fc,rfl⟩:=hf.form
 simp only[av]at h1 h5 h6
 obtain⟨rfl,-⟩:=h1;obtain⟨rfl,-⟩:=h5;obtain⟨rfl,-⟩:=h6
 exact⟨pA,pn,pc,dA,dn,dc,lA,ln,lc,fA,fn,fc,M,⟨hp,hd,hl⟩,hf⟩
theorem av.one{G:GH}:∀{d:Dat}{v:aj},av G d v->Value.oneCell' v=true
 |.lf u,v,h=>by simp only[av]at h;rw[h.1];exact h.2
 |.sl sz rows,v,h=>by obtain⟨A,n,c,rfl⟩:=h.form;rfl
theorem bg.one{G:GH}:∀{ds:List Dat}{cs:List aj},bg G ds cs->cs.all Value.oneCell'=true
 |[],cs,h=>by simp only[bg]at h;subst h;rfl
 |d::ds,cs,h=>by
  simp only[bg]at h
  obtain⟨v,vs,rfl,h1,h2⟩:=h
  simp only[List.all_cons,h1.one,h2.one,Bool.and_self]
theorem bg.length{G:GH}:∀{ds:List Dat}{cs:List aj},bg G ds cs->cs.length=ds.length
 |[],cs,h=>by simp only[bg]at h;subst h;rfl
 |d::ds,cs,h=>by
  simp only[bg]at h
  obtain⟨v,vs,rfl,h1,h2⟩:=h
  simp[h2.length]
theorem bg.mkItem{G:GH}{x:ah}{p d l f r:aj}(hh:kr G x.head p d l)(hf:av G (.sl 11<|x.flow.map ah.dat) f)(hr:av G (.sl 6<|x.rows.map aN.dat) r) :
  bg G x.dat [vi x.kind,vi x.code,vi x.id,.string x.text,p,vi x.head.marks.ins,vi x.head.marks.move,d,l,f,r]:=by
 rw[ah.sW]
 simp only[fI.dat,zG.dat,jl,fQ,bg]
 exact⟨_,_,M,by simp[av,Value.oneCell'],_,_,M,by simp[av,Value.oneCell'],_,_,M,by simp[av,Value.oneCell'],_,_,M,by simp[av,Value.oneCell'],_,_,M,hh.props,_,_,M,by simp[av,Value.oneCell'],_,_,M,by simp[av,Value.oneCell'],_,_,M,hh.dQ,_,_,M,hh.layers,_,_,M,hf,_,_,M,hr,M⟩
theorem bg.V8{G:GH}{x:aN}{p d l c:aj}(hh:kr G x.head p d l)(hc:av G (.sl 7<|x.cells.map aP.dat) c) :
  bg G x.dat [p,vi x.head.marks.ins,vi x.head.marks.move,d,l,c]:=by
 rw[aN.sW]
 simp only[fI.dat,zG.dat,jl,fQ,bg]
 exact⟨_,_,M,hh.props,_,_,M,by simp[av,Value.oneCell'],_,_,M,by simp[av,Value.oneCell'],_,_,M,hh.dQ,_,_,M,hh.layers,_,_,M,hc,M⟩
theorem bg.V7{G:GH}{x:aP}{p d l f:aj}(hh:kr G x.head p d l)(hf:av G (.sl 11<|x.flow.map ah.dat) f) :
  bg G x.dat [vi x.id,p,vi x.head.marks.ins,vi x.head.marks.move,d,l,f]:=by
 rw[aP.sW]
 simp only[fI.dat,zG.dat,jl,fQ,bg]
 exact⟨_,_,M,by simp[av,Value.oneCell'],_,_,M,hh.props,_,_,M,by simp[av,Value.oneCell'],_,_,M,by simp[av,Value.oneCell'],_,_,M,hh.dQ,_,_,M,hh.layers,_,_,M,hf,M⟩
mutual
def oz:Dat->Nat
 |.lf v=>(match v with|.string s=>s.size|_=>0)+1
 |.sl _ rows=>1+fE rows
def fE:List (List Dat)->Nat
 |[]=>0
 |r::rs=>1+bY r+fE rs
def bY:List Dat->Nat
 |[]=>0
 |d::ds=>oz d+bY ds
end
theorem Ov(a b:List (List Dat)):fE (a++b)=fE a+fE b:=by
 induction a with
 |nil=>simp[fE]
 |cons x a ih=>simp only[jl,fE,ih];omega
theorem aec(a b:List Dat):bY (a++b)=bY a+bY b:=by
 induction a with
 |nil=>simp[bY]
 |cons x a ih=>simp only[jl,bY,ih];omega
theorem vB:∀rows:List (List Dat),rows.length<=fE rows
 |[]=>eP _
 |r::rs=>by have:=vB rs;simp only[lK,fE];omega
theorem Xb:∀{rows:List (List Dat)}{k:Nat}{r:List Dat},rows[k]?=some r->bY r<fE rows
 |[],_,_,h=>by simp at h
 |q::rs,0,r,h=>by simp only[Cg,oW]at h;subst h;simp only[fE];omega
 |q::rs,k+1,r,h=>by have:=Xb (rows:=rs) (k:=k) (r:=r) (by simpa using h);simp only[fE];omega
abbrev aR(l:List ah):Nat:=fE (l.map ah.dat)
abbrev gB(l:List aN):Nat:=fE (l.map aN.dat)
abbrev iU(l:List aP):Nat:=fE (l.map aP.dat)
abbrev oF(h:fI):Nat:=bY h.dat
theorem Sy(h:fI):oF h=fE (h.props.map jy.dat)+fE (h.marks.dQ.map kS.dat)+fE (h.marks.layers.map ku.dat)+5:=by
 simp only[oF,fI.dat,zG.dat,bY,oz];omega
theorem lY(x:ah):bY x.dat=x.text.size+oF x.head+aR x.flow+gB x.rows+6:=by
 rw[ah.sW];simp only[bY,oz,aec,oF,aR,gB,iU];omega
theorem zC(x:aN):bY x.dat=oF x.head+iU x.cells+1:=by
 rw[aN.sW];simp only[bY,oz,aec,oF,aR,gB,iU];omega
theorem AU(x:aP):bY x.dat=oF x.head+aR x.flow+2:=by
 rw[aP.sW];simp only[bY,oz,aec,oF,aR,gB,iU];omega
theorem GK{l:List ah}{k:Nat}(h:k<l.length):l[k].text.size+oF l[k].head+aR l[k].flow+gB l[k].rows+6<aR l:=by
 rw[<-lY];exact Xb (k:=k) (by simp[h])
theorem GL{l:List aN}{k:Nat}(h:k<l.length):oF l[k].head+iU l[k].cells+1<gB l:=by
 rw[<-zC];exact Xb (k:=k) (by simp[h])
theorem GJ{l:List aP}{k:Nat}(h:k<l.length):oF l[k].head+aR l[k].flow+2<iU l:=by
 rw[<-AU];exact Xb (k:=k) (by simp[h])
theorem wo(l:List ah):l.length<=aR l:=by have:=vB<|l.map ah.dat;simpa using this
theorem ER(l:List aN):l.length<=gB l:=by have:=vB<|l.map aN.dat;simpa using this
theorem EP(l:List aP):l.length<=iU l:=by have:=vB<|l.map aP.dat;simpa using this
theorem Xc{r:List Dat}:∀{rows:List (List Dat)},r∈rows->bY r<fE rows
 |[],h=>by cases h
 |q::rs,h=>by
  rcases iL.1 h with rfl|h
  ·simp only[fE];omega
  ·have:=Xc h;simp only[fE];omega
theorem I8{x:ah}{l:List ah}(h:x∈l):bY x.dat<aR l:=Xc<|List.mem_map_of_mem h
theorem asD{x:aN}{l:List aN}(h:x∈l):bY x.dat<gB l:=Xc<|List.mem_map_of_mem h
theorem asw{x:aP}{l:List aP}(h:x∈l):bY x.dat<iU l:=Xc<|List.mem_map_of_mem h
section
def zV(l:List Oper)(i:Nat):List Nat:=match l[i]? with|some o=>(o.after.toList.filter (Region.binds .any)).map (·.on)|none=>[]
def dZ(l:List Oper)(i:Nat):Option Nat:=(l[i]?).bind (·.dst)
def xO(l:List Oper)(bK:List (List Nat)):Bool :=
 (List.range l.length).all fun i=>(zV l i).all (fun j=>Nat.blt j i)&&(bK.getD i []).all fun j=>(zV l i).contains j||(zV l i).any fun k=>Nat.blt k i&&(bK.getD k []).contains j
def dD(S:Nat->Bool)(i:Nat):Nat->Bool:=fun j=>if j=i then true else S j
section
variable{r:Option Nat}{P:Program}{Q:Exit->Act->World->Prop}{l:List Oper}{bK:List (List Nat)}{a:Act}{w:World}
theorem aiY(hk:xO l bK=true){S:Nat->Bool}(hd:∀i,S i=true->∀j∈zV l i,S j=true):∀i,i<l.length->(∀j∈zV l i,S j=true)->∀j∈bK.getD i [],S j=true:=by
 intro i
 induction i using Nat.strongRecOn with
 |_ i ih=>
  intro hi hdi j hj
  have h1:=lM.1 hk i<|qo.2 hi
  simp only[kV,lM]at h1
  have h2:=h1.2 j hj
  simp only[Bool.or_eq_true,zK,List.any_eq_true,kV]at h2
  rcases h2 with h2|⟨k,hk1,hk2,hk3⟩
  ·exact hdi j h2
  ·have hlt:k<i:=Eq.mp Nat.blt_eq hk2
   exact ih k hlt O (hd k<|hdi k hk1) j hk3
theorem aI7{ops:Array Oper}{i:Nat}{o:Oper}{K:Act->World->Prop}(ho:ops[i]?=some o)(h:WL r P ops (fun e a' w'=>e=.normal∧K a' w') [o] a w):wpOpIn (FW r) 0 P ops Q i K a w:=by
 unfold wpOpIn
 simp only[ho]
 have h':wpListIn (FW r) 0 P ops (fun e a' w'=>e=.normal∧K a' w') [o] a w:=h
 unfold wpListIn at h'
 by_cases hw:Region.wanted o (yielded ops a.tmps)=true
 ·rw[ay hw]at h'|-
  refine⟨fun _ _=>trivial,?_⟩
  have h2:=h'.2
  generalize(o.semAt (FW r).round a.eval).run P w=res at h2|-
  cases res with
  |ok x w1=>
   cases x with
   |value v=>exact h2.2
   |skip=>exact h2.2
   |defer d=>exact h2.2
   |enter f args=>exact⟨h2.1,h2.2.mono fun e w2 he=>by
     cases e with
     |returned v=>exact he.2
     |panicked ch=>exact absurd he.1 (by simp)
     |outgrown=>obtain⟨_,_,h3,_⟩:=he;exact absurd h3 (by simp)⟩
   |row rw_ args=>exact⟨h2.1,h2.2.mono fun v w2 he=>he.2⟩
   |round l f t YE b=>exact⟨h2.1,h2.2.mono fun e w2 he=>by
     cases e with
     |returned v=>exact he.2
     |panicked ch=>exact absurd he.1 (by simp)
     |outgrown=>obtain⟨_,_,h3,_⟩:=he;exact absurd h3 (by simp)⟩
   |_=>exact h2.elim
  |halt x w1=>
   cases x with
   |panic v=>exact absurd h2.1 (by simp)
   |_=>exact h2.elim
 ·rw[au hw]at h'|-
  exact⟨fun _ _=>trivial,h'.2.2⟩
theorem count_set{L:List Bool}:∀{i:Nat},L[i]?=some false->(L.set i true).count false+1=L.count false:=by
 induction L with
 |nil=>intro i h;simp at h
 |cons b L ih=>
  intro i h
  cases i with
  |zero=>simp at h;subst h;simp
  |succ i=>
   simp only[List.getElem?_cons_succ]at h
   have:=ih h
   simp only[List.set_cons_succ,List.count_cons]
   omega
theorem ZW{id:Nat}(hm:P.follows .mixedOrders=true)(bK:List (List Nat))(hk:xO l bK=true)(X:(Nat->Bool)->Act->World->Prop)(h0:X (fun _=>false) a w.drew)
  (hstep:∀i o S a w,l[i]?=some o->X S a w->S i=false->(∀j∈bK.getD i [],S j=true)->(∀j,j<l.length->i∈bK.getD j []->S j=false)->WL r P l.toArray (fun e a' w'=>e=.normal∧X (dD S i) a' w') [o] a w)
  (hend:∀S a w,(∀i,i<l.length->S i=true)->X S a w->Q .normal a w):WP r P (.region id l.toArray true) Q a w:=by
 have key:∀(fuel:Nat)(listed:Array Bool)(S:Nat->Bool)(a:Act)(w:World),listed.size=l.length->(∀i,i<l.length->listed[i]?=some (S i))->listed.toList.count false<=fuel->(∀i,i<l.length->S i=true->∀j∈zV l i,S j=true)->(∀i,l.length<=i->S i=false)->X S a w->
   wpAnyIn (FW r) 0 P .any l.toArray Q fuel listed a w:=by
  intro fuel
  induction fuel with
  |zero=>
   intro listed S a w hsz hS hc hdn hbig hX
   have hall:∀i,i<l.length->S i=true:=by
    intro i hi
    cases aM:S i with
    |true=>rfl
    |false=>
     have h1:=hS i hi
     rw[aM]at h1
     have:false∈listed.toList:=lZ (by simpa using h1)
     have:=List.count_pos_iff.2 this
     omega
   refine⟨?_,hend S a w hall hX⟩
   apply List.eq_nil_iff_forall_not_mem.2
   intro i hi
   obtain⟨h1,o,ho,-⟩:=mem_ready.1 hi
   have hil:i<l.length:=by simpa using(Array.getElem?_eq_some_iff.1 ho).1
   have h2:=hS i hil
   rw[hall i hil]at h2
   rw[Array.getD_eq_getD_getElem?,h2]at h1
   cases h1
  |succ fuel ih=>
   intro listed S a w hsz hS hc hdn hbig hX
   have hget:∀i d,i<l.length->listed.getD i d=S i:=fun i d hi=>by rw[Array.getD_eq_getD_getElem?,hS i hi];rfl
   refine⟨fun hnil=>?_,fun i hi=>?_⟩
   ·by_cases hall:∀i,i<l.length->S i=true
    ·exact hend S a w hall hX
    ·exfalso
     have hex:∃i,i<l.length∧S i=false:=by
      apply Classical.byContradiction
      intro hno
      apply hall
      intro i hi
      cases aM:S i with
      |true=>rfl
      |false=>exact absurd ⟨i,hi,aM⟩ hno
     obtain⟨i,hi,aM,hmin⟩:∃i,i<l.length∧S i=false∧∀j,j<i->S j=true:=by
      obtain⟨i0,hi0,hs0⟩:=hex
      clear hall
      induction i0 using Nat.strongRecOn with
      |_ i0 ihh=>
       by_cases hlt:∃j,j<i0∧S j=false
       ·obtain⟨j,hj,hsj⟩:=hlt
        exact ihh j hj O hsj
       ·refine⟨i0,hi0,hs0,fun j hj=>?_⟩
        cases hSj:S j with
        |true=>rfl
        |false=>exact absurd ⟨j,hj,hSj⟩ hlt
     have hr:i∈Region.ready .any l.toArray listed:=by
      rw[mem_ready]
      refine⟨by rw[hget i true hi,aM],l[i],by simp[hi],fun e he hb=>?_⟩
      have hk1:=lM.1 hk i<|qo.2 hi
      simp only[kV,lM]at hk1
      have hin:e.on∈zV l i:=by
       simp only[zV,gF hi,List.mem_map,List.mem_filter]
       exact⟨e,⟨by simpa using he,hb⟩,M⟩
      have hlt:e.on<i:=Eq.mp Nat.blt_eq<|hk1.1 _ hin
      rw[hget _ _ O]
      exact hmin _ hlt
     rw[hnil]at hr
     cases hr
   ·obtain⟨h1,o,ho,aB7⟩:=mem_ready.1 hi
    have hil:i<l.length:=by simpa using(Array.getElem?_eq_some_iff.1 ho).1
    have ho':l[i]?=some o:=by simpa using ho
    have aM:S i=false:=by rw[<-hget i true hil];exact h1
    have hdi:∀j∈zV l i,S j=true:=by
     intro j hj
     simp only[zV,ho',List.mem_map,List.mem_filter]at hj
     obtain⟨e,⟨he,hb⟩,rfl⟩:=hj
     have h2:=aB7 e (by simpa using he) hb
     by_cases hjl:e.on<l.length
     ·rwa[hget _ _ hjl]at h2
     ·have hk1:=lM.1 hk i<|qo.2 hil
      simp only[kV,lM]at hk1
      have hin:e.on∈zV l i:=by
       simp only[zV,ho',List.mem_map,List.mem_filter]
       exact⟨e,⟨he,hb⟩,M⟩
      have hlt:e.on<i:=Eq.mp Nat.blt_eq<|hk1.1 _ hin
      omega
    have aml:∀i,S i=true->∀j∈zV l i,S j=true:=by
     intro k hk' j hj
     by_cases hkl:k<l.length
     ·exact hdn k hkl hk' j hj
     ·rw[hbig k O]at hk';cases hk'
    refine aI7 ho ?_
    have hs:=hstep i o S a w ho' hX aM (aiY hk aml i hil hdi) (fun j hjl hj=>by
     cases hSj:S j with
     |false=>rfl
     |true=>have:=aiY hk aml j hjl (hdn j hjl hSj) i hj;rw[this]at aM;cases aM)
    have hmono:∀e a' w',(e=Exit.normal∧X (dD S i) a' w')->(e=Exit.normal∧wpAnyIn (FW r) 0 P .any l.toArray Q fuel (listed.setIfInBounds i true) a' w'):=by
     rintro e a' w' ⟨he,hX'⟩
     refine⟨he,ih _ (dD S i) a' w' (by simpa using hsz) (fun j hj=>?_) ?_ (fun j hj hSj q hq=>?_) (fun j hj=>?_) hX'⟩
     ·rw[Array.getElem?_setIfInBounds]
      unfold dD
      by_cases e:i=j
      ·subst e;simp[hsz,hil]
      ·rw[au e,au<|Ne.symm e];exact hS j hj
     ·have h3:listed.toList[i]?=some false:=by have:=hS i hil;rw[aM]at this;simpa using this
      have:=count_set h3
      simp only[Array.toList_setIfInBounds]
      omega
     ·unfold dD at hSj|-
      split
      ·rfl
      ·split at hSj
       ·rename_i e;subst e;exact hdi q hq
       ·exact hdn j hj hSj q hq
     ·unfold dD
      rw[au O]
      exact hbig j hj
    have hs':wpListIn (FW r) 0 P l.toArray (fun e a' w'=>e=.normal∧X (dD S i) a' w') [o] a w:=hs
    show wpListIn (FW r) 0 P l.toArray _ [o] a w
    unfold wpListIn at hs'|-
    split
    ·rename_i hw
     rw[ay hw]at hs'
     refine⟨fun _ _=>trivial,?_⟩
     have h2:=hs'.2
     generalize(o.semAt (FW r).round a.eval).run P w=res at h2|-
     cases res with
     |ok x w1=>
      cases x with
      |value v=>exact hmono _ _ _ h2
      |skip=>exact hmono _ _ _ h2
      |defer d=>exact hmono _ _ _ h2
      |enter f args=>exact⟨h2.1,h2.2.mono fun e w2 he=>by
        cases e with
        |returned v=>exact hmono _ _ _ he
        |panicked ch=>exact absurd he.1 (by simp)
        |outgrown=>obtain⟨_,_,h3,_⟩:=he;exact absurd h3 (by simp)⟩
      |row rw_ args=>exact⟨h2.1,h2.2.mono fun v w2 he=>hmono _ _ _ he⟩
      |round l f t YE b=>exact⟨h2.1,h2.2.mono fun e w2 he=>by
        cases e with
        |returned v=>exact hmono _ _ _ he
        |panicked ch=>exact absurd he.1 (by simp)
        |outgrown=>obtain⟨_,_,h3,_⟩:=he;exact absurd h3 (by simp)⟩
      |_=>exact h2.elim
     |halt x w1=>
      cases x with
      |panic v=>exact absurd h2.1 (by simp)
      |_=>exact h2.elim
    ·rename_i hw
     rw[au hw]at hs'
     exact⟨fun _ _=>trivial,hmono _ _ _ hs'.2⟩
 refine wpIn_region_any hm (key _ _ (fun _=>false) a w.drew (by simp) (fun i hi=>by simp[hi]) ?_ (fun _ _ h=>by cases h) (fun _ _=>rfl) h0)
 simp
end
def full(N:Nat)(a:Act):List (Nat×aj):=(List.range N).map fun t=>(t,a.tmps.getD t undef)
theorem KL(T xz:List (Nat×aj))(t:Nat):lk (T++xz) t=match lk T t with|some v=>some v|none=>lk xz t:=by
 induction T with
 |nil=>rfl
 |cons p T ih=>
  obtain⟨s,v⟩:=p
  by_cases e:s=t
  ·subst e;rw[jl,mq,mq]
  ·rw[jl,gL e,gL e,ih]
theorem aoo(f:Nat->aj):∀(L:List Nat)(t:Nat),t∈L->lk (L.map fun t=>(t,f t)) t=some (f t)
 |[],_,h=>by cases h
 |s::L,t,h=>by
  simp only[dV]
  by_cases e:s=t
  ·subst e;rw[mq]
  ·rw[gL e]
   exact aoo f L t ((iL.1 h).resolve_left<|Ne.symm e)
theorem V5{N t:Nat}(a:Act)(h:t<N):lk (full N a) t=some (a.tmps.getD t undef):=aoo (fun t=>a.tmps.getD t undef) _ t<|qo.2 h
section
variable{N:Nat}{D:List Deferred}{w0:World}{F:Nat->Prop}{G0 G G1 G2:GH}{L L1 L2:OL}{T Xs:List (Nat×aj)}
variable{r:Option Nat}{P:Program}{Q:Exit->Act->World->Prop}{l:List Oper}{a a':Act}{w w':World}
theorem St.full (H:St N D w0 F G0 G L T a w):St N D w0 F G0 G L (T++full N a) a w:=by
 refine ⟨H.nX,fun t v ht=>?_,H.uS,H.hp⟩
 rw [KL] at ht
 cases hT:lk T t with
 | some u=>rw [hT] at ht;simp only [oW] at ht;subst ht;exact H.get t u hT
 | none =>
  rw [hT] at ht
  by_cases hlt:t < N
  ·rw [V5 a hlt] at ht
   simp only [oW] at ht
   have h2:t < a.tmps.size:=by rw [H.nX];exact hlt
   rw [<- ht,Array.getD_eq_getD_getElem?,Array.getElem?_eq_getElem h2]
   rfl
  ·exfalso
   have:∀ (L:List Nat),t∉L->lk (L.map fun t=>(t,a.tmps.getD t undef)) t=none:=by
    intro L
    induction L with
    | nil=>intro _;rfl
    | cons s L ih=>intro h;simp only [dV];rw [gL (fun e=>h (by simp [e])),ih (fun h'=>h (by simp [h']))]
   rw [show lk (Proofs.YtdgnnpjijhafaaaGreat.full N a) t=none from this _ (by simp;omega)] at ht
   cases ht
theorem St.fT(H:St N D w0 F G0 G L T a w){t:Nat}{v:aj}(h:a.tmps[t]?=some v):St N D w0 F G0 G L ((t,v)::T) a w :=
 ⟨H.nX,fun s u hs=>by
  by_cases e:t=s
  ·subst e;rw[mq]at hs;simp only[oW]at hs;subst hs;exact h
  ·rw[gL e]at hs;exact H.get s u hs,H.uS,H.hp⟩
def DX(N:Nat)(D:List Deferred)(w0:World)(F:Nat->Prop)(G0 G:GH)(L:OL)(T:List (Nat×aj))(l:List Oper)(pr:Nat->aj->GH->Prop)(S:Nat->Bool)(a:Act)(w:World):Prop :=
 ∃G1,(∀k o,G k=some o->G1 k=some o)∧St N D w0 F G0 G1 L T a w∧∀i d,S i=true->dZ l i=some d->∃v,a.tmps[d]?=some v∧pr i v G1
def pz(l:List Oper)(T:List (Nat×aj))(i:Nat):Bool :=
 match dZ l i with|none=>true|some d=>(lk T d).isNone&&(List.range l.length).all fun j=>bif Nat.beq i j then true else !(dZ l j==some d)
def aak(l:List Oper)(T:List (Nat×aj)):Bool :=
 (List.range l.length).all (pz l T)
theorem Us{l:List Oper}{T:List (Nat×aj)}(h:aak l T=true){i:Nat}(hi:i<l.length):pz l T i=true:=lM.1 h i<|qo.2 hi
theorem qw{pr:Nat->aj->GH->Prop}{S:Nat->Bool}{i d:Nat}{v:aj}(hok:pz l T i=true)(jG:∀i v(G G':GH),(∀k o,G k=some o->G' k=some o)->pr i v G->pr i v G')(hi:dZ l i=some d)(hdl:Nat.blt i l.length=true)
  (HT:St N D w0 F G0 G1 L T a w)(Hb:St N D w0 F G0 G1 L (Xs++full N a) a w)(hG:∀k o,G k=some o->G1 k=some o)(hv:∀i d,S i=true->dZ l i=some d->∃v,a.tmps[d]?=some v∧pr i v G1)
  (hG2:∀k o,G1 k=some o->G2 k=some o)(hp:pr i v G2)(H:St N D w0 F G0 G2 L ((d,v)::(Xs++full N a)) a' w'):DX N D w0 F G0 G L T l pr (dD S i) a' w':=by
 have hil:i<l.length:=Eq.mp Nat.blt_eq hdl
 have hok1:=hok
 rw[pz,hi]at hok1
 simp only[kV,Option.isNone_iff_eq_none,lM,qo]at hok1
 have hsame:∀t,t≠d->a'.tmps[t]?=a.tmps[t]?:=by
  intro t ht
  by_cases hlt:t<N
  ·have h1:∃u,lk (Xs++full N a) t=some u:=by
    rw[KL]
    cases lk Xs t with
    |some u=>exact⟨u,M⟩
    |none=>exact⟨_,V5 a hlt⟩
   obtain⟨u,hu⟩:=h1
   rw[Hb.get t u hu,H.get t u (by rw[gL<|Ne.symm ht];exact hu)]
  ·rw[Array.getElem?_eq_none (by rw[H.nX];omega),Array.getElem?_eq_none (by rw[Hb.nX];omega)]
 refine⟨G2,fun k o hk=>hG2 k o (hG k o hk),⟨H.nX,fun t u ht=>?_,H.uS,H.hp⟩,fun j e hj he=>?_⟩
 ·rw[hsame t (fun e=>by rw[e,hok1.1]at ht;cases ht)]
  exact HT.get t u ht
 ·by_cases hji:j=i
  ·subst hji
   rw[hi]at he
   simp only[oW]at he
   subst he
   exact⟨v,H.get d v (mq _ _ _),hp⟩
  ·have hSj:S j=true:=by unfold dD at hj;rwa[au hji]at hj
   obtain⟨u,hu1,hu2⟩:=hv j e hSj he
   have hjl:j<l.length:=by
    unfold dZ at he
    by_cases hl:j<l.length
    ·exact hl
    ·rw[List.getElem?_eq_none O]at he;cases he
   have hne:e≠d:=by
    intro e'
    subst e'
    have h2:=hok1.2 j hjl
    have hb:Nat.beq i j=false:=by
     cases h:Nat.beq i j with
     |false=>rfl
     |true=>exact absurd (Cc h).symm hji
    rw[hb,he]at h2
    simp at h2
   exact⟨u,by rw[hsame e hne];exact hu1,jG j u _ _ hG2 hu2⟩
def yx(l:List Oper)(bK:List (List Nat))(B:List Nat):Bool :=
 (List.range B.length).all (fun p=>match B[p]? with|none=>false|some b=>Nat.blt b l.length&&(List.range l.length).all fun i=>B.contains i&&!(B.take p).contains i||(bK.getD b []).contains i)&&
 (List.range l.length).all fun i=>B.contains i||(bK.getD i []).all fun j=>!B.contains j
def qM(l:List Oper):List Nat->List Oper
 |[]=>[]
 |b::B=>match l[b]? with|some o=>o::qM l B|none=>qM l B
theorem mU{ops:Array Oper}{Q':Exit->Act->World->Prop}(hq:∀e a w,Q e a w->Q' e a w):∀{L:List Oper}{a:Act}{w:World},WL r P ops Q L a w->WL r P ops Q' L a w
 |[],a,w,h=>hq _ _ _ h
 |o::L,a,w,h=>by
  have h':wpListIn (FW r) 0 P ops Q (o::L) a w:=h
  show wpListIn (FW r) 0 P ops Q' (o::L) a w
  unfold wpListIn at h'|-
  split
  ·rename_i hw
   rw[ay hw]at h'
   refine⟨h'.1,?_⟩
   have h2:=h'.2
   generalize(o.semAt (FW r).round a.eval).run P w=res at h2|-
   cases res with
   |ok x w1=>
    cases x with
    |value v=>exact mU hq h2
    |skip=>exact mU hq h2
    |defer d=>exact mU hq h2
    |enter f args=>exact⟨h2.1,h2.2.mono fun e w2 he=>by
      cases e with
      |returned v=>exact mU hq he
      |panicked ch=>exact hq _ _ _ he
      |outgrown=>obtain⟨x,y,h3⟩:=he;exact⟨x,y,hq _ _ _ h3⟩⟩
    |row rw_ args=>exact⟨h2.1,h2.2.mono fun v w2 he=>mU hq he⟩
    |round l f t YE b=>exact⟨h2.1,h2.2.mono fun e w2 he=>by
      cases e with
      |returned v=>exact mU hq he
      |panicked ch=>exact hq _ _ _ he
      |outgrown=>obtain⟨x,y,h3⟩:=he;exact⟨x,y,hq _ _ _ h3⟩⟩
    |_=>exact h2.elim
   |halt x w1=>
    cases x with
    |panic v=>exact hq _ _ _ h2
    |_=>exact h2.elim
  ·rename_i hw
   rw[au hw]at h'
   exact⟨h'.1,mU hq h'.2⟩
theorem asl{ops:Array Oper}{o:Oper}{L:List Oper}{K:Act->World->Prop}(hK:∀a w,WL r P ops (fun e a w=>e=.normal∧Q .normal a w) L a w->K a w)(h:WL r P ops (fun e a w=>e=.normal∧Q .normal a w) (o::L) a w):WL r P ops (fun e a' w'=>e=.normal∧K a' w') [o] a w:=by
 have h':wpListIn (FW r) 0 P ops (fun e a w=>e=.normal∧Q .normal a w) (o::L) a w:=h
 show wpListIn (FW r) 0 P ops _ [o] a w
 unfold wpListIn at h'|-
 split
 ·rename_i hw
  rw[ay hw]at h'
  refine⟨h'.1,?_⟩
  have h2:=h'.2
  generalize(o.semAt (FW r).round a.eval).run P w=res at h2|-
  cases res with
  |ok x w1=>
   cases x with
   |value v=>exact⟨M,hK _ _ h2⟩
   |skip=>exact⟨M,hK _ _ h2⟩
   |defer d=>exact⟨M,hK _ _ h2⟩
   |enter f args=>exact⟨h2.1,h2.2.mono fun e w2 he=>by
     cases e with
     |returned v=>exact⟨M,hK _ _ he⟩
     |panicked ch=>exact absurd he.1 (by simp)
     |outgrown=>obtain⟨_,_,h3,_⟩:=he;exact absurd h3 (by simp)⟩
   |row rw_ args=>exact⟨h2.1,h2.2.mono fun v w2 he=>⟨M,hK _ _ he⟩⟩
   |round l f t YE b=>exact⟨h2.1,h2.2.mono fun e w2 he=>by
     cases e with
     |returned v=>exact⟨M,hK _ _ he⟩
     |panicked ch=>exact absurd he.1 (by simp)
     |outgrown=>obtain⟨_,_,h3,_⟩:=he;exact absurd h3 (by simp)⟩
   |_=>exact h2.elim
  |halt x w1=>
   cases x with
   |panic v=>exact absurd h2.1 (by simp)
   |_=>exact h2.elim
 ·rename_i hw
  rw[au hw]at h'
  exact⟨h'.1,M,hK _ _ h'.2⟩
theorem avb{id:Nat}(hm:P.follows .mixedOrders=true)(bK:List (List Nat))(B:List Nat)(hk:xO l bK=true)(hB:yx l bK B=true)(pr:Nat->aj->GH->Prop)(jG:∀i v(G G':GH),(∀k o,G k=some o->G' k=some o)->pr i v G->pr i v G')
  (H:St N D w0 F G0 G L T a w)
  (hstep:∀i o S a w G1,l[i]?=some o->B.contains i=false->S i=false->(∀j∈bK.getD i [],S j=true)->(∀k o,G k=some o->G1 k=some o)->St N D w0 F G0 G1 L T a w->(∀i d,S i=true->dZ l i=some d->∃v,a.tmps[d]?=some v∧pr i v G1)->
   WL r P l.toArray (fun e a' w'=>e=.normal∧DX N D w0 F G0 G L T l pr (dD S i) a' w') [o] a w)
  (hend:∀a w G1,(∀k o,G k=some o->G1 k=some o)->St N D w0 F G0 G1 L T a w->(∀i d,B.contains i=false->dZ l i=some d->∃v,a.tmps[d]?=some v∧pr i v G1)->WL r P l.toArray (fun e a w=>e=.normal∧Q .normal a w) (qM l B) a w):WP r P (.region id l.toArray true) Q a w:=by
 have hB1:∀p b,B[p]?=some b->b<l.length∧∀i,i<l.length->(B.contains i=false∨(B.take p).contains i=true)->i∈bK.getD b []:=by
  intro p b hp
  simp only[yx,kV]at hB
  have h1:=lM.1 hB.1 p<|qo.2 (jJ.1 hp).1
  rw[hp]at h1
  simp only[kV,lM,qo]at h1
  refine⟨Eq.mp Nat.blt_eq h1.1,fun i hi hor=>?_⟩
  have h2:=h1.2 i hi
  rcases hor with h3|h3
  ·have h4:i∉B:=by simpa using h3
   simpa[h4]using h2
  ·have h4:i∈B.take p:=by simpa using h3
   simpa[h4]using h2
 have hB2:∀i,i<l.length->B.contains i=false->∀j∈bK.getD i [],B.contains j=false:=by
  intro i hi hb j hj
  simp only[yx,kV]at hB
  have h1:=lM.1 hB.2 i<|qo.2 hi
  rw[hb]at h1
  simp only[Bool.false_or,lM]at h1
  simpa using h1 j hj
 refine ZW hm bK hk (fun S a w=>((∀i,B.contains i=true->S i=false)∧DX N D w0 F G0 G L T l pr S a w)∨
   ∃p,(∀i,i<l.length->B.contains i=false->S i=true)∧(∀i,(B.take p).contains i=true->S i=true)∧(∀q b,B[q]?=some b->p<=q->S b=false)∧WL r P l.toArray (fun e a w=>e=.normal∧Q .normal a w) (qM l<|B.drop p) a w)
  (.inl ⟨fun _ _=>rfl,G,fun _ _ h=>h,H.move H.hp.drew,fun _ _ h=>by cases h⟩) ?_ ?_
 ·intro i o S a w ho hX aM jA hdesc
  have hil:i<l.length:=(jJ.1 ho).1
  by_cases hbi:B.contains i=true
  ·-- an operation of the tail: all that stands ahead of it is done
   obtain⟨p0,hp0⟩:=List.getElem?_of_mem (by simpa using hbi:i∈B)
   have hall:∀j,j<l.length->B.contains j=false->S j=true:=fun j hj hb=>jA j ((hB1 p0 i hp0).2 j hj (.inl hb))
   have abY:∃p,(∀i,(B.take p).contains i=true->S i=true)∧(∀q b,B[q]?=some b->p<=q->S b=false)∧WL r P l.toArray (fun e a w=>e=.normal∧Q .normal a w) (qM l<|B.drop p) a w:=by
    rcases hX with⟨h1,G1,hG,HS,hv⟩|⟨p,_,h2,h3,h4⟩
    ·refine⟨0,by simp,fun q b hq _=>h1 b (by simpa using lZ hq),hend a w G1 hG HS fun j e hb he=>?_⟩
     have hjl:j<l.length:=by
      unfold dZ at he
      by_cases hl:j<l.length
      ·exact hl
      ·rw[List.getElem?_eq_none O]at he;cases he
     exact hv j e (hall j hjl hb) he
    ·exact⟨p,h2,h3,h4⟩
   obtain⟨p,h2,h3,h4⟩:=abY
   -- i is the next one
   have hpp:p<=p0:=by
    rcases Nat.lt_or_ge p0 p with hlt|hge
    ·have:(B.take p).contains i=true:=by
      simp only[zK]
      exact lZ (i:=p0) (by rw[xG,ay hlt];exact hp0)
     rw[h2 i this]at aM;cases aM
    ·exact hge
   have Kr:p<B.length:=by have:=(jJ.1 hp0).1;omega
   have hbp:B[p]?=some B[p]:=gF Kr
   have heq:B[p]=i:=by
    rcases Nat.lt_or_ge p p0 with hlt|hge
    ·exfalso
     have hin:B[p]∈bK.getD i []:=(hB1 p0 i hp0).2 _ (hB1 p _ hbp).1 (.inr (by
      simp only[zK]
      exact lZ (i:=p) (by rw[xG,ay hlt];exact hbp)))
     have:=jA _ hin
     rw[h3 p _ hbp<|eP _]at this;cases this
    ·have:p=p0:=by omega
     subst this
     rw[hbp]at hp0;simpa using hp0
   have hdrop:B.drop p=i::B.drop (p+1):=by rw[mg Kr,heq]
   have hops:qM l (B.drop p)=o::qM l (B.drop<|p+1):=by rw[hdrop];simp[qM,ho]
   rw[hops]at h4
   refine asl (fun a' w' h5=>.inr ⟨p+1,fun j hj hb=>?_,fun j hj=>?_,fun q b hq hpq=>?_,h5⟩) h4
   ·unfold dD;split
    ·rfl
    ·exact hall j hj hb
   ·unfold dD;split
    ·rfl
    ·rename_i hne
     refine h2 j ?_
     simp only[zK]at hj|-
     rw[ji Kr,iF]at hj
     rcases hj with hj|hj
     ·exact hj
     ·simp only[oH]at hj;exact absurd (hj.trans heq) hne
   ·unfold dD
    rw[au ?_]
    ·exact h3 q b hq O
    ·rintro rfl
     -- i would stand twice in B: it would come ahead of itself
     have h6:=(hB1 q b hq).2 b (hB1 q b hq).1 (.inr (by
      simp only[zK]
      exact lZ (i:=p) (by rw[xG,ay O];rw[hbp,heq])))
     rw[jA _ h6]at aM;cases aM
  ·have CQ:B.contains i=false:=by cases h:B.contains i with|false=>rfl|true=>exact absurd h hbi
   rcases hX with⟨h1,G1,hG,HS,hv⟩|⟨p,h0,_,_,_⟩
   ·refine mU (fun e a' w'⟨he,hD⟩=>⟨he,.inl ⟨fun j hj=>?_,hD⟩⟩)<|hstep i o S a w G1 ho CQ aM jA hG HS hv
    unfold dD
    rw[au (by rintro rfl;rw[CQ]at hj;cases hj)]
    exact h1 j hj
   ·rw[h0 i hil CQ]at aM;cases aM
 ·intro S a w hall hX
  rcases hX with⟨h1,G1,hG,HS,hv⟩|⟨p,_,_,h3,h4⟩
  ·have hnil:B=[]:=by
    cases B with
    |nil=>rfl
    |cons b B=>have h5:=h1 b (by simp);rw[hall b (hB1 0 b M).1]at h5;cases h5
   subst hnil
   have h6:=hend a w G1 hG HS fun j e _ he=>by
    have hjl:j<l.length:=by
     unfold dZ at he
     by_cases hl:j<l.length
     ·exact hl
     ·rw[List.getElem?_eq_none O]at he;cases he
    exact hv j e (hall j hjl) he
   exact h6.2
  ·have hnil:B.drop p=[]:=by
    cases hd:B.drop p with
    |nil=>rfl
    |cons b B'=>
     have hb:B[p]?=some b:=by
      have:=cO (fun x:List Nat=>x[0]?) hd
      simpa using this
     have h5:=h3 p b hb<|eP _
     rw[hall b (hB1 p b hb).1]at h5;cases h5
   rw[hnil]at h4
   exact h4.2
def allI(φ:Nat->Oper->Prop):Nat->List Oper->Prop
 |_,[]=>True
 |i,o::r=>φ i o∧allI φ (i+1) r
theorem dz{φ:Nat->Oper->Prop}{i:Nat}:allI φ i []:=trivial
theorem bE{φ:Nat->Oper->Prop}{i:Nat}{o:Oper}{r:List Oper}(h:φ i o)(t:allI φ (i+1) r):allI φ i (o::r):=⟨h,t⟩
theorem zM{φ:Nat->Oper->Prop}:∀{l:List Oper}{s:Nat},allI φ s l->∀i o,l[i]?=some o->φ (s+i) o
 |[],s,_,i,o,h=>by simp at h
 |x::l,s,h,0,o,ho=>by simp at ho;subst ho;exact h.1
 |x::l,s,h,i+1,o,ho=>by
  have:=zM h.2 i o (by simpa using ho)
  rwa[show s+1+i=s+(i+1) by omega]at this
theorem yM{id:Nat}(hm:P.follows .mixedOrders=true)(bK:List (List Nat))(B:List Nat)(hk:xO l bK=true)(hB:yx l bK B=true)(pr:Nat->aj->GH->Prop)(jG:∀i v(G G':GH),(∀k o,G k=some o->G' k=some o)->pr i v G->pr i v G')
  (H:St N D w0 F G0 G L T a w)
  (hstep:allI (fun i o=>∀S a w G1,B.contains i=false->S i=false->(∀j∈bK.getD i [],S j=true)->(∀k o,G k=some o->G1 k=some o)->St N D w0 F G0 G1 L T a w->(∀i d,S i=true->dZ l i=some d->∃v,a.tmps[d]?=some v∧pr i v G1)->
   WL r P l.toArray (fun e a' w'=>e=.normal∧DX N D w0 F G0 G L T l pr (dD S i) a' w') [o] a w) 0 l)
  (hend:∀a w G1,(∀k o,G k=some o->G1 k=some o)->St N D w0 F G0 G1 L T a w->(∀i d,B.contains i=false->dZ l i=some d->∃v,a.tmps[d]?=some v∧pr i v G1)->WL r P l.toArray (fun e a w=>e=.normal∧Q .normal a w) (qM l B) a w):WP r P (.region id l.toArray true) Q a w :=
 avb hm bK B hk hB pr jG H (fun i o S a w G1 ho hb hs hc hg HS hv=>by
  have:=zM hstep i o ho
  rw[fB]at this
  exact this S a w G1 hb hs hc hg HS hv) hend
theorem aHJ{pr:Nat->aj->GH->Prop}{i d j t:Nat}{op:Op}{ty:TypeId}{pos:String}{aT:Array Edge}{want b:Bool}{bK:List (List Nat)}{B:List Nat}(hok:pz l T i=true)(jG:∀i v(G G':GH),(∀k o,G k=some o->G' k=some o)->pr i v G->pr i v G')
  (hi:dZ l i=some d)(hdl:Nat.blt i l.length=true)(hjd:dZ l j=some t)(hjc:(bK.getD i []).contains j=true)(hd:Nat.blt d N=true)(hb:∀v G,pr j v G->v=.bool b)(hbw:b=!want)(hu:∀G,pr i undef G) :
  ∀S a w G1,B.contains i=false->S i=false->(∀j∈bK.getD i [],S j=true)->(∀k o,G k=some o->G1 k=some o)->St N D w0 F G0 G1 L T a w->(∀i d,S i=true->dZ l i=some d->∃v,a.tmps[d]?=some v∧pr i v G1)->
   WL r P l.toArray (fun e a' w'=>e=.normal∧DX N D w0 F G0 G L T l pr (dD S i) a' w') [⟨some d,op,ty,pos,aT,some (j,want)⟩] a w:=by
 intro S a w G1 _ _ hc hG HT hv
 obtain⟨u,hu1,hu2⟩:=hv j t (hc j<|zK.1 hjc) hjd
 obtain rfl:=hb _ _ hu2
 have H:=(HT.fT hu1).full
 refine aqu H (by unfold dZ at hjd;simpa using hjd) (show lk ((t,Value.bool b)::(T++full N a)) t=_ by simp[lk]) hbw hd ?_
 intro a' H';exact aI ⟨M,qw (Xs:=(t,.bool b)::T) hok jG hi hdl HT H hG hv (fun _ _ h=>h) (hu G1) H'⟩
def Yx(pr:Nat->aj->GH->Prop):List (Nat×Nat×aj)->Prop
 |[]=>True
 |(j,_,u)::r=>(∀v G,pr j v G->v=u)∧Yx pr r
def EK(us:List (Nat×Nat×aj))(T:List (Nat×aj)):List (Nat×aj):=us.foldl (fun T x=>(x.2.1,x.2.2)::T) T
theorem afa{pr:Nat->aj->GH->Prop}{S:Nat->Bool}{ds:List Nat}:∀{us:List (Nat×Nat×aj)}{T:List (Nat×aj)},us.all (fun x=>ds.contains x.1&&(dZ l x.1==some x.2.1))=true->Yx pr us->(∀j∈ds,S j=true)->(∀i d,S i=true->dZ l i=some d->∃v,a.tmps[d]?=some v∧pr i v G1)->St N D w0 F G0 G1 L T a w->St N D w0 F G0 G1 L (EK us T) a w
 |[],_,_,_,_,_,H=>H
 |(j,t,u)::r,T,h,hu,hc,hv,H=>by
  simp only[List.all_cons,kV,beq_iff_eq]at h
  obtain⟨v,hv1,hv2⟩:=hv j t (hc j<|zK.1 h.1.1) h.1.2
  obtain rfl:=hu.1 v _ hv2
  exact afa (us:=r) h.2 hu.2 hc hv<|H.fT hv1
theorem dN{pr:Nat->aj->GH->Prop}{i d:Nat}{o:Oper}{bK:List (List Nat)}{B:List Nat}(us:List (Nat×Nat×aj))(FX:us.all (fun x=>(bK.getD i []).contains x.1&&(dZ l x.1==some x.2.1))=true)(hu:Yx pr us)(hok:pz l T i=true)(jG:∀i v(G G':GH),(∀k o,G k=some o->G' k=some o)->pr i v G->pr i v G')
  (hi:dZ l i=some d)(hdl:Nat.blt i l.length=true)
  (k:∀S a w G1,(∀k o,G k=some o->G1 k=some o)->St N D w0 F G0 G1 L T a w->St N D w0 F G0 G1 L (EK us T++full N a) a w->
   (∀{a' w' G2 v},St N D w0 F G0 G2 L ((d,v)::(EK us T++full N a)) a' w'->(∀k o,G1 k=some o->G2 k=some o)->pr i v G2->WL r P l.toArray (fun e a' w'=>e=.normal∧DX N D w0 F G0 G L T l pr (dD S i) a' w') [] a' w')->WL r P l.toArray (fun e a' w'=>e=.normal∧DX N D w0 F G0 G L T l pr (dD S i) a' w') [o] a w) :
  ∀S a w G1,B.contains i=false->S i=false->(∀j∈bK.getD i [],S j=true)->(∀k o,G k=some o->G1 k=some o)->St N D w0 F G0 G1 L T a w->(∀i d,S i=true->dZ l i=some d->∃v,a.tmps[d]?=some v∧pr i v G1)->
   WL r P l.toArray (fun e a' w'=>e=.normal∧DX N D w0 F G0 G L T l pr (dD S i) a' w') [o] a w:=by
 intro S a w G1 _ _ hc hG HT hv
 have H:=afa FX hu hc hv HT
 exact k S a w G1 hG HT H.full fun H' hG2 hp=>aI ⟨M,qw (Xs:=EK us T) hok jG hi hdl HT H.full hG hv hG2 hp H'⟩
end
end
section
section
variable{N:Nat}{D:List Deferred}{w0:World}{F:Nat->Prop}{G0 G:GH}{L:List (Nat×Obj)}{T:List (Nat×aj)}
variable{r:Option Nat}{P:Program}{ops:Array Oper}{Q:Exit->Act->World->Prop}{rest:List Oper}{w:World}
variable{d:Nat}{ty:TypeId}{pos:String}{aT:Array Edge}
theorem kH{a:Act}{l:List Oper}(H:St N D w0 F G0 G L T a w)(k:∀a,St N D w0 F G0 G L T a w->WL r P ops Q l a w):WL r P ops Q l a w:=k a H
theorem Rm{x:Operand}{v:aj}(h:(ev T x,Nat.blt d N)=(some v,true))(k:∀a',St N D w0 F G0 G L ((d,v)::T) a' w->WL r P ops Q rest a' w) :
  ∀a,St N D w0 F G0 G L T a w->WL r P ops Q (⟨some d,.move x,ty,pos,aT,none⟩::rest) a w:=fun _ H=>by
 simp only[jd]at h
 exact IQ H wn h.1 h.2 k
theorem Ra{x:Operand}{v:aj}(h:(ev T x,Nat.blt d N)=(some v,true))(k:∀a',St N D w0 F G0 G L ((d,v)::T) a' w->WL r P ops Q rest a' w) :
  ∀a,St N D w0 F G0 G L T a w->WL r P ops Q (⟨some d,.assign x,ty,pos,aT,none⟩::rest) a w:=fun _ H=>by
 simp only[jd]at h
 exact aGW H wn h.1 h.2 k
theorem Rc{op:BinOp}{x y:Operand}{t yt:TypeId}{kd:IntKind}{p q:Int}{b:Bool}(h:(ev T x,ev T y,P5 op p q,Nat.blt d N)=(some (.int kd p),some (.int kd q),some b,true))(k:∀a',St N D w0 F G0 G L ((d,.bool b)::T) a' w->WL r P ops Q rest a' w) :
  ∀a,St N D w0 F G0 G L T a w->WL r P ops Q (⟨some d,.binOp op t x y yt,ty,pos,aT,none⟩::rest) a w:=fun _ H=>by
 simp only[jd]at h
 exact KX H wn h.1 h.2.1 h.2.2.1 h.2.2.2 k
theorem Rf{s:TypeId}{x:Operand}{n b o off:Nat}(hs:dG P s n off)(h:(ev T x,Nat.blt d N)=(some (.pointer<|some ⟨b,o,none⟩),true))(k:∀a',St N D w0 F G0 G L ((d,.pointer<|some ⟨b,o+off,none⟩)::T) a' w->WL r P ops Q rest a' w) :
  ∀a,St N D w0 F G0 G L T a w->WL r P ops Q (⟨some d,.fieldAddr s x n,ty,pos,aT,none⟩::rest) a w:=fun _ H=>by
 simp only[jd]at h
 exact Oj hs H wn h.1 h.2 k
theorem Rn{x:Operand}{t:TypeId}{b:Bool}(h:(ev T x,Nat.blt d N)=(some (.bool b),true))(k:∀a',St N D w0 F G0 G L ((d,.bool (!b))::T) a' w->WL r P ops Q rest a' w) :
  ∀a,St N D w0 F G0 G L T a w->WL r P ops Q (⟨some d,.unOp .not t x,ty,pos,aT,none⟩::rest) a w:=fun _ H=>by
 simp only[jd]at h
 exact adP H wn h.1 h.2 k
theorem Rk{x:Operand}{p:Addr}(h:(ev T x,Nat.blt d N)=(some (.pointer<|some p),true))(k:∀a',St N D w0 F G0 G L ((d,.pointer<|some p)::T) a' w->WL r P ops Q rest a' w) :
  ∀a,St N D w0 F G0 G L T a w->WL r P ops Q (⟨some d,.nilCheck x,ty,pos,aT,none⟩::rest) a w:=fun _ H=>by
 simp only[jd]at h
 exact Gm H wn h.1 h.2 k
theorem Rl{x:Operand}{t e:TypeId}{A:Option Addr}{n c:Nat}(hs:P.underlying t=some (.slice e))(h:(ev T x,Nat.blt d N)=(some (.slice A n c),true))(k:∀a',St N D w0 F G0 G L ((d,.int .i64 n)::T) a' w->WL r P ops Q rest a' w) :
  ∀a,St N D w0 F G0 G L T a w->WL r P ops Q (⟨some d,.call { callee:=.builtin .len,args:=#[x],argTypes:=#[t] },ty,pos,aT,none⟩::rest) a w:=fun _ H=>by
 simp only[jd]at h
 exact adO hs H wn h.1 h.2 k
theorem Ro{t:TypeId}{sz bytes:Nat}{zero:List aj}(ht:Ty P t sz bytes zero false)(i:Nat){x:Operand}{b o:Nat}{v:aj}{c:Array aj}{e:TypeId}{fz:Nat×Nat}(h:(ev T x,L[i]?,Nat.blt d N,c[o]?)=(some (.pointer<|some ⟨b,o,none⟩),some (b,.cells c e fz),true,some v))
  (k:∀a',St N D w0 F G0 G L ((d,v)::T) a' w->WL r P ops Q rest a' w) :
  ∀a,St N D w0 F G0 G L T a w->WL r P ops Q (⟨some d,.load t x,ty,pos,aT,none⟩::rest) a w:=fun _ H=>by
 simp only[jd]at h
 exact vo ht H wn h.1 (H.hp.sD i h.2.1 h.2.2.2) h.2.2.1 k
theorem aV{d':Nat}{ty':TypeId}{pos':String}{atA:Array Edge}{s:TypeId}{x:Operand}{n b o off:Nat}(hs:dG P s n off){t:TypeId}{sz bytes:Nat}{zero:List aj}(ht:Ty P t sz bytes zero false)(i:Nat){v:aj}{c:Array aj}{e:TypeId}{fz:Nat×Nat}
  (h:(ev T x,Nat.blt d N)=(some (.pointer<|some ⟨b,o,none⟩),true))(h':(L[i]?,Nat.blt d' N,c[o+off]?)=(some (b,.cells c e fz),true,some v))
  (k:∀a',St N D w0 F G0 G L ((d',v)::(d,.pointer<|some ⟨b,o+off,none⟩)::T) a' w->WL r P ops Q rest a' w) :
  ∀a,St N D w0 F G0 G L T a w->WL r P ops Q (⟨some d,.fieldAddr s x n,ty,pos,aT,none⟩::⟨some d',.load t (.tmp d),ty',pos',atA,none⟩::rest) a w :=
 Rf hs h (Ro ht i (by simp only[jd]at h'|-;exact⟨mq ..,h'.1,h'.2.1,h'.2.2⟩) k)
theorem lv{a:Act}{fn:Func}{t:Nat}{v:aj}{R:Ending->World->Prop}(H:St N [] w0 F G0 G L T a w)(hr:fn.results=#[.tmp t])(h:lk T t=some v)(hR:R (.returned v) w):bodyPostM (FW none) 0 P fn R .ret a w :=
 (leave1 H (rs:=[.tmp t]) hr (.cons (cK H h) .nil) hR).1
theorem St.rt{a:Act}{R:aj->GH->Prop}{v:aj}(H:St N D w0 (fun k=>k<w0.heap.size) G0 G L T a w)(hR:R v G):bD w0 G0 R (.returned v) w:=H.hp.ret hR
theorem St.ro{a:Act}(H:St N D w0 F G0 G L T a w):∀k o,G k=some o->w.heap[k]?=some o:=H.hp.ro
theorem iJ{H:GH}:∀k o,H k=some o->H k=some o:=fun _ _ h=>h
end
theorem eN{N:Nat}{w:World}{G:GH}{P:Program}(T:List (Nat×aj)){f:FuncId}{fn:Func}{c:Code}{vs:List aj}{R:Ending->World->Prop}(hf:P.funcs[f]?=some fn)(hb:fn.body=some c)(hN:fn.ntmps=N)(hle:Nat.ble vs.length N=true)
  (hT:Jq 0 vs=T)(hG:Hold G w)(h:∀a,St N [] w (fun k=>k<w.heap.size) G G [] T a w->WP none P c (bodyPostM (FW none) 0 P fn R) a w):Calls P f vs.toArray w R :=
 enter hf hb hN hle hT hG (fun _ h=>h) (fun _ h=>by cases h) (fun _ h=>by cases h) (fun _ h=>by cases h) List.Pairwise.nil h
def pvW:List aj->Nat->aj->Prop
 |[],_,_=>True
 |x::_,0,v=>v=x
 |_::l,i+1,v=>pvW l i v
def pvV(vs:List aj)(i:Nat)(v:aj)(_:GH):Prop:=pvW vs i v
section
variable{N:Nat}{D:List Deferred}{w0:World}{F:Nat->Prop}{G0 G:GH}{L:OL}{T:List (Nat×aj)}
variable{P:Program}{l:List Oper}{r:Option Nat}
abbrev O5(N:Nat)(D:List Deferred)(w0:World)(F:Nat->Prop)(G0 G:GH)(L:OL)(T:List (Nat×aj))(r:Option Nat)(P:Program)(l:List Oper)(pr:Nat->aj->GH->Prop)(i d:Nat)(o:Oper)(us:List (Nat×Nat×aj)):Prop :=
 ∀S a w G1,(∀k o,G k=some o->G1 k=some o)->St N D w0 F G0 G1 L T a w->St N D w0 F G0 G1 L (EK us T++full N a) a w->
   (∀{a' w' G2 v},St N D w0 F G0 G2 L ((d,v)::(EK us T++full N a)) a' w'->(∀k o,G1 k=some o->G2 k=some o)->pr i v G2->WL r P l.toArray (fun e a' w'=>e=.normal∧DX N D w0 F G0 G L T l pr (dD S i) a' w') [] a' w')->WL r P l.toArray (fun e a' w'=>e=.normal∧DX N D w0 F G0 G L T l pr (dD S i) a' w') [o] a w
abbrev yH(N:Nat)(D:List Deferred)(w0:World)(F:Nat->Prop)(G0 G:GH)(L:OL)(T:List (Nat×aj))(r:Option Nat)(P:Program)(l:List Oper)(bK:List (List Nat))(B:List Nat)(pr:Nat->aj->GH->Prop)(i:Nat)(o:Oper):Prop :=
 ∀S a w G1,B.contains i=false->S i=false->(∀j∈bK.getD i [],S j=true)->(∀k o,G k=some o->G1 k=some o)->St N D w0 F G0 G1 L T a w->(∀i d,S i=true->dZ l i=some d->∃v,a.tmps[d]?=some v∧pr i v G1)->
   WL r P l.toArray (fun e a' w'=>e=.normal∧DX N D w0 F G0 G L T l pr (dD S i) a' w') [o] a w
variable{pr:Nat->aj->GH->Prop}{i d:Nat}{o:Oper}{bK:List (List Nat)}{B:List Nat}
theorem Ye(h:(dZ l i,Nat.blt i l.length)=(some d,true))(k:O5 N D w0 F G0 G L T r P l pr i d o [])
  (hok:pz l T i=true:=by kernel_rfl)(jG:∀i v(G G':GH),(∀k o,G k=some o->G' k=some o)->pr i v G->pr i v G':=by exact fun _ _ _ _ _ h=>h):yH N D w0 F G0 G L T r P l bK B pr i o:=by
 simp only[jd]at h
 exact dN [] M trivial hok jG h.1 h.2 k
theorem iE(j t:Nat){x:aj}(h:(dZ l i,Nat.blt i l.length,[(j,t,x)].all<|fun x=>(bK.getD i []).contains x.1&&(dZ l x.1==some x.2.1))=(some d,true,true))(hu:pr j=fun v _=>v=x)(k:O5 N D w0 F G0 G L T r P l pr i d o [(j,t,x)])
  (hok:pz l T i=true:=by kernel_rfl)(jG:∀i v(G G':GH),(∀k o,G k=some o->G' k=some o)->pr i v G->pr i v G':=by exact fun _ _ _ _ _ h=>h):yH N D w0 F G0 G L T r P l bK B pr i o:=by
 simp only[jd]at h
 exact dN _ h.2.2 ⟨fun v G h=>by rw[hu]at h;exact h,aC⟩ hok jG h.1 h.2.1 k
theorem fu(j t j' t':Nat){x x':aj}(h:(dZ l i,Nat.blt i l.length,[(j,t,x),(j',t',x')].all<|fun x=>(bK.getD i []).contains x.1&&(dZ l x.1==some x.2.1))=(some d,true,true))(hu:(pr j,pr j')=(fun v _=>v=x,fun v _=>v=x'))(k:O5 N D w0 F G0 G L T r P l pr i d o [(j,t,x),(j',t',x')])
  (hok:pz l T i=true:=by kernel_rfl)(jG:∀i v(G G':GH),(∀k o,G k=some o->G' k=some o)->pr i v G->pr i v G':=by exact fun _ _ _ _ _ h=>h):yH N D w0 F G0 G L T r P l bK B pr i o:=by
 simp only[jd]at h hu
 exact dN _ h.2.2 ⟨fun v G h=>by rw[hu.1]at h;exact h,fun v G h=>by rw[hu.2]at h;exact h,aC⟩ hok jG h.1 h.2.1 k
theorem xC(j t j' t' j2 t2:Nat){x x' x2:aj}(h:(dZ l i,Nat.blt i l.length,[(j,t,x),(j',t',x'),(j2,t2,x2)].all<|fun x=>(bK.getD i []).contains x.1&&(dZ l x.1==some x.2.1))=(some d,true,true))(hu:(pr j,pr j',pr j2)=(fun v _=>v=x,fun v _=>v=x',fun v _=>v=x2))(k:O5 N D w0 F G0 G L T r P l pr i d o [(j,t,x),(j',t',x'),(j2,t2,x2)])
  (hok:pz l T i=true:=by kernel_rfl)(jG:∀i v(G G':GH),(∀k o,G k=some o->G' k=some o)->pr i v G->pr i v G':=by exact fun _ _ _ _ _ h=>h):yH N D w0 F G0 G L T r P l bK B pr i o:=by
 simp only[jd]at h hu
 exact dN _ h.2.2 ⟨fun v G h=>by rw[hu.1]at h;exact h,fun v G h=>by rw[hu.2.1]at h;exact h,fun v G h=>by rw[hu.2.2]at h;exact h,aC⟩ hok jG h.1 h.2.1 k
theorem aL(j:Nat){t:Nat}{op:Op}{ty:TypeId}{pos:String}{aT:Array Edge}{want b b':Bool}(he:b'=b)(h:(dZ l i,Nat.blt i l.length,dZ l j,(bK.getD i []).contains j,Nat.blt d N,b,b)=(some d,true,some t,true,true,!want,b))(hv:pr j=fun v _=>v=.bool b')
  (hok:pz l T i=true:=by kernel_rfl)(jG:∀i v(G G':GH),(∀k o,G k=some o->G' k=some o)->pr i v G->pr i v G':=by exact fun _ _ _ _ _ h=>h)(hu:∀G,pr i undef G:=by exact fun _=>rfl):yH N D w0 F G0 G L T r P l bK B pr i ⟨some d,op,ty,pos,aT,some (j,want)⟩:=by
 simp only[jd]at h
 exact aHJ (b:=b) hok jG h.1 h.2.1 h.2.2.1 h.2.2.2.1 h.2.2.2.2.1 (fun v G g=>by rw[hv]at g;rw[<-he];exact g) h.2.2.2.2.2.1 hu
theorem bX{X:(Nat->Bool)->Act->World->GH->Prop}{b:Bool}(h:b=true):∀S a w G1,b=false->X S a w G1:=fun _ _ _ _ hB=>by rw[h]at hB;cases hB
theorem aD{φ:Nat->Oper->Prop}{i:Nat}{o1 o2 o3 o4:Oper}{r:List Oper}(h1:φ i o1)(h2:φ (i+1) o2)(h3:φ (i+1+1) o3)(h4:φ (i+1+1+1) o4)(t:allI φ (i+1+1+1+1) r):allI φ i (o1::o2::o3::o4::r):=⟨h1,h2,h3,h4,t⟩
end
section
variable{N:Nat}{D:List Deferred}{w0:World}{F:Nat->Prop}{G0 G:GH}{L:List (Nat×Obj)}{T:List (Nat×aj)}
variable{r:Option Nat}{P:Program}{ops:Array Oper}{Q:Exit->Act->World->Prop}{rest:List Oper}{w:World}
variable{d:Nat}{ty:TypeId}{pos:String}{aT:Array Edge}{j t:Nat}{want b:Bool}
theorem YM{x:Operand}{v:aj}(hb:b=want)(h:((ops[j]?).bind (·.dst),lk T t,ev T x,Nat.blt d N)=(some t,some (.bool b),some v,true))(k:∀a',St N D w0 F G0 G L ((d,v)::T) a' w->WL r P ops Q rest a' w) :
  ∀a,St N D w0 F G0 G L T a w->WL r P ops Q (⟨some d,.move x,ty,pos,aT,some (j,want)⟩::rest) a w:=fun _ H=>by
 simp only[jd]at h
 exact IQ H (wg H h.1 h.2.1 hb) h.2.2.1 h.2.2.2 k
theorem YN{x:Operand}{y:TypeId}{v:Bool}(hb:b=want)(h:((ops[j]?).bind (·.dst),lk T t,ev T x,Nat.blt d N)=(some t,some (.bool b),some (.bool v),true))(k:∀a',St N D w0 F G0 G L ((d,.bool (!v))::T) a' w->WL r P ops Q rest a' w) :
  ∀a,St N D w0 F G0 G L T a w->WL r P ops Q (⟨some d,.unOp .not y x,ty,pos,aT,some (j,want)⟩::rest) a w:=fun _ H=>by
 simp only[jd]at h
 exact adP H (wg H h.1 h.2.1 hb) h.2.2.1 h.2.2.2 k
theorem YC{op:BinOp}{x y:Operand}{u yt:TypeId}{kd:IntKind}{p q:Int}{c:Bool}(hb:b=want)(h:((ops[j]?).bind (·.dst),lk T t,ev T x,ev T y,P5 op p q,Nat.blt d N)=(some t,some (.bool b),some (.int kd p),some (.int kd q),some c,true))(k:∀a',St N D w0 F G0 G L ((d,.bool c)::T) a' w->WL r P ops Q rest a' w) :
  ∀a,St N D w0 F G0 G L T a w->WL r P ops Q (⟨some d,.binOp op u x y yt,ty,pos,aT,some (j,want)⟩::rest) a w:=fun _ H=>by
 simp only[jd]at h
 exact KX H (wg H h.1 h.2.1 hb) h.2.2.1 h.2.2.2.1 h.2.2.2.2.1 h.2.2.2.2.2 k
theorem YF{s:TypeId}{x:Operand}{n e o off:Nat}(hs:dG P s n off)(hb:b=want)(h:((ops[j]?).bind (·.dst),lk T t,ev T x,Nat.blt d N)=(some t,some (.bool b),some (.pointer<|some ⟨e,o,none⟩),true))(k:∀a',St N D w0 F G0 G L ((d,.pointer<|some ⟨e,o+off,none⟩)::T) a' w->WL r P ops Q rest a' w) :
  ∀a,St N D w0 F G0 G L T a w->WL r P ops Q (⟨some d,.fieldAddr s x n,ty,pos,aT,some (j,want)⟩::rest) a w:=fun _ H=>by
 simp only[jd]at h
 exact Oj hs H (wg H h.1 h.2.1 hb) h.2.2.1 h.2.2.2 k
theorem YO{u:TypeId}{sz bytes:Nat}{zero:List aj}(ht:Ty P u sz bytes zero false)(i:Nat){x:Operand}{e o:Nat}{v:aj}{c:Array aj}{y:TypeId}{fz:Nat×Nat}(hb:b=want)(h:((ops[j]?).bind (·.dst),lk T t,ev T x,L[i]?,Nat.blt d N,c[o]?)=(some t,some (.bool b),some (.pointer<|some ⟨e,o,none⟩),some (e,.cells c y fz),true,some v))
  (k:∀a',St N D w0 F G0 G L ((d,v)::T) a' w->WL r P ops Q rest a' w) :
  ∀a,St N D w0 F G0 G L T a w->WL r P ops Q (⟨some d,.load u x,ty,pos,aT,some (j,want)⟩::rest) a w:=fun _ H=>by
 simp only[jd]at h
 exact vo ht H (wg H h.1 h.2.1 hb) h.2.2.1 (H.hp.sD i h.2.2.2.1 h.2.2.2.2.2) h.2.2.2.2.1 k
theorem YR{u:TypeId}{sz bytes:Nat}{zero:List aj}(ht:Ty P u sz bytes zero false){x:Operand}{e o:Nat}{v:aj}(hb:b=want)(h:((ops[j]?).bind (·.dst),lk T t,ev T x,Nat.blt d N)=(some t,some (.bool b),some (.pointer<|some ⟨e,o,none⟩),true))(hv:aJ G e o=some v)
  (k:∀a',St N D w0 F G0 G L ((d,v)::T) a' w->WL r P ops Q rest a' w) :
  ∀a,St N D w0 F G0 G L T a w->WL r P ops Q (⟨some d,.load u x,ty,pos,aT,some (j,want)⟩::rest) a w:=fun _ H=>by
 simp only[jd]at h
 exact vo ht H (wg H h.1 h.2.1 hb) h.2.2.1 (H.hp.aJ hv) h.2.2.2 k
theorem Rg{u:TypeId}{sz bytes:Nat}{zero:List aj}(ht:Ty P u sz bytes zero false){x:Operand}{e o:Nat}{v:aj}(h:(ev T x,Nat.blt d N)=(some (.pointer<|some ⟨e,o,none⟩),true))(hv:aJ G e o=some v)
  (k:∀a',St N D w0 F G0 G L ((d,v)::T) a' w->WL r P ops Q rest a' w) :
  ∀a,St N D w0 F G0 G L T a w->WL r P ops Q (⟨some d,.load u x,ty,pos,aT,none⟩::rest) a w:=fun _ H=>by
 simp only[jd]at h
 exact vo ht H wn h.1 (H.hp.aJ hv) h.2 k
theorem YL{x:Operand}{u e:TypeId}{A:Option Addr}{n c:Nat}(hs:P.underlying u=some (.slice e))(hb:b=want)(h:((ops[j]?).bind (·.dst),lk T t,ev T x,Nat.blt d N)=(some t,some (.bool b),some (.slice A n c),true))(k:∀a',St N D w0 F G0 G L ((d,.int .i64 n)::T) a' w->WL r P ops Q rest a' w) :
  ∀a,St N D w0 F G0 G L T a w->WL r P ops Q (⟨some d,.call { callee:=.builtin .len,args:=#[x],argTypes:=#[u] },ty,pos,aT,some (j,want)⟩::rest) a w:=fun _ H=>by
 simp only[jd]at h
 exact adO hs H (wg H h.1 h.2.1 hb) h.2.2.1 h.2.2.2 k
theorem Ks{op:Op}(hb:b=!want)(h:((ops[j]?).bind (·.dst),lk T t,Nat.blt d N)=(some t,some (.bool b),true))(k:∀a',St N D w0 F G0 G L ((d,undef)::T) a' w->WL r P ops Q rest a' w) :
  ∀a,St N D w0 F G0 G L T a w->WL r P ops Q (⟨some d,op,ty,pos,aT,some (j,want)⟩::rest) a w:=fun _ H=>by
 simp only[jd]at h
 exact aqu H h.1 h.2.1 hb h.2.2 k
theorem aU{d2:Nat}{o1 o2:Op}{ty2:TypeId}{pos2:String}{Yw:Array Edge}(hb:b=!want)(h:((ops[j]?).bind (·.dst),lk T t,lk ((d,undef)::T) t,Nat.blt d N,Nat.blt d2 N)=(some t,some (.bool b),some (.bool b),true,true))(k:∀a',St N D w0 F G0 G L ((d2,undef)::(d,undef)::T) a' w->WL r P ops Q rest a' w) :
  ∀a,St N D w0 F G0 G L T a w->WL r P ops Q (⟨some d,o1,ty,pos,aT,some (j,want)⟩::⟨some d2,o2,ty2,pos2,Yw,some (j,want)⟩::rest) a w:=by
 simp only[jd]at h
 exact Ks hb (by rw[h.1,h.2.1,h.2.2.2.1]) (Ks hb (by rw[h.1,h.2.2.1,h.2.2.2.2]) k)
theorem bJ{d2 d3:Nat}{o1 o2 o3:Op}{ty2 ty3:TypeId}{pos2 aF3:String}{Yw atB:Array Edge}(hb:b=!want)(h:((ops[j]?).bind (·.dst),lk T t,lk ((d,undef)::T) t,lk ((d2,undef)::(d,undef)::T) t,Nat.blt d N,Nat.blt d2 N,Nat.blt d3 N)=(some t,some (.bool b),some (.bool b),some (.bool b),true,true,true))(k:∀a',St N D w0 F G0 G L ((d3,undef)::(d2,undef)::(d,undef)::T) a' w->WL r P ops Q rest a' w) :
  ∀a,St N D w0 F G0 G L T a w->WL r P ops Q (⟨some d,o1,ty,pos,aT,some (j,want)⟩::⟨some d2,o2,ty2,pos2,Yw,some (j,want)⟩::⟨some d3,o3,ty3,aF3,atB,some (j,want)⟩::rest) a w:=by
 simp only[jd]at h
 exact Ks hb (by rw[h.1,h.2.1,h.2.2.2.2.1]) (aU hb (by rw[h.1,h.2.2.1,h.2.2.2.1,h.2.2.2.2.2.1,h.2.2.2.2.2.2]) k)
theorem Ku{op:Op}(h:((ops[j]?).bind (·.dst),lk T t,Nat.blt d N)=(some t,some undef,true))(k:∀a',St N D w0 F G0 G L ((d,undef)::T) a' w->WL r P ops Q rest a' w) :
  ∀a,St N D w0 F G0 G L T a w->WL r P ops Q (⟨some d,op,ty,pos,aT,some (j,want)⟩::rest) a w:=fun _ H=>by
 simp only[jd]at h
 exact aHa H h.1 h.2.1 h.2.2 k
theorem Pt{c x y:Operand}{v:aj}(hb:b=true)(h:(ev T c,ev T x,Nat.blt d N)=(some (.bool b),some v,true))(k:∀a',St N D w0 F G0 G L ((d,v)::T) a' w->WL r P ops Q rest a' w) :
  ∀a,St N D w0 F G0 G L T a w->WL r P ops Q (⟨some d,.pick c x y,ty,pos,aT,none⟩::rest) a w:=fun _ H=>by
 simp only[jd]at h
 exact Ol H wn h.1 hb h.2.1 h.2.2 k
theorem Pf{c x y:Operand}{v:aj}(hb:b=false)(h:(ev T c,ev T y,Nat.blt d N)=(some (.bool b),some v,true))(k:∀a',St N D w0 F G0 G L ((d,v)::T) a' w->WL r P ops Q rest a' w) :
  ∀a,St N D w0 F G0 G L T a w->WL r P ops Q (⟨some d,.pick c x y,ty,pos,aT,none⟩::rest) a w:=fun _ H=>by
 simp only[jd]at h
 exact R6 H wn h.1 hb h.2.1 h.2.2 k
theorem PT{c x y:Operand}{v:aj}{b':Bool}(hb:b=want)(hb':b'=true)(h:((ops[j]?).bind (·.dst),lk T t,ev T c,ev T x,Nat.blt d N)=(some t,some (.bool b),some (.bool b'),some v,true))(k:∀a',St N D w0 F G0 G L ((d,v)::T) a' w->WL r P ops Q rest a' w) :
  ∀a,St N D w0 F G0 G L T a w->WL r P ops Q (⟨some d,.pick c x y,ty,pos,aT,some (j,want)⟩::rest) a w:=fun _ H=>by
 simp only[jd]at h
 exact Ol H (wg H h.1 h.2.1 hb) h.2.2.1 hb' h.2.2.2.1 h.2.2.2.2 k
theorem PF{c x y:Operand}{v:aj}{b':Bool}(hb:b=want)(hb':b'=false)(h:((ops[j]?).bind (·.dst),lk T t,ev T c,ev T y,Nat.blt d N)=(some t,some (.bool b),some (.bool b'),some v,true))(k:∀a',St N D w0 F G0 G L ((d,v)::T) a' w->WL r P ops Q rest a' w) :
  ∀a,St N D w0 F G0 G L T a w->WL r P ops Q (⟨some d,.pick c x y,ty,pos,aT,some (j,want)⟩::rest) a w:=fun _ H=>by
 simp only[jd]at h
 exact R6 H (wg H h.1 h.2.1 hb) h.2.2.1 hb' h.2.2.2.1 h.2.2.2.2 k
theorem Ri{s e:TypeId}{sz bytes:Nat}{zero:List aj}{agg:Bool}(hs:P.underlying s=some (.slice e))(ht:Ty P e sz bytes zero agg){x y:Operand}{q o n c:Nat}{kd:IntKind}{z:Int}{i:Nat}
  (h:(ev T x,ev T y,Nat.blt d N)=(some (.slice (some ⟨q,o,none⟩) n c),some (.int kd z),true))(hz:z=(i:Int))(k:∀a',St N D w0 F G0 G L ((d,.pointer<|some ⟨q,o+i*sz,none⟩)::T) a' w->WL r P ops Q rest a' w)(hn:i<n:=by first|assumption|omega) :
  ∀a,St N D w0 F G0 G L T a w->WL r P ops Q (⟨some d,.indexAddr s x y,ty,pos,aT,none⟩::rest) a w:=fun _ H=>by
 simp only[jd]at h
 exact Dp hs ht i H wn h.1 h.2.1 hz hn h.2.2 k
theorem YI{s e:TypeId}{sz bytes:Nat}{zero:List aj}{agg:Bool}(hs:P.underlying s=some (.slice e))(ht:Ty P e sz bytes zero agg){x y:Operand}{q o n c:Nat}{kd:IntKind}{z:Int}{i:Nat}(hb:b=want)
  (h:((ops[j]?).bind (·.dst),lk T t,ev T x,ev T y,Nat.blt d N)=(some t,some (.bool b),some (.slice (some ⟨q,o,none⟩) n c),some (.int kd z),true))(hz:z=(i:Int))(k:∀a',St N D w0 F G0 G L ((d,.pointer<|some ⟨q,o+i*sz,none⟩)::T) a' w->WL r P ops Q rest a' w)(hn:i<n:=by first|assumption|omega) :
  ∀a,St N D w0 F G0 G L T a w->WL r P ops Q (⟨some d,.indexAddr s x y,ty,pos,aT,some (j,want)⟩::rest) a w:=fun _ H=>by
 simp only[jd]at h
 exact Dp hs ht i H (wg H h.1 h.2.1 hb) h.2.2.1 h.2.2.2.1 hz hn h.2.2.2.2 k
theorem Rd{x y:Operand}{u yt:TypeId}{p q z:Int}(h:(ev T x,ev T y,p+q,Nat.blt d N)=(some (.int .i64 p),some (.int .i64 q),z,true))(k:∀a',St N D w0 F G0 G L ((d,.int .i64 z)::T) a' w->WL r P ops Q rest a' w)(h1:-9223372036854775808<=z:=by omega)(h2:z<9223372036854775808:=by omega) :
  ∀a,St N D w0 F G0 G L T a w->WL r P ops Q (⟨some d,.binOp .add u x y yt,ty,pos,aT,none⟩::rest) a w:=fun _ H=>by
 simp only[jd]at h
 exact EC z H wn h.1 h.2.1 h.2.2.1 h1 h2 h.2.2.2 k
theorem Rs{x y:Operand}{u yt:TypeId}{p q z:Int}(h:(ev T x,ev T y,p-q,Nat.blt d N)=(some (.int .i64 p),some (.int .i64 q),z,true))(k:∀a',St N D w0 F G0 G L ((d,.int .i64 z)::T) a' w->WL r P ops Q rest a' w)(h1:-9223372036854775808<=z:=by omega)(h2:z<9223372036854775808:=by omega) :
  ∀a,St N D w0 F G0 G L T a w->WL r P ops Q (⟨some d,.binOp .sub u x y yt,ty,pos,aT,none⟩::rest) a w:=fun _ H=>by
 simp only[jd]at h
 exact EH z H wn h.1 h.2.1 h.2.2.1 h1 h2 h.2.2.2 k
theorem Rv{x:Operand}{u:TypeId}{s:ByteArray}(hs:P.underlying u=some .string)(h:(ev T x,Nat.blt d N)=(some (.string s),true))(k:∀a',St N D w0 F G0 G L ((d,.int .i64 s.size)::T) a' w->WL r P ops Q rest a' w) :
  ∀a,St N D w0 F G0 G L T a w->WL r P ops Q (⟨some d,.call { callee:=.builtin .len,args:=#[x],argTypes:=#[u] },ty,pos,aT,none⟩::rest) a w:=fun _ H=>by
 simp only[jd]at h
 exact Gj hs H wn h.1 h.2 k
theorem Kz{X:Act->World->Prop}(hK:∀a w,X a w->WL r P ops Q [] a w)(k:∀a,St N D w0 F G0 G L T a w->X a w):∀a,St N D w0 F G0 G L T a w->WL r P ops Q [] a w:=fun a H=>hK a w<|k a H
theorem Kn{X:Act->World->Prop}(hK:∀a w,X a w->Q .normal a w)(k:∀a,St N D w0 F G0 G L T a w->X a w):∀a,St N D w0 F G0 G L T a w->WL r P ops Q [] a w:=fun a H=>aI<|hK a w<|k a H
theorem ak{X:Act->World->Prop}{x:Operand}{v:aj}(hK:∀a w,X a w->WL r P ops Q [] a w)(h:(ev T x,Nat.blt d N)=(some v,true))(k:∀a',St N D w0 F G0 G L ((d,v)::T) a' w->X a' w):∀a,St N D w0 F G0 G L T a w->WL r P ops Q [⟨some d,.assign x,ty,pos,aT,none⟩] a w:=Ra h<|Kz hK k
theorem bZ{X:Act->World->Prop}{x:Operand}{v:aj}(hK:∀a w,X a w->Q .normal a w)(h:(ev T x,Nat.blt d N)=(some v,true))(k:∀a',St N D w0 F G0 G L ((d,v)::T) a' w->X a' w):∀a,St N D w0 F G0 G L T a w->WL r P ops Q [⟨some d,.assign x,ty,pos,aT,none⟩] a w:=Ra h<|Kn hK k
theorem Kc{X:Act->World->Prop}(hK:∀a w,X a w->Q .normal a w)(k:∀a,St N D w0 F G0 G L T a w->X a w):∀a,St N D w0 F G0 G L T a w->WP r P .skip Q a w:=fun a H=>fU<|hK a w<|k a H
theorem SR{id:Nat}{l:List Oper}{y:Code}(h:∀K:Act->World->Prop,(∀a w,WP r P y Q a w->WL r P l.toArray (Exit.then K Q) [] a w)->∀a,St N D w0 F G0 G L T a w->WL r P l.toArray (Exit.then K Q) l a w):∀a,St N D w0 F G0 G L T a w->WP r P (.seq (.region id l.toArray false) y) Q a w:=fun a H=>dw fun K hK=>h K hK a H
theorem SQ{x y:Code}(h:∀K:Act->World->Prop,(∀a w,WP r P y Q a w->K a w)->∀a,St N D w0 F G0 G L T a w->WP r P x (Exit.then K Q) a w):∀a,St N D w0 F G0 G L T a w->WP r P (.seq x y) Q a w:=fun a H=>bU fun K hK=>h K hK a H
theorem SC{id:Nat}{l:List Oper}(h:∀a,St N D w0 F G0 G L T a w->WL r P l.toArray Q l a w):∀a,St N D w0 F G0 G L T a w->WP r P (.region id l.toArray false) Q a w:=fun a H=>mF<|h a H
theorem SB{id:Nat}{c:Code}(h:∀a,St N D w0 F G0 G L T a w->WP r P c (Exit.inBlock id Q) a w):∀a,St N D w0 F G0 G L T a w->WP r P (.block id c) Q a w:=fun a H=>xK<|h a H
theorem kP{a:Act}{c:Code}(H:St N D w0 F G0 G L T a w)(k:∀a,St N D w0 F G0 G L T a w->WP r P c Q a w):WP r P c Q a w:=k a H
theorem lr{a:Act}{fn:Func}{v:aj}{R:Ending->World->Prop}(H:St N [] w0 F G0 G L T a w)(hr:fn.results=#[.tmp t])(hQ:(lk T t,Q .ret a w)=(some v,bodyPostM (FW none) 0 P fn R .ret a w))(hR:R (.returned v) w):WP none P .ret Q a w:=by
 simp only[jd]at hQ
 exact eH (by rw[hQ.2];exact lv H hr hQ.1 hR)
theorem dT{p:Prop}[Decidable p](h:decide p=true):p:=mW h
theorem dF{p:Prop}[Decidable p](h:decide p=false):¬p:=of_decide_eq_false h
end
section
variable{N:Nat}{D:List Deferred}{w0:World}{F:Nat->Prop}{G0 G:GH}{L:OL}{T:List (Nat×aj)}
variable{P:Program}{l:List Oper}{r:Option Nat}{pr:Nat->aj->GH->Prop}{i d:Nat}{o:Oper}{bK:List (List Nat)}{B:List Nat}{v:aj}
abbrev DV(N:Nat)(D:List Deferred)(w0:World)(F:Nat->Prop)(G0 G:GH)(L:OL)(T:List (Nat×aj))(r:Option Nat)(P:Program)(l:List Oper)(d:Nat)(v:aj)(o:Oper)(us:List (Nat×Nat×aj)):Prop :=
 ∀{Q:Exit->Act->World->Prop}{a:Act}{w:World}{G1:GH}(_:∀k o,G k=some o->G1 k=some o),(∀a',St N D w0 F G0 G1 L ((d,v)::(EK us T++full N a)) a' w->WL r P l.toArray Q [] a' w)->∀a',St N D w0 F G0 G1 L (EK us T++full N a) a' w->WL r P l.toArray Q [o] a' w
abbrev SY(N:Nat)(D:List Deferred)(w0:World)(F:Nat->Prop)(G0 G:GH)(L:OL)(T:List (Nat×aj))(r:Option Nat)(P:Program)(l:List Oper)(d:Nat)(v:aj)(o:Oper)(us:List (Nat×Nat×aj)):Prop :=
 ∀{Q:Exit->Act->World->Prop}{a:Act}{w:World}{G1:GH},(∀a',St N D w0 F G0 G1 L ((d,v)::(EK us T++full N a)) a' w->WL r P l.toArray Q [] a' w)->∀a',St N D w0 F G0 G1 L (EK us T++full N a) a' w->WL r P l.toArray Q [o] a' w
theorem DV.k{us:List (Nat×Nat×aj)}(hv:pr i=fun u _=>u=v)(k:DV N D w0 F G0 G L T r P l d v o us):O5 N D w0 F G0 G L T r P l pr i d o us :=
 fun _ a w G1 hG _ H fin=>k hG (fun _ H=>fin H (fun _ _ h=>h) (by rw[hv])) a H
theorem X0(h:(dZ l i,Nat.blt i l.length,pr i)=(some d,true,fun u _=>u=v))(k:DV N D w0 F G0 G L T r P l d v o [])
  (hok:pz l T i=true:=by kernel_rfl)(jG:∀i v(G G':GH),(∀k o,G k=some o->G' k=some o)->pr i v G->pr i v G':=by exact fun _ _ _ _ _ h=>h):yH N D w0 F G0 G L T r P l bK B pr i o:=by
 simp only[jd]at h
 exact Ye (by rw[h.1,h.2.1]) (DV.k h.2.2 k) hok jG
theorem X1(j t:Nat){x:aj}(h:(dZ l i,Nat.blt i l.length,pr j,pr i,[(j,t,x)].all<|fun x=>(bK.getD i []).contains x.1&&(dZ l x.1==some x.2.1))=(some d,true,fun v _=>v=x,fun u _=>u=v,true))(k:DV N D w0 F G0 G L T r P l d v o [(j,t,x)])
  (hok:pz l T i=true:=by kernel_rfl)(jG:∀i v(G G':GH),(∀k o,G k=some o->G' k=some o)->pr i v G->pr i v G':=by exact fun _ _ _ _ _ h=>h):yH N D w0 F G0 G L T r P l bK B pr i o:=by
 simp only[jd]at h
 exact iE j t (by rw[h.1,h.2.1,h.2.2.2.2]) h.2.2.1 (DV.k h.2.2.2.1 k) hok jG
theorem X2(j t j' t':Nat){x x':aj}(h:(dZ l i,Nat.blt i l.length,pr j,pr j',pr i,[(j,t,x),(j',t',x')].all<|fun x=>(bK.getD i []).contains x.1&&(dZ l x.1==some x.2.1))=(some d,true,fun v _=>v=x,fun v _=>v=x',fun u _=>u=v,true))(k:DV N D w0 F G0 G L T r P l d v o [(j,t,x),(j',t',x')])
  (hok:pz l T i=true:=by kernel_rfl)(jG:∀i v(G G':GH),(∀k o,G k=some o->G' k=some o)->pr i v G->pr i v G':=by exact fun _ _ _ _ _ h=>h):yH N D w0 F G0 G L T r P l bK B pr i o:=by
 simp only[jd]at h
 exact fu j t j' t' (by rw[h.1,h.2.1,h.2.2.2.2.2]) (by rw[h.2.2.1,h.2.2.2.1]) (DV.k h.2.2.2.2.1 k) hok jG
theorem X3(j t j' t' j2 t2:Nat){x x' x2:aj}(h:(dZ l i,Nat.blt i l.length,pr j,pr j',pr j2,pr i,[(j,t,x),(j',t',x'),(j2,t2,x2)].all<|fun x=>(bK.getD i []).contains x.1&&(dZ l x.1==some x.2.1))=(some d,true,fun v _=>v=x,fun v _=>v=x',fun v _=>v=x2,fun u _=>u=v,true))(k:DV N D w0 F G0 G L T r P l d v o [(j,t,x),(j',t',x'),(j2,t2,x2)])
  (hok:pz l T i=true:=by kernel_rfl)(jG:∀i v(G G':GH),(∀k o,G k=some o->G' k=some o)->pr i v G->pr i v G':=by exact fun _ _ _ _ _ h=>h):yH N D w0 F G0 G L T r P l bK B pr i o:=by
 simp only[jd]at h
 exact xC j t j' t' j2 t2 (by rw[h.1,h.2.1,h.2.2.2.2.2.2]) (by rw[h.2.2.1,h.2.2.2.1,h.2.2.2.2.1]) (DV.k h.2.2.2.2.2.1 k) hok jG
theorem Z0(h:(dZ l i,Nat.blt i l.length,pr i)=(some d,true,fun u _=>u=v))(k:SY N D w0 F G0 G L T r P l d v o [])
  (hok:pz l T i=true:=by kernel_rfl)(jG:∀i v(G G':GH),(∀k o,G k=some o->G' k=some o)->pr i v G->pr i v G':=by exact fun _ _ _ _ _ h=>h):yH N D w0 F G0 G L T r P l bK B pr i o:=X0 h (fun _=>k) hok jG
theorem Z1(j t:Nat){x:aj}(h:(dZ l i,Nat.blt i l.length,pr j,pr i,[(j,t,x)].all<|fun x=>(bK.getD i []).contains x.1&&(dZ l x.1==some x.2.1))=(some d,true,fun v _=>v=x,fun u _=>u=v,true))(k:SY N D w0 F G0 G L T r P l d v o [(j,t,x)])
  (hok:pz l T i=true:=by kernel_rfl)(jG:∀i v(G G':GH),(∀k o,G k=some o->G' k=some o)->pr i v G->pr i v G':=by exact fun _ _ _ _ _ h=>h):yH N D w0 F G0 G L T r P l bK B pr i o:=X1 j t h (fun _=>k) hok jG
theorem Z2(j t j' t':Nat){x x':aj}(h:(dZ l i,Nat.blt i l.length,pr j,pr j',pr i,[(j,t,x),(j',t',x')].all<|fun x=>(bK.getD i []).contains x.1&&(dZ l x.1==some x.2.1))=(some d,true,fun v _=>v=x,fun v _=>v=x',fun u _=>u=v,true))(k:SY N D w0 F G0 G L T r P l d v o [(j,t,x),(j',t',x')])
  (hok:pz l T i=true:=by kernel_rfl)(jG:∀i v(G G':GH),(∀k o,G k=some o->G' k=some o)->pr i v G->pr i v G':=by exact fun _ _ _ _ _ h=>h):yH N D w0 F G0 G L T r P l bK B pr i o:=X2 j t j' t' h (fun _=>k) hok jG
theorem Z3(j t j' t' j2 t2:Nat){x x' x2:aj}(h:(dZ l i,Nat.blt i l.length,pr j,pr j',pr j2,pr i,[(j,t,x),(j',t',x'),(j2,t2,x2)].all<|fun x=>(bK.getD i []).contains x.1&&(dZ l x.1==some x.2.1))=(some d,true,fun v _=>v=x,fun v _=>v=x',fun v _=>v=x2,fun u _=>u=v,true))(k:SY N D w0 F G0 G L T r P l d v o [(j,t,x),(j',t',x'),(j2,t2,x2)])
  (hok:pz l T i=true:=by kernel_rfl)(jG:∀i v(G G':GH),(∀k o,G k=some o->G' k=some o)->pr i v G->pr i v G':=by exact fun _ _ _ _ _ h=>h):yH N D w0 F G0 G L T r P l bK B pr i o:=X3 j t j' t' j2 t2 h (fun _=>k) hok jG
theorem St.aQ{a:Act}{w:World}{p:aj->Prop}(H:St N D w0 F G0 G L T a w)(h:∃u,a.tmps[d]?=some u∧p u)(he:p=fun u=>u=v):St N D w0 F G0 G L ((d,v)::T) a w:=by
 subst he
 obtain⟨u,h1,h2⟩:=h
 exact H.fT<|h2 ▸ h1
theorem dI{a:Act}{w:World}{Q:Exit->Act->World->Prop}{id:Nat}(hm:P.follows .mixedOrders=true)(bK:List (List Nat))(B:List Nat)(hk:(xO l bK&&yx l bK B)=true)(vs:List aj)(H:St N D w0 F G0 G L T a w)
  (hstep:allI (fun i o=>yH N D w0 F G0 G L T r P l bK B (pvV vs) i o) 0 l)
  (hend:∀a w G1,(∀k o,G k=some o->G1 k=some o)->St N D w0 F G0 G1 L T a w->(∀i d,B.contains i=false->dZ l i=some d->∃v,a.tmps[d]?=some v∧pvV vs i v G1)->WL r P l.toArray (fun e a w=>e=.normal∧Q .normal a w) (qM l B) a w):WP r P (.region id l.toArray true) Q a w:=by
 rw[kV]at hk
 exact yM hm bK B hk.1 hk.2 (pvV vs) (fun _ _ _ _ _ h=>h) H hstep hend
variable{w:World}{ops:Array Oper}{Q:Exit->Act->World->Prop}{b:Bool}{t:Nat}{x:Operand}{c1 c2:Code}
theorem Cd(h:ev T x=some (.bool b))(k1:b=true->∀a,St N D w0 F G0 G L T a w->WP r P c1 Q a w)(k2:b=false->∀a,St N D w0 F G0 G L T a w->WP r P c2 Q a w):∀a,St N D w0 F G0 G L T a w->WP r P (.cond x c1 c2) Q a w:=fun a H=>jU H h (fun h=>k1 h a H)<|fun h=>k2 h a H
theorem Ct(h:ev T x=some (.bool b))(hb:b=true)(k:∀a,St N D w0 F G0 G L T a w->WP r P c1 Q a w):∀a,St N D w0 F G0 G L T a w->WP r P (.cond x c1 c2) Q a w:=fun a H=>zR H h hb<|k a H
theorem Cf(h:ev T x=some (.bool b))(hb:b=false)(k:∀a,St N D w0 F G0 G L T a w->WP r P c2 Q a w):∀a,St N D w0 F G0 G L T a w->WP r P (.cond x c1 c2) Q a w:=fun a H=>oJ H h hb<|k a H
theorem Sp{X:Act->Prop}(t:Nat)(h:lk T t=some (.bool b))(k1:b=true->∀a,St N D w0 F G0 G L T a w->X a)(k2:b=false->∀a,St N D w0 F G0 G L T a w->X a):∀a,St N D w0 F G0 G L T a w->X a:=fun a H=>WU H t h (fun h=>k1 h a H)<|fun h=>k2 h a H
class S9 (b:Bool) (p q:outParam Prop):Prop where
 t:b=true->p
 f:b=false->q
instance{p:Prop}[Decidable p]:S9 (decide p) p (¬p):=⟨mW,of_decide_eq_false⟩
instance(priority:=1):S9 b (b=true) (b=false):=⟨id,id⟩
theorem CE{p q:Prop}(h:ev T x=some (.bool b))[o:S9 b p q](k1:b=true->p->∀a,St N D w0 F G0 G L T a w->WP r P c1 Q a w)(k2:b=false->q->∀a,St N D w0 F G0 G L T a w->WP r P c2 Q a w):∀a,St N D w0 F G0 G L T a w->WP r P (.cond x c1 c2) Q a w:=Cd h (fun h=>k1 h<|o.t h)<|fun h=>k2 h<|o.f h
theorem SE{p q:Prop}{X:Act->Prop}(t:Nat)(h:lk T t=some (.bool b))[o:S9 b p q](k1:b=true->p->∀a,St N D w0 F G0 G L T a w->X a)(k2:b=false->q->∀a,St N D w0 F G0 G L T a w->X a):∀a,St N D w0 F G0 G L T a w->X a:=Sp t h (fun h=>k1 h<|o.t h)<|fun h=>k2 h<|o.f h
theorem LR{fn:Func}{R:Ending->World->Prop}(hr:fn.results=#[.tmp t])(hQ:(lk T t,Q .ret)=(some v,fun a w=>bodyPostM (FW none) 0 P fn R .ret a w))(hR:∀{a},St N [] w0 F G0 G L T a w->R (.returned v) w):∀a,St N [] w0 F G0 G L T a w->WP none P .ret Q a w:=fun a H=>by
 simp only[jd]at hQ
 exact lr H hr (by rw[hQ.1,hQ.2])<|hR H
end
def ra:Nat->Nat->List Nat
 |_,0=>[]
 |a,n+1=>a::ra (a+1) n
theorem lca{α:Type}(a:α)(l m:List α):a::l++m=a::(l++m):=rfl
theorem bq{α:Type}(l:List α):[]++l=l:=rfl
theorem aG{p:Prop}[Decidable p](h:p):decide p=true:=kZ h
theorem aO{p:Prop}[Decidable p](h:¬p):decide p=false:=mE h
abbrev yG(pr:Nat->aj->GH->Prop):Prop:=∀i v(G G':GH),(∀k o,G k=some o->G' k=some o)->pr i v G->pr i v G'
abbrev Yc{α:Type}(pr:α->Nat->aj->GH->Prop):Prop:=∀x i v(G G':GH),(∀k o,G k=some o->G' k=some o)->pr x i v G->pr x i v G'
abbrev Yd{α β:Type}(pr:α->β->Nat->aj->GH->Prop):Prop:=∀x y i v(G G':GH),(∀k o,G k=some o->G' k=some o)->pr x y i v G->pr x y i v G'
theorem dO{N:Nat}{D:List Deferred}{w0 w:World}{F:Nat->Prop}{G0:GH}{a:Act}{ι:Type}{Tc:List (Nat×aj)}{Lc:List (Nat×Obj)}{Tv:ι->List (Nat×aj)}{Lv:ι->List (Nat×Obj)}{Gv:ι->GH}{Pr:ι->Prop}{m:ι->Nat}{i:ι}(i':ι)
  (H:St N D w0 F G0 (Gv i') (Lc++Lv i') (Tv i'++Tc) a w)(hP:Pr i')(hm:m i'<m i:=by first|omega|(dsimp only;omega)) :
  ∃i',(St N D w0 F G0 (Gv i') (Lc++Lv i') (Tv i'++Tc) a w∧Pr i')∧m i'<m i:=⟨i',⟨H,hP⟩,hm⟩
theorem adU(x:aj):∀(vs c:List aj)(o:Nat),setRow (x::c) (o+1) vs=x::setRow c o vs
 |[],_,_=>rfl
 |v::vs,c,o=>by simp only[setRow,List.set_cons_succ];exact adU x vs _ _
class LX (c:List aj) (o:Nat) (vs:List aj) (c':outParam (List aj)):Prop where
 h:setRow c o vs=c'
class XO (a:Nat) (b:outParam Nat):Prop where
 h:a=b
instance{a:Nat}:XO a a:=⟨M⟩
instance{c:List aj}{o:Nat}:LX c o [] c:=⟨M⟩
instance{x:aj}{c c' vs:List aj}{o o':Nat}[e:XO o (o'+1)] [q:LX c o' vs c']:LX (x::c) o vs (x::c'):=⟨by rw[e.h,adU,q.h]⟩
instance{x v:aj}{c c' vs:List aj}{o:Nat}[e:XO o 0] [q:LX c 0 vs c']:LX (x::c) o (v::vs) (v::c'):=⟨by rw[e.h];simp only[setRow,List.set_cons_zero];rw[adU,q.h]⟩
class yI (L:List (Nat×Obj)) (i:Nat) (x:Nat×Obj) (L':outParam (List (Nat×Obj))):Prop where
 h:L.set i x=L'
instance{y x:Nat×Obj}{L:List (Nat×Obj)}:yI (y::L) 0 x (x::L):=⟨M⟩
instance{y x:Nat×Obj}{L L':List (Nat×Obj)}{i:Nat}[q:yI L i x L']:yI (y::L) (i+1) x (y::L'):=⟨by rw[List.set_cons_succ,q.h]⟩
instance{y x:Nat×Obj}{A B:List (Nat×Obj)}:yI ((y::A).append B) 0 x (x::A.append B):=⟨M⟩
instance{y x:Nat×Obj}{A B L':List (Nat×Obj)}{i:Nat}[q:yI (A.append B) i x L']:yI ((y::A).append B) (i+1) x (y::L'):=⟨by rw[<-q.h];rfl⟩
instance{x:Nat×Obj}{B L':List (Nat×Obj)}{i:Nat}[q:yI B i x L']:yI (List.append [] B) i x L':=⟨q.h⟩
instance{y x:Nat×Obj}{A B:List (Nat×Obj)}:yI ((y::A)++B) 0 x (x::(A++B)):=⟨M⟩
instance{y x:Nat×Obj}{A B L':List (Nat×Obj)}{i:Nat}[q:yI (A++B) i x L']:yI ((y::A)++B) (i+1) x (y::L'):=⟨by rw[<-q.h];rfl⟩
instance{x:Nat×Obj}{B L':List (Nat×Obj)}{i:Nat}[q:yI B i x L']:yI ([]++B) i x L':=⟨q.h⟩
theorem bQ{c:Prop}{h:Decidable c}(hc:¬c:=by omega){α:Sort _}{t e:α}:(if c then t else e)=e:=au hc
theorem iw{c:Prop}{h:Decidable c}(hc:c:=by omega){α:Sort _}{t e:α}:(if c then t else e)=t:=ay hc
theorem aX{P:Program}{f:FuncId}{fn:Func}{c:Code}(hf:P.funcs[f]?=some fn)(hb:fn.body=some c)(hn:(fn.name== "runtime.NumGoroutine")=false:=by kernel_rfl):∀(args:Array aj)(w:World),(callFunc f args).run P w=.ok (.enter f args) w:=enters hf hb hn
section
variable{N:Nat}{D:List Deferred}{w0:World}{F:Nat->Prop}{G0 G:GH}{L:List (Nat×Obj)}{T:List (Nat×aj)}{r:Option Nat}{P:Program}{ops:Array Oper}{Q:Exit->Act->World->Prop}{rest:List Oper}{a:Act}{w:World}{ty:TypeId}{pos:String}{aT:Array Edge}{g:Option (Nat×Bool)}
theorem bH{t:TypeId}{sz bytes:Nat}{zero:List aj}{agg:Bool}(ht:Ty P t sz bytes zero agg){x y:Operand}(i:Nat){b o:Nat}{c:List aj}{e:TypeId}{v:aj}{vs:List aj}{c':List aj}{L':List (Nat×Obj)}(H:St N D w0 F G0 G L T a w)(hw:Region.wanted ⟨none,.store t x y,ty,pos,aT,g⟩ (yielded ops a.tmps)=true)
  (h:(ev T x,L[i]?,ev T y,v.cells,Nat.beq vs.length sz,vs.all oneCell',Nat.ble (o+vs.length) c.length)=(some (.pointer<|some ⟨b,o,none⟩),some (b,.cells c.toArray e (0,0)),some v,vs.toArray,true,true,true))
  [q1:LX c o vs c'] [q2:yI L i (b,.cells c'.toArray e (0,0)) L']
  (k:∀w',St N D w0 F G0 G L' T a w'->WL r P ops Q rest a w'):WL r P ops Q (⟨none,.store t x y,ty,pos,aT,g⟩::rest) a w:=by
 simp only[jd]at h
 obtain⟨hx,hi,hy,hvs,hl,h1,hle⟩:=h
 refine EG ht i _ H hw hx hi hy hvs hl h1 hle q1.h<|fun w' H=>k w' ?_
 rw[q2.h]at H;exact H
end
section
variable{N:Nat}{D:List Deferred}{w0:World}{F:Nat->Prop}{G0 G G1:GH}{L:OL}{T Xs:List (Nat×aj)}{l:List Oper}{a a':Act}{w w':World}
theorem Ht{pr:Nat->aj->GH->Prop}{S:Nat->Bool}{i d:Nat}{v:aj}(HT:St N D w0 F G0 G1 L T a w)(Hb:St N D w0 F G0 G1 L (Xs++full N a) a w)(hG:∀k o,G k=some o->G1 k=some o)(hv:∀i d,S i=true->dZ l i=some d->∃v,a.tmps[d]?=some v∧pr i v G1)
  (jG:∀i v(G G':GH),(∀k o,G k=some o->G' k=some o)->pr i v G->pr i v G')(H:St N D w0 F G0 G1 L ((d,v)::(Xs++full N a)) a' w')(hp:pr i v G1)
  (hok:pz l T i=true:=by kernel_rfl)(hi:dZ l i=some d:=by exact rfl)(hdl:Nat.blt i l.length=true:=by exact rfl):DX N D w0 F G0 G L T l pr (dD S i) a' w' :=
 qw hok jG hi hdl HT Hb hG hv (fun _ _ h=>h) hp H
end
end
section
def bT(e sz:Nat)(v:aj)(n:Nat)(xs:List aj)(Lo:OL):Prop :=
 xs.length=n*sz∧((v=.slice none 0 0∧n=0∧Lo=[])∨∃b cap cur,v=.slice (some ⟨b,0,none⟩) n cap∧Lo=[(b,.cells cur e (0,0))]∧n<=cap∧cap<=maxLen∧cur.size=cap*sz∧cur.toList.take (n*sz)=xs)
theorem bT.nil{e sz:Nat}:bT e sz (.slice none 0 0) 0 [] []:=⟨by simp,.inl ⟨M,M,M⟩⟩
theorem bT.shape{e sz n:Nat}{v:aj}{xs:List aj}{Lo:OL}(h:bT e sz v n xs Lo):∃A c,v=.slice A n c∧n<=c∧c<=maxLen:=by
 rcases h.2 with⟨rfl,rfl,_⟩|⟨b,cap,cur,rfl,_,h1,h2,_,_⟩
 ·exact⟨none,0,M,eP _,by simp[maxLen]⟩
 ·exact⟨_,cap,M,h1,h2⟩
section
variable{N:Nat}{D:List Deferred}{w0:World}{F:Nat->Prop}{G0 G:GH}{L Li Lo:OL}{T:List (Nat×aj)}
variable{r:Option Nat}{P:Program}{ops:Array Oper}{Q:Exit->Act->World->Prop}{rest:List Oper}{a:Act}{w w':World}
variable{d:Nat}{ty:TypeId}{pos:String}{aT:Array Edge}{g:Option (Nat×Bool)}
theorem bT.owns{e sz n:Nat}{v:aj}{xs:List aj}(h:bT e sz v n xs Lo)(H:Hp w0 F G0 G (Li++Lo) w):w.ownsRow 0 e sz v n xs:=by
 refine⟨h.1,?_⟩
 rcases h.2 with⟨h1,h2,_⟩|⟨b,cap,cur,h1,h2,h3,h4,h5,h6⟩
 ·exact .inl ⟨h1,h2⟩
 ·exact .inr ⟨b,cap,cur,h1,fP _,H.own (b,.cells cur e (0,0)) (by simp[h2]),h3,h4,h5,h6⟩
theorem aiS{e sz n n':Nat}{v v':aj}{xs xs':List aj}(h:bT e sz v n xs Lo)(ho:fZ G Lo w)(hown:w'.ownsRow 0 e sz v' n' xs')(hg:w.grownBy w' v.ownBlock)(hb:v'.ownBlock=v.ownBlock∨v'.ownBlock=some w.heap.size) :
  ∃gP,bT e sz v' n' xs' gP∧Change w w' G G Lo gP:=by
 have hrow:∀k,v.ownBlock=some k->∃p∈Lo,p.1=k:=by
  intro k hk
  rcases h.2 with⟨h1,_,_⟩|⟨b,cap,cur,h1,h2,_⟩
  ·rw[h1]at hk;cases hk
  ·rw[h1]at hk;simp only[Value.ownBlock,oW]at hk;exact⟨_,by rw[h2];exact List.mem_singleton_self _,hk⟩
 have hro:∀k o,G k=some o->w'.heap[k]?=some o:=by
  intro k o hk
  rw[hg.block k (lt_of_heap<|ho.ro k o hk) (fun e'=>by
   obtain⟨p,hp,e2⟩:=hrow k e'.symm
   have:=ho.sep p hp
   rw[e2,hk]at this;cases this)]
  exact ho.ro k o hk
 have hfr:∀k,k<w.heap.size->(∀p∈Lo,p.1≠k)->w'.heap[k]?=w.heap[k]?:=fun k hk hn=>hg.block k hk fun e'=>by
  obtain⟨p,hp,e2⟩:=hrow k e'.symm
  exact hn p hp e2
 rcases hown.2 with⟨h1,h2⟩|⟨b,cap,cur,h1,_,h3,h4,h5,h6,h7⟩
 ·exact⟨[],⟨hown.1,.inl ⟨h1,h2,M⟩⟩,⟨hg.os,hg.tape,hg.output,hg.size,hfr,fun _ _ h=>h,fun _ _ h=>.inl h,⟨hro,fun _ h=>(by cases h),fun _ h=>(by cases h),List.Pairwise.nil⟩,fun _ h=>(by cases h)⟩⟩
 ·refine⟨[(b,.cells cur e (0,0))],⟨hown.1,.inr ⟨b,cap,cur,h1,M,h4,h5,h6,h7⟩⟩,⟨hg.os,hg.tape,hg.output,hg.size,hfr,fun _ _ h=>h,fun _ _ h=>.inl h,⟨hro,fun p hp=>?_,fun p hp=>?_,by simp⟩,fun p hp=>?_⟩⟩
  ·rw[oH.1 hp];exact h3
  ·rw[oH.1 hp]
   cases hgb:G b with
   |none=>rfl
   |some o=>
    exfalso
    rw[h1]at hb
    rcases hb with hb|hb
    ·obtain⟨p',hp',e2⟩:=hrow b (by rw[<-hb];rfl)
     have:=ho.sep p' hp'
     rw[e2,hgb]at this;cases this
    ·simp only[Value.ownBlock,oW]at hb
     have:=lt_of_heap<|ho.ro b o hgb
     omega
  ·rw[oH.1 hp]
   rw[h1]at hb
   rcases hb with hb|hb
   ·obtain⟨p',hp',e2⟩:=hrow b (by rw[<-hb];rfl)
    exact .inr ⟨p',hp',e2⟩
   ·simp only[Value.ownBlock,oW]at hb
    exact .inl (by simp only;omega)
theorem lW{t e:TypeId}{sz bytes:Nat}{zero:List aj}{agg:Bool}(hs:P.underlying t=some (.slice e))(ht:Ty P e sz bytes zero agg)(hz:Nat.beq zero.length sz=true)(hsz:Nat.blt 0 sz=true){x y:Operand}{v:aj}{n m c b2 o2:Nat}{xs news:List aj}(H:St N D w0 F G0 G (Li++Lo) T a w)
  (hw:Region.wanted ⟨some d,.call { callee:=.builtin .append,args:=#[x,y],argTypes:=#[t,t] },ty,pos,aT,g⟩ (yielded ops a.tmps)=true)(hx:ev T x=some v)(hy:ev T y=some (.slice (some ⟨b2,o2,none⟩) m c))(hrow:bT e sz v n xs Lo)
  (hn:news.length=m*sz)(hc:∀j u,news[j]?=some u->w.cell? ⟨b2,o2+j,none⟩=some u)(h1:news.all Value.oneCell'=true)(h63:n+m<=maxLen)(hb:(n+m)*bytes<=140737488355328)(hd:Nat.blt d N=true)
  (k:∀v' gP a' w',bT e sz v' (n+m) (xs++news) gP->St N D w0 F G0 G (Li++gP) ((d,v')::T) a' w'->WL r P ops Q rest a' w') :
  WL r P ops Q (⟨some d,.call { callee:=.builtin .append,args:=#[x,y],argTypes:=#[t,t] },ty,pos,aT,g⟩::rest) a w:=by
 obtain⟨i,z,hi,hi1,hi2,hi3,hi4⟩:=ht.parts
 obtain⟨v',w2,hrun,r1,r2,_,r4⟩:=run_append_own_at (P:=P) w 0 t ty e i z sz bytes hs hi hi3 hi1 hi2 (by rw[hi4];simpa using Cc hz) (Eq.mp Nat.blt_eq hsz) v n xs (hrow.owns H.hp) ⟨b2,o2,none⟩ m c news hn (fun j u hj=>by rw[add_lit];exact hc j u hj) (fun u hu=>lM.1 h1 u hu) h63 hb<|fP _
 obtain⟨gP,hr,hch⟩:=aiS hrow H.hp.owns r1 r2 r4
 refine fH (v:=v') (w':=w2) hw M ?_<|k v' gP _ w2 hr<|H.put hd v'<|H.hp.change hch
 simp[execOp,resolve,invoke,builtin,H.ev hx,H.ev hy,dP,hrun]
theorem Dn{t e:TypeId}{sz bytes:Nat}{zero:List aj}{agg:Bool}(hs:P.underlying t=some (.slice e))(ht:Ty P e sz bytes zero agg){x y:Operand}{A B:Option Addr}{n c c':Nat}(H:St N D w0 F G0 G L T a w)
  (hw:Region.wanted ⟨some d,.call { callee:=.builtin .append,args:=#[x,y],argTypes:=#[t,t] },ty,pos,aT,g⟩ (yielded ops a.tmps)=true)(hx:ev T x=some (.slice A n c))(hy:ev T y=some (.slice B 0 c'))(hnc:n<=c)(hd:Nat.blt d N=true)
  (k:∀a',St N D w0 F G0 G L ((d,.slice A n c)::T) a' w->WL r P ops Q rest a' w) :
  WL r P ops Q (⟨some d,.call { callee:=.builtin .append,args:=#[x,y],argTypes:=#[t,t] },ty,pos,aT,g⟩::rest) a w:=by
 refine fH (v:=.slice A n c) (w':=w) hw M ?_<|k _<|H.put hd _ H.hp
 have h1:∀w,(Builtin.firstCells sz 0 (.slice B 0 c')).run P w=.ok #[] w:=by intro w;cases B<;>simp[Builtin.firstCells,loadCells,loadCellsFrom]
 have hle:n+0<=c:=by omega
 cases A<;>simp[execOp,resolve,invoke,builtin,H.ev hx,H.ev hy,dP,Builtin.append_,lV hs,ht.EB,Builtin.lenOf,hnc,h1,storeCells]
theorem EF{t u:TypeId}{e:TypeId}(hs:P.underlying t=some (.slice e)){x:Operand}{A:Option Addr}{n c:Nat}(H:St N D w0 F G0 G L T a w)(hw:Region.wanted ⟨some d,.binOp .eql t x (.const (.slice none 0 0)) u,ty,pos,aT,g⟩ (yielded ops a.tmps)=true)(hx:ev T x=some (.slice A n c))(hd:Nat.blt d N=true)
  (k:∀a',St N D w0 F G0 G L ((d,.bool A.isNone)::T) a' w->WL r P ops Q rest a' w):WL r P ops Q (⟨some d,.binOp .eql t x (.const (.slice none 0 0)) u,ty,pos,aT,g⟩::rest) a w:=by
 refine fH (v:=.bool A.isNone) (w':=w) hw M ?_<|k _<|H.put hd _ H.hp
 have h1:(Op.equal t (.slice A n c) (.slice none 0 0)).run P w=.ok A.isNone w:=by
  show(Op.equalIn (9999+1) t (.slice A n c) (.slice none 0 0)).run P w=_
  rw[Op.equalIn.eq_2,dP,lV hs]
  cases A<;>rfl
 have h2:(do eqGuard .eql t x (.const (.slice none 0 0)) (.slice A n c) (.slice none 0 0);binOp .eql t (.slice A n c) (.slice none 0 0):Sem aj).run P w=.ok (.bool A.isNone) w:=by
  have e:(do eqGuard .eql t x (.const (.slice none 0 0)) (.slice A n c) (.slice none 0 0);binOp .eql t (.slice A n c) (.slice none 0 0):Sem aj)=(do pure (.bool (<-Op.equal t (.slice A n c) (.slice none 0 0))):Sem aj):=rfl
  rw[e,dP,h1];rfl
 have e0:execOp a.eval ⟨some d,.binOp .eql t x (.const (.slice none 0 0)) u,ty,pos,aT,g⟩=(do pure (.value (<-(do eqGuard .eql t x (.const (.slice none 0 0)) (.slice A n c) (.slice none 0 0);binOp .eql t (.slice A n c) (.slice none 0 0):Sem aj))):Sem Next):=by
  simp only[execOp,H.ev hx];rfl
 rw[e0,dP,h2]
 rfl
theorem ED{t e:TypeId}{sz bytes:Nat}{zero:List aj}{agg:Bool}(hs:P.underlying t=some (.slice e))(ht:Ty P e sz bytes zero agg)(H:St N D w0 F G0 G L T a w)(hw:Region.wanted ⟨some d,.buildSlice t 0 #[],ty,pos,aT,g⟩ (yielded ops a.tmps)=true)(hd:Nat.blt d N=true)
  (k:∀b a' w',w0.heap.size<=b->St N D w0 F G0 G ((b,.cells #[] e (0,0))::L) ((d,.slice (some ⟨b,0,none⟩) 0 0)::T) a' w'->WL r P ops Q rest a' w'):WL r P ops Q (⟨some d,.buildSlice t 0 #[],ty,pos,aT,g⟩::rest) a w:=by
 refine fH (v:=.slice (some ⟨w.heap.size,0,none⟩) 0 0) (w':=w.alloc (.cells #[] e (0,0))) hw M ?_<|k _ _ _ H.hp.size<|H.put hd _<|H.hp.alloc _
 have h0:¬(0*sz>2^24):=by simp
 simp[execOp,Instr.buildSlice,dP,lV hs,ht.EB,Instr.fill,newRow,newObj,Sem.run]
 congr 2
 apply Array.eq_empty_of_size_eq_zero
 simp
theorem bT.empty{e sz b:Nat}:bT e sz (.slice (some ⟨b,0,none⟩) 0 0) 0 [] [(b,.cells #[] e (0,0))] :=
 ⟨by simp,.inr ⟨b,0,#[],M,M,eP _,by simp[maxLen],by simp,by simp⟩⟩
theorem ow{x:Operand}{fv:aj}{xs:List Operand}{vs:List aj}{ts:Array TypeId}{R:aj->GH->Prop}(H:St N D w0 F G0 G L T a w)(hw:Region.wanted ⟨some d,.call { callee:=.value x,args:=xs.toArray,argTypes:=ts },ty,pos,aT,g⟩ (yielded ops a.tmps)=true)
  (hf:ev T x=some fv)(hx:evs T xs=some vs)(hc:uN P fv vs w (bD w G R))(hd:Nat.blt d N=true)
  (k:∀v G' a' w',R v G'->(∀k o,G k=some o->G' k=some o)->St N D w0 F G0 G' L ((d,v)::T) a' w'->WL r P ops Q rest a' w'):WL r P ops Q (⟨some d,.call { callee:=.value x,args:=xs.toArray,argTypes:=ts },ty,pos,aT,g⟩::rest) a w:=by
 refine aeu (nx:=_) (R:=bD w G R) hw M M ?_ ?_
 ·have h1:=H.evs hx
  have e:(execOp a.eval ⟨some d,.call { callee:=.value x,args:=xs.toArray,argTypes:=ts },ty,pos,aT,g⟩)=(do let d <-Deferred.ofValue fv vs.toArray;invoke d.target d.args:Sem Next):=by
   simp only[execOp,resolve,H.ev hf,List.map_toArray,h1]
  rw[e]
  exact hc.go
 ·rintro e w' ⟨v,G',rfl,hb,hx,hR⟩
  exact⟨v,M,k v G' _ w' hR hx.1<|H.put hd v<|H.hp.afA hb hx⟩
end
def bR(G:GH)(sz:Nat)(rows:List (List Dat))(xs:List aj):Prop :=
 ∃css:List (List aj),xs=css.flatten∧css.length=rows.length∧∀(j:Nat)(r:List Dat)(cs:List aj),rows[j]?=some r->css[j]?=some cs->bg G r cs∧cs.length=sz
theorem bR.nil{G:GH}{sz:Nat}:bR G sz [] []:=⟨[],M,M,fun j r cs h=>by simp at h⟩
theorem bR.mono{G G':GH}(hm:∀k o,G k=some o->G' k=some o){sz:Nat}{rows:List (List Dat)}{xs:List aj}(h:bR G sz rows xs):bR G' sz rows xs:=by
 obtain⟨css,h1,h2,h3⟩:=h
 exact⟨css,h1,h2,fun j r cs hr hc=>⟨(h3 j r cs hr hc).1.mono hm,(h3 j r cs hr hc).2⟩⟩
theorem bR.snoc{G:GH}{sz:Nat}{rows:List (List Dat)}{xs:List aj}(h:bR G sz rows xs){q:List Dat}{cs:List aj}(hr:bg G q cs)(hl:cs.length=sz):bR G sz (rows++[q]) (xs++cs):=by
 obtain⟨css,h1,h2,h3⟩:=h
 refine⟨css++[cs],by simp[h1],by simp[h2],fun j r c hj hc=>?_⟩
 by_cases hlt:j<rows.length
 ·rw[xH hlt]at hj
  rw[xH O]at hc
  exact h3 j r c hj hc
 ·have hje:j=rows.length:=by
   have:=(jJ.1 hj).1
   simp at this;omega
  subst hje
  rw[uQ (eP _),Nat.sub_self]at hj
  rw[uQ O,h2,Nat.sub_self]at hc
  simp only[Cg,oW]at hj hc
  subst hj;subst hc
  exact⟨hr,hl⟩
theorem alq{sz:Nat}:∀{css:List (List aj)}{j:Nat}{cs:List aj},(∀(j:Nat)(cs:List aj),css[j]?=some cs->cs.length=sz)->css[j]?=some cs->∀i,i<sz->css.flatten[j*sz+i]?=cs[i]?
 |[],_,_,_,h,_,_=>by simp at h
 |c::css,0,cs,hl,h,i,hi=>by
  simp only[Cg,oW]at h
  subst h
  have:=hl 0 c M
  simp only[List.flatten_cons,Nat.zero_mul,fB]
  rw[xH O]
 |c::css,j+1,cs,hl,h,i,hi=>by
  have hc:=hl 0 c M
  have ih:=alq (css:=css) (j:=j) (cs:=cs) (fun j cs hj=>hl (j+1) cs (by simpa using hj)) (by simpa using h) i hi
  simp only[List.flatten_cons]
  rw[uQ (by rw[hc,Nat.succ_mul];omega),<-ih]
  congr 1
  rw[hc,Nat.succ_mul];omega
theorem nV.cat{G:GH}{sz b:Nat}:∀{rows:List (List Dat)}{o:Nat},nV G sz b o rows->∃xs:List aj,xs.length=rows.length*sz∧(∀j u,xs[j]?=some u->aJ G b (o+j)=some u)∧xs.all Value.oneCell'=true∧bR G sz rows xs
 |[],o,_=>⟨[],by simp,fun j u h=>by simp at h,M,bR.nil⟩
 |r::rs,o,h=>by
  simp only[nV]at h
  obtain⟨⟨cs,h1,h2,h3⟩,h4⟩:=h
  obtain⟨xs,g1,g2,g3,css,g4,g5,g6⟩:=nV.cat h4
  refine⟨cs++xs,by simp[h1,g1,Nat.succ_mul,Nat.add_comm],fun j u hj=>?_,by simp[h3.one,g3],cs::css,by simp[g4],by simp[g5],fun j q c hj hc=>?_⟩
  ·by_cases hlt:j<cs.length
   ·rw[xH hlt]at hj;exact h2 j u hj
   ·rw[uQ O]at hj
    rw[<-g2 _ u hj];congr 1;omega
  ·cases j with
   |zero=>simp only[Cg,oW]at hj hc;subst hj;subst hc;exact⟨h3,h1⟩
   |succ j=>exact g6 j q c (by simpa using hj) (by simpa using hc)
theorem av.cells{G:GH}{sz:Nat}{rows:List (List Dat)}{A:Option Addr}{n c:Nat}(h:av G (.sl sz rows) (.slice A n c)):n=rows.length∧n<=c∧c<=maxLen∧(A=none->rows=[])∧
  (rows≠[]->∃b o xs,A=some ⟨b,o,none⟩∧xs.length=n*sz∧(∀j u,xs[j]?=some u->aJ G b (o+j)=some u)∧xs.all Value.oneCell'=true∧bR G sz rows xs):=by
 simp only[av]at h
 obtain⟨A',c',h1,h2,h3,h4⟩:=h
 injection h1 with e1 e2 e3
 subst e1;subst e2;subst e3
 refine⟨M,h2,h3,fun hn=>?_,fun hne=>?_⟩
 ·apply Classical.byContradiction
  intro hne
  obtain⟨b,o,e,_⟩:=h4 hne
  rw[hn]at e;cases e
 ·obtain⟨b,o,e,hr⟩:=h4 hne
  obtain⟨xs,g1,g2,g3,g4⟩:=hr.cat
  exact⟨b,o,xs,e,g1,g2,g3,g4⟩
theorem av.nT{G:GH}{sz:Nat}{A:Option Addr}{n c:Nat}(h:n=0)(hc:c<=maxLen):av G (.sl sz []) (.slice A n c):=by
 subst h
 simp only[av]
 exact⟨A,c,M,fP _,hc,fun h=>absurd M h⟩
theorem av.uK{G:GH}{e sz n b cap:Nat}{cur:Array aj}{xs:List aj}{rows:List (List Dat)}(hb:G b=some (.cells cur e (0,0)))(hl:rows.length=n)(hc:n<=cap)(hm:cap<=maxLen)(ht:cur.toList.take (n*sz)=xs)(gK:bR G sz rows xs) :
  av G (.sl sz rows) (.slice (some ⟨b,0,none⟩) n cap):=by
 obtain⟨css,h1,h2,h3⟩:=gK
 simp only[av]
 refine⟨_,cap,by rw[hl],O,hm,fun _=>⟨b,0,M,nV.mk fun k q hk=>?_⟩⟩
 have hkl:k<css.length:=by rw[h2];exact(jJ.1 hk).1
 have hcs:css[k]?=some css[k]:=gF hkl
 obtain⟨g1,g2⟩:=h3 k q _ hk hcs
 refine⟨css[k],g2,fun j u hj=>?_,g1⟩
 have hjs:j<sz:=by rw[<-g2];exact(jJ.1 hj).1
 have hlen:∀(j:Nat)(cs:List aj),css[j]?=some cs->cs.length=sz:=by
  intro j cs hj
  have hjl:j<rows.length:=by rw[<-h2];exact(jJ.1 hj).1
  exact(h3 j _ cs (gF hjl) hj).2
 have hf:=alq hlen hcs j hjs
 rw[<-h1,<-ht,hj]at hf
 unfold aJ
 rw[hb]
 simp only
 have hlt:k*sz+j<n*sz:=by
  have:(k+1)*sz<=n*sz:=Nat.mul_le_mul_right _ O
  rw[Nat.succ_mul]at this;omega
 rw[xG,ay hlt]at hf
 simpa using hf
theorem St.qy{N:Nat}{D:List Deferred}{w0:World}{F:Nat->Prop}{G0 G:GH}{Li Lo:OL}{T:List (Nat×aj)}{a:Act}{w:World}{e sz n:Nat}{v:aj}{xs:List aj}{rows:List (List Dat)}(H:St N D w0 F G0 G (Li++Lo) T a w)
  (hrow:bT e sz v n xs Lo)(hl:rows.length=n)(gK:bR G sz rows xs):∃G',(∀k o,G k=some o->G' k=some o)∧av G' (.sl sz rows) v∧St N D w0 F G0 G' Li T a w:=by
 rcases hrow.2 with⟨rfl,h2,rfl⟩|⟨b,cap,cur,rfl,rfl,h3,h4,h5,h6⟩
 ·refine⟨G,fun _ _ h=>h,?_,by simpa using H⟩
  have:rows=[]:=List.eq_nil_of_length_eq_zero O
  subst this
  simp only[av]
  exact⟨none,0,by simp,by simp,by simp[maxLen],fun h=>absurd M h⟩
 ·have hi:(Li++[(b,Obj.cells cur e (0,0))])[Li.length]?=some (b,.cells cur e (0,0)):=by simp
  have hn:=H.alQ _ hi
  have hm:∀k o,G k=some o->(G.add b (.cells cur e (0,0))) k=some o:=fun k o h=>GH.Md G hn k o h
  refine⟨_,hm,av.uK (GH.Jm G b _) hl h3 h4 h6 (gK.mono hm),?_⟩
  have:=H.giveUp _ hi
  rwa[List.eraseIdx_append_of_length_le (eP _),Nat.sub_self,List.eraseIdx_zero,List.tail_cons,iR]at this
theorem St.eX{N:Nat}{D:List Deferred}{w0:World}{F:Nat->Prop}{G0 G:GH}{L:OL}{T:List (Nat×aj)}{a:Act}{w:World}{b:Nat}{o:Obj}(H:St N D w0 F G0 G ((b,o)::L) T a w) :
  ∃G',(∀k o,G k=some o->G' k=some o)∧G' b=some o∧St N D w0 F G0 G' L T a w :=
 ⟨G.add b o,GH.Md G (H.alQ 0 rfl),GH.Jm G b o,H.giveUp 0 rfl⟩
theorem St.Qr{N:Nat}{D:List Deferred}{w0:World}{F:Nat->Prop}{G0 G:GH}{L:OL}{T:List (Nat×aj)}{a:Act}{w:World}{b e sz:Nat}{cs:List aj}{d:List Dat}(H:St N D w0 F G0 G ((b,.cells cs.toArray e (0,0))::L) T a w)(hl:cs.length=sz)(hr:bg G d cs) :
  ∃G',(∀k o,G k=some o->G' k=some o)∧av G' (.sl sz [d]) (.slice (some ⟨b,0,none⟩) 1 1)∧St N D w0 F G0 G' L T a w:=by
 obtain⟨G',hm,hb,H⟩:=H.eX
 exact⟨G',hm,av.uK (xs:=cs) hb M (eP _) Z (by simp[<-hl]) (by simpa using(bR.nil (sz:=sz)).snoc (hr.mono hm) hl),H⟩
structure Now{α:Type}(xs:List AP)(P:α->AP)(J:Nat->GH->OL->Prop)(je j:Nat)(A:List α)(g:GH)(L:OL):Prop where
 now:J j g L
 rem:∀i a,A[i]?=some a->xs[j+i]?=some (P a)
 len:j+A.length=je
theorem Now.head{α:Type}{xs:List AP}{P:α->AP}{J:Nat->GH->OL->Prop}{je j:Nat}{x:α}{A:List α}{g:GH}{L:OL}(h:Now xs P J je j (x::A) g L):xs[j]?=some (P x):=h.rem 0 x M
theorem Now.step{α:Type}{xs:List AP}{P:α->AP}{J:Nat->GH->OL->Prop}{je j:Nat}{x:α}{A:List α}{g g':GH}{L L':OL}(h:Now xs P J je j (x::A) g L)(hJ:J (j+1) g' L'):Now xs P J je (j+1) A g' L' :=
 ⟨hJ,fun i a hi=>by rw[show j+1+i=j+(i+1) by omega];exact h.rem (i+1) a (by simpa using hi),by have:=h.len;simp only[lK]at this;omega⟩
theorem Now.part{α:Type}{xs:List AP}{P:α->AP}{J:Nat->GH->OL->Prop}{je j:Nat}{A B:List α}{g:GH}{L:OL}(h:Now xs P J je j (A++B) g L):∀i a,A[i]?=some a->xs[j+i]?=some (P a):=fun i a hi=>h.rem i a (by rw[xH (jJ.1 hi).1];exact hi)
theorem Now.jump{α:Type}{xs:List AP}{P:α->AP}{J:Nat->GH->OL->Prop}{je j:Nat}{A B:List α}{g g':GH}{L L':OL}(h:Now xs P J je j (A++B) g L)(hJ:J (j+A.length) g' L'):Now xs P J je (j+A.length) B g' L' :=
 ⟨hJ,fun i a hi=>by rw[Nat.add_assoc];exact h.rem (A.length+i) a (by rw[uQ (Nat.le_add_right _ _),Ch];exact hi),by have:=h.len;simp only[gT]at this;omega⟩
theorem Hp.lU{R:aj->GH->OL->Prop}{v:aj}{w0 w:World}{G0 G:GH}{L0 L L':OL}(h:Hp w0 (Fr w0 L0) G0 G L w)(hs:L'.Sublist L)(hR:R v G L'):fG w0 G0 L0 R (.returned v) w:=(h.drop hs).gX hR
section
variable{N:Nat}{D:List Deferred}{w0:World}{F:Nat->Prop}{G0 G:GH}{L Li Lo:OL}{T:List (Nat×aj)}
variable{r:Option Nat}{P:Program}{ops:Array Oper}{Q:Exit->Act->World->Prop}{rest:List Oper}{a:Act}{w:World}
variable{d:Nat}{ty:TypeId}{pos:String}{aT:Array Edge}{g:Option (Nat×Bool)}
theorem R4{t e:TypeId}{sz bytes:Nat}{zero:List aj}{agg:Bool}(hs:P.underlying t=some (.slice e))(ht:Ty P e sz bytes zero agg)(hz:Nat.beq zero.length sz=true)(hsz:Nat.blt 0 sz=true){x y:Operand}{v:aj}{n m c:Nat}{A:Option Addr}{xs:List aj}{rows:List (List Dat)}(H:St N D w0 F G0 G (Li++Lo) T a w)
  (hw:Region.wanted ⟨some d,.call { callee:=.builtin .append,args:=#[x,y],argTypes:=#[t,t] },ty,pos,aT,g⟩ (yielded ops a.tmps)=true)(hx:ev T x=some v)(hy:ev T y=some (.slice A m c))(hrow:bT e sz v n xs Lo)
  (hrep:av G (.sl sz rows) (.slice A m c))(h63:n+m<=maxLen)(hb:(n+m)*bytes<=140737488355328)(hd:Nat.blt d N=true)
  (k:∀v' gP news a' w',bT e sz v' (n+m) (xs++news) gP->bR G sz rows news->St N D w0 F G0 G (Li++gP) ((d,v')::T) a' w'->WL r P ops Q rest a' w') :
  WL r P ops Q (⟨some d,.call { callee:=.builtin .append,args:=#[x,y],argTypes:=#[t,t] },ty,pos,aT,g⟩::rest) a w:=by
 obtain⟨hn,hc1,hc2,hnil,hxx⟩:=hrep.cells
 by_cases hr0:rows=[]
 ·have hm0:m=0:=by rw[hn,hr0];rfl
  subst hm0
  obtain⟨A',c',rfl,h1,h2⟩:=hrow.shape
  exact Dn hs ht H hw hx hy h1 hd fun a' H'=>k _ Lo [] a' w (by simpa using hrow) (by rw[hr0];exact bR.nil) H'
 ·obtain⟨b,o,news,rfl,hxl,hxc,hx1,gK⟩:=hxx hr0
  exact lW hs ht hz hsz H hw hx hy hrow hxl (fun j u hj=>H.hp.aJ<|hxc j u hj) hx1 h63 hb hd fun v' gP a' w' hr' H'=>k v' gP news a' w' hr' gK H'
theorem aHb{t e:TypeId}{sz bytes:Nat}{zero:List aj}{agg:Bool}(hs:P.underlying t=some (.slice e))(ht:Ty P e sz bytes zero agg){x y z:Operand}{A:Option Addr}{n c:Nat}(lo hi:Nat){p q:Int}(H:St N D w0 F G0 G L T a w)
  (hw:Region.wanted ⟨some d,.slice t x (some y) (some z) none,ty,pos,aT,g⟩ (yielded ops a.tmps)=true)(hx:ev T x=some (.slice A n c))(hy:ev T y=some (.int .i64 p))(hz:ev T z=some (.int .i64 q))(hp:p=(lo:Int))(hq:q=(hi:Int))(h1:lo<=hi)(h2:hi<=c)(hd:Nat.blt d N=true)
  (k:∀a',St N D w0 F G0 G L ((d,.slice (if c=lo then A else A.map (·.add<|lo*sz)) (hi-lo)<|c-lo)::T) a' w->WL r P ops Q rest a' w):WL r P ops Q (⟨some d,.slice t x (some y) (some z) none,ty,pos,aT,g⟩::rest) a w:=by
 subst hp;subst hq
 refine fH (v:=.slice (if c=lo then A else A.map (·.add<|lo*sz)) (hi-lo)<|c-lo) (w':=w) hw M ?_<|k _<|H.put hd _ H.hp
 simp[execOp,H.ev hx,H.ev hy,H.ev hz,Instr.sliceAt,Instr.slice,Instr.sliceBounds,Instr.sliceBound,dP,lV hs,ht.EB,asIntOf,h1,h2]
end
theorem av.part{G:GH}{sz:Nat}{rows:List (List Dat)}{A:Option Addr}{n c:Nat}(h:av G (.sl sz rows) (.slice A n c))(lo hi:Nat)(h1:lo<=hi)(h2:hi<=rows.length) :
  av G (.sl sz ((rows.drop lo).take<|hi-lo)) (.slice (if c=lo then A else A.map (·.add<|lo*sz)) (hi-lo)<|c-lo):=by
 obtain⟨A',c',he,hc1,hc2,hg⟩:=h.slice
 injection he with e1 e2 e3
 subst e1;subst e3
 have hl:((rows.drop lo).take<|hi-lo).length=hi-lo:=by simp;omega
 simp only[av]
 refine⟨_,_,by rw[hl],by rw[hl];omega,O,fun hn=>?_⟩
 have hlt:lo<hi:=by
  rcases Nat.lt_or_ge lo hi with h|h
  ·exact h
  ·exact absurd (List.eq_nil_of_length_eq_zero (by rw[hl];omega)) hn
 obtain⟨b,o,cs,hA,-⟩:=hg lo rows[lo] (by simp)
 subst hA
 refine⟨b,o+lo*sz,by rw[au O,D5,add_lit],nV.mk fun k r hk=>?_⟩
 rw[xG]at hk
 split at hk
 ·rw[List.getElem?_drop]at hk
  obtain⟨b',o',cs,hA,g1,g2,g3⟩:=hg (lo+k) r hk
  obtain⟨rfl,rfl⟩:b=b'∧o=o':=by simpa using hA
  exact⟨cs,g1,fun j u hj=>by rw[<-g2 j u hj];congr 1;rw[Nat.add_mul];omega,g3⟩
 ·cases hk
theorem bR.append{G:GH}{sz:Nat}{r1 r2:List (List Dat)}{x1 x2:List aj}(h1:bR G sz r1 x1)(h2:bR G sz r2 x2):bR G sz (r1++r2) (x1++x2):=by
 obtain⟨c1,rfl,e1,f1⟩:=h1
 obtain⟨c2,rfl,e2,f2⟩:=h2
 refine⟨c1++c2,by simp,by simp[e1,e2],fun j r cs hr hc=>?_⟩
 by_cases hj:j<r1.length
 ·exact f1 j r cs (by rwa[xH hj]at hr) (by rwa[xH O]at hc)
 ·exact f2 (j-r1.length) r cs (by rwa[uQ O]at hr) (by rwa[uQ O,e1]at hc)
end
section
def aed(l:List Oper)(bK:List (List Nat))(B:List Nat):Bool :=
 B.all (fun b=>Nat.blt b l.length&&(List.range l.length).all fun i=>B.contains i||(bK.getD b []).contains i)&&
 (List.range l.length).all fun i=>B.contains i||(bK.getD i []).all fun j=>!B.contains j
section
variable{N:Nat}{D:List Deferred}{w0:World}{F:Nat->Prop}{G0 G G1 G2:GH}{L L1 L2:OL}{T Xs:List (Nat×aj)}
variable{r:Option Nat}{P:Program}{Q:Exit->Act->World->Prop}{l:List Oper}{a a':Act}{w w':World}
theorem qY{x y:Nat}(h:x≠y):Nat.beq x y=false:=by
 cases h':Nat.beq x y with
 |false=>rfl
 |true=>exact absurd (Cc h') h
theorem rR{i e:Nat}(h:dZ l i=some e):i<l.length:=by
 unfold dZ at h
 by_cases hl:i<l.length
 ·exact hl
 ·rw[List.getElem?_eq_none O]at h;cases h
theorem avd{id:Nat}(hm:P.follows .mixedOrders=true)(bK:List (List Nat))(B:List Nat)(hk:xO l bK=true)(hB:aed l bK B=true)(pr:Nat->aj->GH->Prop)
  (xx:(Nat->Bool)->Act->World->Prop)(H:St N D w0 F G0 G L T a w)
  (hstep:allI (fun i o=>∀S a w G1,B.contains i=false->S i=false->(∀j∈bK.getD i [],S j=true)->(∀k o,G k=some o->G1 k=some o)->St N D w0 F G0 G1 L T a w->(∀i d,S i=true->dZ l i=some d->∃v,a.tmps[d]?=some v∧pr i v G1)->
   WL r P l.toArray (fun e a' w'=>e=.normal∧DX N D w0 F G0 G L T l pr (dD S i) a' w') [o] a w) 0 l)
  (hmid:∀S a w G1,(∀k o,G k=some o->G1 k=some o)->St N D w0 F G0 G1 L T a w->(∀i d,B.contains i=false->dZ l i=some d->∃v,a.tmps[d]?=some v∧pr i v G1)->(∀i,B.contains i=true->S i=false)->xx S a w)
  (aDB:allI (fun i o=>∀S a w,B.contains i=true->S i=false->(∀j∈bK.getD i [],S j=true)->(∀j,j<l.length->i∈bK.getD j []->S j=false)->xx S a w->WL r P l.toArray (fun e a' w'=>e=.normal∧xx (dD S i) a' w') [o] a w) 0 l)
  (hend:∀S a w,(∀i,i<l.length->S i=true)->xx S a w->Q .normal a w):WP r P (.region id l.toArray true) Q a w:=by
 simp only[aed,kV,lM,qo,Bool.or_eq_true,zK]at hB
 have hB1:∀b∈B,b<l.length∧∀i,i<l.length->i∉B->i∈bK.getD b []:=fun b hb=>⟨Eq.mp Nat.blt_eq (hB.1 b hb).1,fun i hi hn=>((hB.1 b hb).2 i hi).resolve_left hn⟩
 refine ZW hm bK hk (fun S a w=>((∀i,B.contains i=true->S i=false)∧DX N D w0 F G0 G L T l pr S a w)∨((∀i,i<l.length->B.contains i=false->S i=true)∧xx S a w))
  (.inl ⟨fun _ _=>rfl,G,fun _ _ h=>h,H.move H.hp.drew,fun _ _ h=>by cases h⟩) ?_ ?_
 ·intro i o S a w ho hX aM jA hdesc
  have hil:i<l.length:=(jJ.1 ho).1
  by_cases hbi:B.contains i=true
  ·have Nj:i∈B:=by simpa using hbi
   have hall:∀j,j<l.length->B.contains j=false->S j=true:=fun j hj hb=>jA j ((hB1 i Nj).2 j hj (by simpa using hb))
   have hY:xx S a w:=by
    rcases hX with⟨h1,G1,hG,HS,hv⟩|⟨_,hY⟩
    ·exact hmid S a w G1 hG HS (fun j e hb he=>hv j e (hall j (rR he) hb) he) h1
    ·exact hY
   have h2:=zM aDB i o ho
   rw[fB]at h2
   refine mU (fun e a' w'⟨he,hD⟩=>⟨he,.inr ⟨fun j hj hb=>?_,hD⟩⟩) (h2 S a w hbi aM jA hdesc hY)
   unfold dD;split
   ·rfl
   ·exact hall j hj hb
  ·have CQ:B.contains i=false:=by cases h:B.contains i with|false=>rfl|true=>exact absurd h hbi
   rcases hX with⟨h1,G1,hG,HS,hv⟩|⟨h0,_⟩
   ·have h2:=zM hstep i o ho
    rw[fB]at h2
    refine mU (fun e a' w'⟨he,hD⟩=>⟨he,.inl ⟨fun j hj=>?_,hD⟩⟩) (h2 S a w G1 CQ aM jA hG HS hv)
    unfold dD
    rw[au (by rintro rfl;rw[CQ]at hj;cases hj)]
    exact h1 j hj
   ·rw[h0 i hil CQ]at aM;cases aM
 ·intro S a w hall hX
  rcases hX with⟨h1,G1,hG,HS,hv⟩|⟨_,hY⟩
  ·exact hend S a w hall (hmid S a w G1 hG HS (fun j e _ he=>hv j e (hall j (rR he)) he) h1)
  ·exact hend S a w hall hY
theorem awO{pr:Nat->aj->GH->Prop}{S:Nat->Bool}{i:Nat}(hi:dZ l i=none)(HT:St N D w0 F G0 G1 L T a w)(hG:∀k o,G k=some o->G1 k=some o)(hv:∀i d,S i=true->dZ l i=some d->∃v,a.tmps[d]?=some v∧pr i v G1)
  (H:St N D w0 F G0 G1 L (Xs++full N a) a w'):DX N D w0 F G0 G L T l pr (dD S i) a w' :=
 ⟨G1,hG,HT.move H.hp,fun j e hj he=>hv j e (by
  unfold dD at hj
  by_cases hji:j=i
  ·subst hji;rw[hi]at he;cases he
  ·rwa[au hji]at hj) he⟩
theorem Ob(A B C D':OL):(A++(B++(C++D'))).Perm ((A++(B++D'))++C):=by
 rw[iG A,iG B]
 exact List.Perm.append_left A<|List.Perm.append_left B vD
theorem Oa(A B C D':OL):A++(B++(C++D'))=(A++(B++C))++D':=by simp
theorem Oo:∀(vs c:List aj)(o:Nat),o+vs.length<=c.length->setRow c o vs=c.take o++vs++c.drop (o+vs.length)
 |[],c,o,_=>by simp[setRow]
 |v::vs,c,o,h=>by
  simp only[lK]at h
  rw[setRow,Oo vs (c.set o v) (o+1) (by simp;omega),List.take_set,List.drop_set,ay O,ji O]
  have e:((c.take o++[c[o]]).set o v)=c.take o++[v]:=by
   have hl:(c.take o).length=o:=by simp;omega
   rw[List.set_append,au O,hl,Nat.sub_self];rfl
  rw[e,lK,show o+1+vs.length=o+(vs.length+1) by omega]
  simp
theorem bT.over{e sz n b cap:Nat}{cur:Array aj}{xs zc news:List aj}(h:bT e sz (.slice (some ⟨b,0,none⟩) (n+1) cap) (n+1) (xs++zc) [(b,.cells cur e (0,0))])(hx:xs.length=n*sz)(hn:news.length=sz) :
  n*sz+news.length<=cur.toList.length∧bT e sz (.slice (some ⟨b,0,none⟩) (n+1) cap) (n+1) (xs++news) [(b,.cells (setRow cur.toList (n*sz) news).toArray e (0,0))]:=by
 rcases h.2 with⟨h1,_⟩|⟨b',cap',cur',h1,h2,h3,h4,h5,h6⟩
 ·cases h1
 ·cases h1
  cases h2
  have e1:(n+1)*sz=n*sz+sz:=Nat.succ_mul n sz
  have hle:n*sz+news.length<=cur.toList.length:=by
   rw[hn,<-e1,sQ,h5];exact Nat.mul_le_mul_right _ h3
  have hlz:(xs++zc).length=(n+1)*sz:=h.1
  refine⟨hle,by simp[hx,hn,e1],.inr ⟨b,cap,_,M,M,h3,h4,by simp[WV,h5],?_⟩⟩
  have h7:cur.toList.take (n*sz)=xs:=by
   have:=cO (List.take<|n*sz) h6
   rw[List.take_take,Nat.min_eq_left O,List.take_left' hx]at this
   exact this
  rw[List.toList_toArray,Oo _ _ _ hle,e1,h7,hn]
  exact List.take_left' (by simp[hx,hn])
theorem St.weak(h:St N D w0 F G0 G L Xs a w)(hs:∀t v,lk T t=some v->lk Xs t=some v):St N D w0 F G0 G L T a w:=⟨h.nX,fun t v ht=>h.get t v (hs t v ht),h.uS,h.hp⟩
theorem St.zT{s:Nat}{v:aj}(h:St N D w0 F G0 G L ((s,v)::T) a w)(hs:lk T s=none):St N D w0 F G0 G L T a w:=h.weak fun t u ht=>by
 rw[gL (fun e=>by subst e;rw[hs]at ht;cases ht)];exact ht
abbrev Tk(tS tE s0 s1 s2 s3 s4 s5 p0 p1:Nat)(zv:aj)(y0 y1 y2 y3 y4 y5 y6 y7:TypeId)(q0 q1 q2 q3 q4 q5 q6 q7:String)(f0 f1 f2 f3 f4 f5 f6 f7:Array Edge):List Oper :=
  [⟨some s0,.load tS (.tmp p0),y0,q0,f0,none⟩,⟨some s1,.load tE (.tmp p1),y1,q1,f1,none⟩,⟨some s2,.call { callee:=.builtin .len,args:=#[.tmp s0],argTypes:=#[tS] },y2,q2,f2,none⟩,
   ⟨some s3,.buildSlice tS 1 #[(0,.const zv)],y3,q3,f3,none⟩,⟨some s4,.call { callee:=.builtin .append,args:=#[.tmp s0,.tmp s3],argTypes:=#[tS,tS] },y4,q4,f4,none⟩,
   ⟨some s5,.indexAddr tS (.tmp s4) (.tmp s2),y5,q5,f5,none⟩,⟨none,.store tE (.tmp s5) (.tmp s1),y6,q6,f6,none⟩,⟨none,.store tS (.tmp p0) (.tmp s4),y7,q7,f7,none⟩]
abbrev afp:List (List Nat):=[[],[],[0],[],[0,1,2,3],[0,1,2,3,4],[0,1,2,3,4,5],[0,1,2,3,4]]
set_option maxHeartbeats 1000000 in
theorem Uf{id tS tE s0 s1 s2 s3 s4 s5 p0 p1 i0 i1 bp bx n c0 sz bytes szS:Nat}{A0:Option Addr}{zero aJm xs news:List aj}{zv:aj}{Li Lo:OL}{y0 y1 y2 y3 y4 y5 y6 y7:TypeId}{q0 q1 q2 q3 q4 q5 q6 q7:String}{f0 f1 f2 f3 f4 f5 f6 f7:Array Edge}
  (hm:P.follows .mixedOrders=true)(hk:xO (Tk tS tE s0 s1 s2 s3 s4 s5 p0 p1 zv y0 y1 y2 y3 y4 y5 y6 y7 q0 q1 q2 q3 q4 q5 q6 q7 f0 f1 f2 f3 f4 f5 f6 f7) afp=true)
  (hs:P.underlying tS=some (.slice tE))(htS:Ty P tS 1 szS aJm false)(ht:Ty P tE sz bytes zero true)(hsz0:Nat.blt 0 sz=true)(hsz1:Nat.ble sz 1000=true)(hzl:Nat.beq zero.length sz=true)(hzc:zv.cells.toList=zero)(hz1:zero.all Value.oneCell'=true)
  (hok:aak (Tk tS tE s0 s1 s2 s3 s4 s5 p0 p1 zv y0 y1 y2 y3 y4 y5 y6 y7 q0 q1 q2 q3 q4 q5 q6 q7 f0 f1 f2 f3 f4 f5 f6 f7) T=true)(hsl:[s0,s1,s2,s3,s4,s5].all (fun s=>(lk T s).isNone&&Nat.blt s N)=true)(hnd:[s0,s1,s2,s3,s4,s5].Nodup)
  (H:St N D w0 F G0 G (Li++Lo) T a w)(hp0:lk T p0=some (.pointer<|some ⟨bp,0,none⟩))(hp1:lk T p1=some (.pointer<|some ⟨bx,0,none⟩))
  (hi0:Li[i0]?=some (bp,.cells #[.slice A0 n c0] tS (0,0)))(hi1:Li[i1]?=some (bx,.cells news.toArray tE (0,0)))(hnl:news.length=sz)(hn1:news.all Value.oneCell'=true)
  (hrow:bT tE sz (.slice A0 n c0) n xs Lo)(h63:n+1<=maxLen)(hb':(n+1)*bytes<=140737488355328)
  (hend:∀v' gP G1 a' w',(∀k o,G k=some o->G1 k=some o)->bT tE sz v' (n+1) (xs++news) gP->St N D w0 F G0 G1 (Li.set i0 (bp,.cells #[v'] tS (0,0))++gP) T a' w'->Q .normal a' w') :
  WP r P (.region id (Tk tS tE s0 s1 s2 s3 s4 s5 p0 p1 zv y0 y1 y2 y3 y4 y5 y6 y7 q0 q1 q2 q3 q4 q5 q6 q7 f0 f1 f2 f3 f4 f5 f6 f7).toArray true) Q a w:=by
 have hb0:i0<Li.length:=(jJ.1 hi0).1
 have hb1:i1<Li.length:=(jJ.1 hi1).1
 simp only[List.all_cons,List.all_nil,Bool.and_true,kV,Option.isNone_iff_eq_none]at hsl
 obtain⟨⟨l0,b0⟩,⟨l1,b1⟩,⟨l2,b2⟩,⟨l3,b3⟩,⟨l4,b4⟩,⟨l5,b5⟩⟩:=hsl
 simp only[List.nodup_cons,iL,List.not_mem_nil,or_false,not_or,not_false_eq_true,List.nodup_nil,and_true]at hnd
 obtain⟨⟨RL,RN,n03,Wd,n05⟩,⟨n12,n13,n14,n15⟩,⟨n23,n24,n25⟩,⟨n34,n35⟩,n45⟩:=hnd
 have anG:zero.length=sz:=Cc hzl
 have aKs:sz<=1000:=Nat.le_of_ble_eq_true hsz1
 obtain⟨pr,hpr⟩:∃pr:Nat->aj->GH->Prop,pr=(fun i v G=>match i with
   |0=>v=.slice A0 n c0|1=>v=.agg news.toArray|2=>v=.int .i64 (n:Int)|3=>∃b,v=.slice (some ⟨b,0,none⟩) 1 1∧G b=some (.cells zero.toArray tE (0,0))|_=>True):=⟨_,M⟩
 have jG:∀i v(G G':GH),(∀k o,G k=some o->G' k=some o)->pr i v G->pr i v G':=by
  intro i v G G' hm h
  subst hpr
  match i,h with
  |0,h=>exact h
  |1,h=>exact h
  |2,h=>exact h
  |3,h=>obtain⟨b,h1,h2⟩:=h;exact⟨b,h1,hm _ _ h2⟩
  |_+4,h=>exact trivial
 have hset:Li.set i0 (bp,.cells #[.slice A0 n c0] tS (0,0))=Li:=by
  have e:=(jJ.1 hi0).2
  rw[<-e];exact List.set_getElem_self _
 have aBv:(Li++Lo)[i0]?=some (bp,Obj.cells #[.slice A0 n c0] tS (0,0)):=by rw[xH hb0];exact hi0
 have aBw:(Li++Lo)[i1]?=some (bx,Obj.cells news.toArray tE (0,0)):=by rw[xH hb1];exact hi1
 refine avd hm afp [4,5,6,7] hk (by simp[aed,Tk,List.range,List.range.loop]) pr
  (fun S a w=>∃G1 v gP xs',(∀k o,G k=some o->G1 k=some o)∧St N D w0 F G0 G1 (Li.set i0 (bp,.cells #[if S 7 then v else .slice A0 n c0] tS (0,0))++gP) T a w∧a.tmps[s0]?=some (.slice A0 n c0)∧a.tmps[s1]?=some (.agg news.toArray)∧a.tmps[s2]?=some (.int .i64 (n:Int))∧
   (S 4=false->v=.slice A0 n c0∧gP=Lo∧S 7=false∧∃b,a.tmps[s3]?=some (.slice (some ⟨b,0,none⟩) 1 1)∧G1 b=some (.cells zero.toArray tE (0,0)))∧
   (S 4=true->bT tE sz v (n+1) xs' gP∧xs'=xs++(if S 6 then news else zero)∧a.tmps[s4]?=some v∧(S 5=true->∃b c,v=.slice (some ⟨b,0,none⟩) (n+1) c∧a.tmps[s5]?=some (.pointer<|some ⟨b,n*sz,none⟩)))) H ?_ ?_ ?_ ?_
 ·refine bE ?_<|bE ?_<|bE ?_<|bE ?_<|bE ?_<|bE ?_<|bE ?_<|bE ?_ dz
  ·intro S a w G1 _ aM hc hG HT hv
   have Hb:=HT.full
   refine vo htS Hb wn (by show lk _ _=_;rw[KL,hp0]) (Hb.hp.sD i0 aBv M) b0 ?_
   intro a' H;exact aI ⟨M,qw (Us hok (by show _<8;decide)) jG rfl rfl HT Hb hG hv (fun _ _ h=>h) (by subst hpr;rfl) H⟩
  ·intro S a w G1 _ aM hc hG HT hv
   have Hb:=HT.full
   refine aY ht (cs:=news) Hb wn (by show lk _ _=_;rw[KL,hp1]) hnl (Hb.hp.dB i1 aBw (by simp)) b1 ?_
   intro a' H;exact aI ⟨M,qw (Us hok (by show _<8;decide)) jG rfl rfl HT Hb hG hv (fun _ _ h=>h) (by subst hpr;rfl) H⟩
  ·intro S a w G1 _ aM hc hG HT hv
   obtain⟨u,hu,hpu⟩:=hv 0 s0 (hc 0 Z) M
   obtain rfl:u=.slice A0 n c0:=by subst hpr;exact hpu
   have Hb:=(HT.fT hu).full
   refine adO hs Hb wn (by show lk _ _=_;rw[KL,mq]) b2 ?_
   intro a' H;exact aI ⟨M,qw (Us hok (by show _<8;decide)) jG rfl rfl HT Hb hG hv (fun _ _ h=>h) (by subst hpr;rfl) H⟩
  ·intro S a w G1 _ aM hc hG HT hv
   have Hb:=HT.full
   have hzz:((List.range (1*sz)).map<|fun i=>zero[i%zero.length]!).length=sz:=by simp
   refine iT (xs:=[(0,.const zv)]) (vs:=[(0,zv)]) (vs':=[(0,zero)]) hs ht _ zero Hb wn M (by simp[hzc]) (by rw[Nat.one_mul];exact hsz1) (by rw[Nat.one_mul];exact qY (by have:0<sz:=Eq.mp Nat.blt_eq hsz0;omega)) rfl (fun i q h=>by match i,h with|0,h=>exact h|n+1,h=>simp at h) ?_ b3 ?_
   ·have e1:Nat.beq zero.length sz=true:=hzl
    have e2:Nat.ble (0*sz+zero.length) ((List.range (1*sz)).map<|fun i=>zero[i%zero.length]!).length=true:=by rw[hzz,anG,Nat.zero_mul,fB];exact Eq.mpr Nat.ble_eq<|eP _
    have e3:∀z:List aj,Nat.ble (0*sz+zero.length) z.length=true->z.length=sz->Bo ((List.range 1).map fun i=>(i*sz,sz)) z [(0,zero)]=some zero:=by
     intro z h1 h2
     have h3:((List.range 1).map fun i=>(i*sz,sz))[0]?=some (0*sz,sz):=rfl
     simp only[Bo,h3,e1,h1,Bool.and_self,cond_true]
     rw[Oo _ _ _ O,Nat.zero_mul,List.take_zero,fQ,fB,mh O,iR]
    exact e3 _ e2 hzz
   ·intro b a' w' hbs H
    obtain⟨G2,hm2,hb,H⟩:=H.eX
    exact aI ⟨M,qw (Us hok (by show _<8;decide)) jG rfl rfl HT Hb hG hv hm2 (by subst hpr;exact⟨b,M,hb⟩) H⟩
  ·intro _ _ _ _ hB;exact absurd hB Z
  ·intro _ _ _ _ hB;exact absurd hB Z
  ·intro _ _ _ _ hB;exact absurd hB Z
  ·intro _ _ _ _ hB;exact absurd hB Z
 ·intro S a w G1 hG HS hv hB
  obtain⟨u0,hu0,aC2⟩:=hv 0 s0 Z M
  obtain⟨u1,hu1,hp1'⟩:=hv 1 s1 Z M
  obtain⟨u2,hu2,aC4⟩:=hv 2 s2 Z M
  obtain⟨u3,hu3,aC5⟩:=hv 3 s3 Z M
  subst hpr
  obtain rfl:u0=.slice A0 n c0:=aC2
  obtain rfl:u1=.agg news.toArray:=hp1'
  obtain rfl:u2=.int .i64 (n:Int):=aC4
  obtain⟨b,rfl,hb⟩:∃b,u3=.slice (some ⟨b,0,none⟩) 1 1∧G1 b=some (.cells zero.toArray tE (0,0)):=aC5
  have h7:=hB 7 Z
  have h4:=hB 4 Z
  refine⟨G1,_,Lo,xs,hG,?_,hu0,hu1,hu2,fun _=>⟨M,M,h7,b,hu3,hb⟩,fun h=>by rw[h4]at h;cases h⟩
  rw[h7,au Z,hset];exact HS
 ·refine bE ?_<|bE ?_<|bE ?_<|bE ?_<|bE ?_<|bE ?_<|bE ?_<|bE ?_ dz
  ·intro _ _ _ hB;exact absurd hB Z
  ·intro _ _ _ hB;exact absurd hB Z
  ·intro _ _ _ hB;exact absurd hB Z
  ·intro _ _ _ hB;exact absurd hB Z
  ·rintro S a w-h4-hd ⟨G1,v,gP,xs',hG,HS,h0,h1,h2,hA,-⟩
   obtain⟨rfl,rfl,h7,b,h3,hb⟩:=hA h4
   rw[h7,au Z]at HS
   have H:=(((HS.fT h0).fT h1).fT h2).fT h3
   refine lW (news:=zero) hs ht hzl hsz0 H wn (by show lk _ _=_;rw[gL (Ne.symm n03),gL (Ne.symm RN),gL (Ne.symm RL),mq]) (by show lk _ _=_;rw[mq]) hrow (by rw[Nat.one_mul];exact anG) (fun j u hj=>H.hp.aJ (by unfold aJ;rw[hb];simpa using hj)) hz1 h63 hb' b4 ?_
   intro v' OZ a' w' hrow' H';refine aI ⟨M,G1,v',OZ,xs++zero,hG,?_,?_,?_,?_,fun h=>?_,fun _=>⟨hrow',?_,?_,fun h=>?_⟩⟩
   ·rw[show(dD S 4) 7=false from h7,au Z]
    exact((((H'.zT (by rw[gL n34,gL n24,gL n14,gL Wd];exact l4)).zT (by rw[gL n23,gL n13,gL n03];exact l3)).zT (by rw[gL n12,gL RN];exact l2)).zT (by rw[gL RL];exact l1)).zT l0
   ·exact H'.get s0 _ (by rw[gL (Ne.symm Wd),gL (Ne.symm n03),gL (Ne.symm RN),gL (Ne.symm RL),mq])
   ·exact H'.get s1 _ (by rw[gL (Ne.symm n14),gL (Ne.symm n13),gL (Ne.symm n12),mq])
   ·exact H'.get s2 _ (by rw[gL (Ne.symm n24),gL (Ne.symm n23),mq])
   ·exact absurd h (by simp[dD])
   ·rw[show(dD S 4) 6=false from hd 6 (show 6<8 by decide) Z];rfl
   ·exact H'.get s4 _<|mq _ _ _
   ·exact absurd h (by rw[show(dD S 4) 5=S 5 from rfl,hd 5 (show 5<8 by decide) Z];decide)
  ·rintro S a w-h5 hc hd ⟨G1,v,gP,xs',hG,HS,h0,h1,h2,-,hA⟩
   obtain⟨hrow',hxs,hs4,-⟩:=hA<|hc 4 Z
   obtain⟨b,cap,hv,-⟩:∃b cap,v=.slice (some ⟨b,0,none⟩) (n+1) cap∧True:=by
    rcases hrow'.2 with⟨_,h,_⟩|⟨b,cap,cur,h,_⟩
    ·cases h
    ·exact⟨b,cap,h,aC⟩
   subst hv
   have H:=(((HS.fT h0).fT h1).fT h2).fT hs4
   refine Dp hs ht n H wn (by show lk _ _=_;rw[mq]) (by show lk _ _=_;rw[gL (Ne.symm n24),mq]) M (Nat.lt_succ_self n) b5 ?_
   intro a' H'
   rw[fB]at H'
   refine aI ⟨M,G1,_,gP,xs',hG,?_,?_,?_,?_,fun h=>?_,fun _=>⟨hrow',hxs,?_,fun h=>⟨b,cap,M,?_⟩⟩⟩
   ·exact((((H'.zT (by rw[gL n45,gL n25,gL n15,gL n05];exact l5)).zT (by rw[gL n24,gL n14,gL Wd];exact l4)).zT (by rw[gL n12,gL RN];exact l2)).zT (by rw[gL RL];exact l1)).zT l0
   ·exact H'.get s0 _ (by rw[gL (Ne.symm n05),gL (Ne.symm Wd),gL (Ne.symm RN),gL (Ne.symm RL),mq])
   ·exact H'.get s1 _ (by rw[gL (Ne.symm n15),gL (Ne.symm n14),gL (Ne.symm n12),mq])
   ·exact H'.get s2 _ (by rw[gL (Ne.symm n25),gL (Ne.symm n24),mq])
   ·exact absurd h (by rw[show(dD S 5) 4=S 4 from rfl,hc 4 Z];decide)
   ·exact H'.get s4 _ (by rw[gL (Ne.symm n45),mq])
   ·exact H'.get s5 _<|mq _ _ _
  ·rintro S a w-h6 hc hd ⟨G1,v,gP,xs',hG,HS,h0,h1,h2,-,hA⟩
   obtain⟨hrow',hxs,hs4,h5⟩:=hA<|hc 4 Z
   obtain⟨b,cap,rfl,hs5⟩:=h5<|hc 5 Z
   rw[h6,au Z]at hxs
   subst hxs
   obtain⟨cur,hLo⟩:∃cur,gP=[(b,.cells cur tE (0,0))]:=by
    rcases hrow'.2 with⟨h,_⟩|⟨b',cap',cur,h,h',_⟩
    ·cases h
    ·cases h;exact⟨cur,h'⟩
   subst hLo
   obtain⟨hle,hov⟩:=hrow'.over hrow.1 hnl
   have H:=(HS.fT h1).fT hs5
   refine EG ht Li.length (b:=b) (o:=n*sz) (c:=cur.toList) (e:=tE) (vs:=news) _ H wn (by show lk _ _=_;rw[mq]) (by rw[uQ (by simp),List.length_set,Nat.sub_self];simp) (by show lk _ _=_;rw[gL (Ne.symm n15),mq]) M (by rw[hnl];exact Nat.beq_refl sz) hn1 (Eq.mpr Nat.ble_eq hle) M ?_
   intro w' H';refine aI ⟨M,G1,_,_,_,hG,?_,h0,h1,h2,fun h=>?_,fun _=>⟨hov,?_,hs4,fun _=>⟨b,cap,M,hs5⟩⟩⟩
   ·have H2:=(H'.zT (by rw[gL n15];exact l5)).zT l1
    rw[List.set_append_right _ _ (by simp),List.length_set,Nat.sub_self]at H2
    exact H2
   ·exact absurd h (by rw[show(dD S 6) 4=S 4 from rfl,hc 4 Z];decide)
   ·rw[show(dD S 6) 6=true from rfl];rfl
  ·rintro S a w-h7 hc hd ⟨G1,v,gP,xs',hG,HS,h0,h1,h2,-,hA⟩
   obtain⟨hrow',hxs,hs4,h5⟩:=hA<|hc 4 Z
   obtain⟨A',cap,rfl,-,-⟩:=hrow'.shape
   rw[h7,au Z,hset]at HS
   have H:=HS.fT hs4
   refine EG htS i0 (c:=[.slice A0 n c0]) (vs:=[.slice A' (n+1) cap]) _ H wn (by show lk _ _=_;rw[gL (fun e=>by subst e;rw[hp0]at l4;cases l4)];exact hp0) (by rw[xH hb0];exact hi0) (by show lk _ _=_;rw[mq]) M M M M M ?_
   intro w' H';refine aI ⟨M,G1,_,gP,xs',hG,?_,h0,h1,h2,fun h=>?_,fun _=>⟨hrow',hxs,hs4,h5⟩⟩
   ·have H2:=H'.zT l4
    rw[List.set_append_left _ _ hb0]at H2
    rw[show(dD S 7) 7=true from rfl]
    exact H2
   ·exact absurd h (by rw[show(dD S 7) 4=S 4 from rfl,hc 4 Z];decide)
 ·rintro S a w hall ⟨G1,v,gP,xs',hG,HS,h0,h1,h2,-,hA⟩
  obtain⟨hrow',hxs,hs4,h5⟩:=hA (hall 4 (show 4<8 by decide))
  rw[hall 6 (show 6<8 by decide)]at hxs
  rw[hall 7 (show 7<8 by decide)]at HS
  subst hxs
  exact hend v gP G1 a w hG hrow' HS
end
end
section
section
variable{N:Nat}{D:List Deferred}{w0:World}{F:Nat->Prop}{G0 G:GH}{L:OL}{T T':List (Nat×aj)}
variable{r:Option Nat}{P:Program}{Q:Exit->Act->World->Prop}{l:List Oper}{a a':Act}{w w':World}{ε:Type}
def LZ(l:List Oper)(pr:ε->Nat->aj->Prop)(T:List (Nat×aj))(S:Nat->Bool)(E:ε)(T':List (Nat×aj)):Prop :=
 (∀t v,lk T t=some v->lk T' t=some v)∧∀i d,S i=true->dZ l i=some d->∃v,lk T' d=some v∧pr E i v
theorem LZ.put{pr:ε->Nat->aj->Prop}{S:Nat->Bool}{E E':ε}{i d:Nat}{v:aj}(h:LZ l pr T S E T')(hok:aak l T=true)(hi:dZ l i=some d)(hv:pr E' i v)(hE:∀j u,j≠i->pr E j u->pr E' j u):LZ l pr T (dD S i) E' ((d,v)::T'):=by
 have hil:=rR hi
 have hok1:=lM.1 hok i<|qo.2 hil
 rw[pz,hi]at hok1
 simp only[kV,Option.isNone_iff_eq_none,lM,qo]at hok1
 refine⟨fun t u ht=>?_,fun j e hj he=>?_⟩
 ·rw[gL (fun e=>by subst e;rw[hok1.1]at ht;cases ht)];exact h.1 t u ht
 ·by_cases hji:j=i
  ·subst hji;rw[hi]at he;cases he;exact⟨v,mq _ _ _,hv⟩
  ·have hSj:S j=true:=by unfold dD at hj;rwa[au hji]at hj
   obtain⟨u,hu1,hu2⟩:=h.2 j e hSj he
   have hne:d≠e:=by
    intro e';subst e'
    have h2:=hok1.2 j<|rR he
    have hb:Nat.beq i j=false:=qY<|fun h=>hji h.symm
    rw[hb,he]at h2
    simp at h2
   exact⟨u,by rw[gL hne];exact hu1,hE j u hji hu2⟩
theorem LZ.add{pr:ε->Nat->aj->Prop}{S:Nat->Bool}{E:ε}(h:LZ l pr T S E T'){t:Nat}{u:aj}(hu:lk T' t=some u):LZ l pr T S E ((t,u)::T'):=by
 have e:∀s v,lk T' s=some v->lk ((t,u)::T') s=some v:=fun s v hs=>by
  by_cases hst:t=s
  ·subst hst;rw[hu]at hs;cases hs;exact mq _ _ _
  ·rw[gL hst];exact hs
 exact⟨fun s v hs=>e s v (h.1 s v hs),fun i d hi hd=>by
  obtain⟨v,h1,h2⟩:=h.2 i d hi hd
  exact⟨v,e d v h1,h2⟩⟩
end
end
section
section
variable{N:Nat}{D:List Deferred}{w0:World}{F:Nat->Prop}{G0 G G1 G2:GH}{L L1:OL}{T Xs:List (Nat×aj)}
variable{r:Option Nat}{P:Program}{Q:Exit->Act->World->Prop}{l:List Oper}{a a':Act}{w w':World}
theorem JG{id:Nat}(hm:P.follows .mixedOrders=true)(bK:List (List Nat))(B:List Nat)(hk:xO l bK=true)(hB:yx l bK B=true)(X:(Nat->Bool)->Act->World->Prop)(h0:X (fun _=>false) a w.drew)
  (hstep:∀i o S a w,l[i]?=some o->B.contains i=false->S i=false->(∀j∈bK.getD i [],S j=true)->(∀j,j<l.length->i∈bK.getD j []->S j=false)->X S a w->WL r P l.toArray (fun e a' w'=>e=.normal∧X (dD S i) a' w') [o] a w)
  (hend:∀S a w,(∀i,i<l.length->B.contains i=false->S i=true)->(∀i,B.contains i=true->S i=false)->X S a w->WL r P l.toArray (fun e a w=>e=.normal∧Q .normal a w) (qM l B) a w):WP r P (.region id l.toArray true) Q a w:=by
 have hB1:∀p b,B[p]?=some b->b<l.length∧∀i,i<l.length->(B.contains i=false∨(B.take p).contains i=true)->i∈bK.getD b []:=by
  intro p b hp
  simp only[yx,kV]at hB
  have h1:=lM.1 hB.1 p<|qo.2 (jJ.1 hp).1
  rw[hp]at h1
  simp only[kV,lM,qo]at h1
  refine⟨Eq.mp Nat.blt_eq h1.1,fun i hi hor=>?_⟩
  have h2:=h1.2 i hi
  rcases hor with h3|h3
  ·have h4:i∉B:=by simpa using h3
   simpa[h4]using h2
  ·have h4:i∈B.take p:=by simpa using h3
   simpa[h4]using h2
 have hB2:∀i,i<l.length->B.contains i=false->∀j∈bK.getD i [],B.contains j=false:=by
  intro i hi hb j hj
  simp only[yx,kV]at hB
  have h1:=lM.1 hB.2 i<|qo.2 hi
  rw[hb]at h1
  simp only[Bool.false_or,lM]at h1
  simpa using h1 j hj
 refine ZW hm bK hk (fun S a w=>((∀i,B.contains i=true->S i=false)∧X S a w)∨
   ∃p,(∀i,i<l.length->B.contains i=false->S i=true)∧(∀i,(B.take p).contains i=true->S i=true)∧(∀q b,B[q]?=some b->p<=q->S b=false)∧WL r P l.toArray (fun e a w=>e=.normal∧Q .normal a w) (qM l<|B.drop p) a w)
  (.inl ⟨fun _ _=>rfl,h0⟩) ?_ ?_
 ·intro i o S a w ho hX aM jA hdesc
  have hil:i<l.length:=(jJ.1 ho).1
  by_cases hbi:B.contains i=true
  ·-- an operation of the tail: all that stands ahead of it is done
   obtain⟨p0,hp0⟩:=List.getElem?_of_mem (by simpa using hbi:i∈B)
   have hall:∀j,j<l.length->B.contains j=false->S j=true:=fun j hj hb=>jA j ((hB1 p0 i hp0).2 j hj (.inl hb))
   have abY:∃p,(∀i,(B.take p).contains i=true->S i=true)∧(∀q b,B[q]?=some b->p<=q->S b=false)∧WL r P l.toArray (fun e a w=>e=.normal∧Q .normal a w) (qM l<|B.drop p) a w:=by
    rcases hX with⟨h1,hD⟩|⟨p,_,h2,h3,h4⟩
    ·exact⟨0,by simp,fun q b hq _=>h1 b (by simpa using lZ hq),hend S a w hall h1 hD⟩
    ·exact⟨p,h2,h3,h4⟩
   obtain⟨p,h2,h3,h4⟩:=abY
   -- i is the next one
   have hpp:p<=p0:=by
    rcases Nat.lt_or_ge p0 p with hlt|hge
    ·have:(B.take p).contains i=true:=by
      simp only[zK]
      exact lZ (i:=p0) (by rw[xG,ay hlt];exact hp0)
     rw[h2 i this]at aM;cases aM
    ·exact hge
   have Kr:p<B.length:=by have:=(jJ.1 hp0).1;omega
   have hbp:B[p]?=some B[p]:=gF Kr
   have heq:B[p]=i:=by
    rcases Nat.lt_or_ge p p0 with hlt|hge
    ·exfalso
     have hin:B[p]∈bK.getD i []:=(hB1 p0 i hp0).2 _ (hB1 p _ hbp).1 (.inr (by
      simp only[zK]
      exact lZ (i:=p) (by rw[xG,ay hlt];exact hbp)))
     have:=jA _ hin
     rw[h3 p _ hbp<|eP _]at this;cases this
    ·have:p=p0:=by omega
     subst this
     rw[hbp]at hp0;simpa using hp0
   have hdrop:B.drop p=i::B.drop (p+1):=by rw[mg Kr,heq]
   have hops:qM l (B.drop p)=o::qM l (B.drop<|p+1):=by rw[hdrop];simp[qM,ho]
   rw[hops]at h4
   refine asl (fun a' w' h5=>.inr ⟨p+1,fun j hj hb=>?_,fun j hj=>?_,fun q b hq hpq=>?_,h5⟩) h4
   ·unfold dD;split
    ·rfl
    ·exact hall j hj hb
   ·unfold dD;split
    ·rfl
    ·rename_i hne
     refine h2 j ?_
     simp only[zK]at hj|-
     rw[ji Kr,iF]at hj
     rcases hj with hj|hj
     ·exact hj
     ·simp only[oH]at hj;exact absurd (hj.trans heq) hne
   ·unfold dD
    rw[au ?_]
    ·exact h3 q b hq O
    ·rintro rfl
     -- i would stand twice in B: it would come ahead of itself
     have h6:=(hB1 q b hq).2 b (hB1 q b hq).1 (.inr (by
      simp only[zK]
      exact lZ (i:=p) (by rw[xG,ay O];rw[hbp,heq])))
     rw[jA _ h6]at aM;cases aM
  ·have CQ:B.contains i=false:=by cases h:B.contains i with|false=>rfl|true=>exact absurd h hbi
   rcases hX with⟨h1,hX⟩|⟨p,h0,_,_,_⟩
   ·refine mU (fun e a' w'⟨he,hD⟩=>⟨he,.inl ⟨fun j hj=>?_,hD⟩⟩)<|hstep i o S a w ho CQ aM jA hdesc hX
    unfold dD
    rw[au (by rintro rfl;rw[CQ]at hj;cases hj)]
    exact h1 j hj
   ·rw[h0 i hil CQ]at aM;cases aM
 ·intro S a w hall hX
  rcases hX with⟨h1,hD⟩|⟨p,_,_,h3,h4⟩
  ·have hnil:B=[]:=by
    cases B with
    |nil=>rfl
    |cons b B=>have h5:=h1 b (by simp);rw[hall b (hB1 0 b M).1]at h5;cases h5
   subst hnil
   exact(hend S a w (fun j hj _=>hall j hj) h1 hD).2
  ·have hnil:B.drop p=[]:=by
    cases hd:B.drop p with
    |nil=>rfl
    |cons b B'=>
     have hb:B[p]?=some b:=by
      have:=cO (fun x:List Nat=>x[0]?) hd
      simpa using this
     have h5:=h3 p b hb<|eP _
     rw[hall b (hB1 p b hb).1]at h5;cases h5
   rw[hnil]at h4
   exact h4.2
theorem ajC{pr:Nat->aj->GH->Prop}{S:Nat->Bool}{i d:Nat}{v:aj}(hok:pz l T i=true)(hi:dZ l i=some d) 
  (HT:St N D w0 F G0 G1 L T a w)(Hb:St N D w0 F G0 G1 L (Xs++full N a) a w)(hG:∀k o,G k=some o->G1 k=some o)(hv:∀j d,j≠i->S j=true->dZ l j=some d->∃v,a.tmps[d]?=some v∧pr j v G1)
  (hp:pr i v G1)(H:St N D w0 F G0 G1 L1 ((d,v)::(Xs++full N a)) a' w'):DX N D w0 F G0 G L1 T l pr (dD S i) a' w':=by
 have hil:i<l.length:=rR hi
 have hok1:=hok
 rw[pz,hi]at hok1
 simp only[kV,Option.isNone_iff_eq_none,lM,qo]at hok1
 have hsame:∀t,t≠d->a'.tmps[t]?=a.tmps[t]?:=by
  intro t ht
  by_cases hlt:t<N
  ·have h1:∃u,lk (Xs++full N a) t=some u:=by
    rw[KL]
    cases lk Xs t with
    |some u=>exact⟨u,M⟩
    |none=>exact⟨_,V5 a hlt⟩
   obtain⟨u,hu⟩:=h1
   rw[Hb.get t u hu,H.get t u (by rw[gL<|Ne.symm ht];exact hu)]
  ·rw[Array.getElem?_eq_none (by rw[H.nX];omega),Array.getElem?_eq_none (by rw[Hb.nX];omega)]
 refine⟨G1,hG,⟨H.nX,fun t u ht=>?_,H.uS,H.hp⟩,fun j e hj he=>?_⟩
 ·rw[hsame t (fun e=>by rw[e,hok1.1]at ht;cases ht)]
  exact HT.get t u ht
 ·by_cases hji:j=i
  ·subst hji
   rw[hi]at he
   simp only[oW]at he
   subst he
   exact⟨v,H.get d v (mq _ _ _),hp⟩
  ·have hSj:S j=true:=by unfold dD at hj;rwa[au hji]at hj
   obtain⟨u,hu1,hu2⟩:=hv j e hji hSj he
   have hne:e≠d:=by
    intro e'
    subst e'
    have h2:=hok1.2 j<|rR he
    rw[qY (fun h=>hji h.symm),he]at h2
    simp at h2
   exact⟨u,by rw[hsame e hne];exact hu1,hu2⟩
end
end
section
structure LY(P:Program)(t:TypeId):Prop where
 h:(P.info? t).map (fun j=>j.size==0)=some false
theorem LY.parts{P:Program}{t:TypeId}(h:LY P t):∃j,P.info? t=some j∧j.size≠0:=by
 obtain⟨j,h1,h2⟩:=nK.1 h.h
 exact⟨j,h1,by simpa using h2⟩
structure U8(P:Program)(e:TypeId):Prop where
 h:(P.info? e).map (fun i=>(i.zero,i.size,i.bytes))=some (some (.int .u8 0),1,1)
section
variable{N:Nat}{D:List Deferred}{w0:World}{F:Nat->Prop}{G0 G:GH}{L Li Lo:OL}{T:List (Nat×aj)}
variable{r:Option Nat}{P:Program}{ops:Array Oper}{Q:Exit->Act->World->Prop}{rest:List Oper}{a:Act}{w:World}
variable{d:Nat}{ty:TypeId}{pos:String}{aT:Array Edge}{g:Option (Nat×Bool)}
theorem Hp.shape(h:Hp w0 F G0 G L w){i b:Nat}{c:Array aj}{e:TypeId}{fz:Nat×Nat}(hi:L[i]?=some (b,.cells c e fz)):w.shape? b=some (e,c.size):=by
 have:=h.own _<|lZ hi
 simp only at this
 simp[World.shape?,this]
theorem aqx{t u te e:TypeId}{x:Operand}{b o:Nat}{c:Array aj}{fz:Nat×Nat}(hs:P.underlying t=some (.pointer te))(hu:P.underlying u=some .unsafePointer)(hj:LY P te)(H:St N D w0 F G0 G L T a w)(hw:Region.wanted ⟨some d,.convert t u x,ty,pos,aT,g⟩ (yielded ops a.tmps)=true)
  (hx:ev T x=some (.pointer<|some ⟨b,o,none⟩))(i:Nat)(hi:L[i]?=some (b,.cells c e fz))(ho:Nat.blt o c.size=true)(hd:Nat.blt d N=true)
  (k:∀a',St N D w0 F G0 G L ((d,.pointer<|some ⟨b,o,none⟩)::T) a' w->WL r P ops Q rest a' w):WL r P ops Q (⟨some d,.convert t u x,ty,pos,aT,g⟩::rest) a w:=by
 obtain⟨j,h1,h2⟩:=hj.parts
 refine fH (v:=.pointer<|some ⟨b,o,none⟩) (w':=w) hw M ?_<|k _<|H.put hd _ H.hp
 have h:=Lib.run_to_unsafe (P:=P) w ⟨b,o,none⟩ hs hu h1 h2 (H.hp.shape hi)<|Eq.mp Nat.blt_eq ho
 simp only[execOp,H.ev hx,dP,h,kY,rO]
theorem aqn{t u te e:TypeId}{x:Operand}{b o:Nat}{c:Array aj}{fz:Nat×Nat}(hs:P.underlying t=some .unsafePointer)(hu:P.underlying u=some (.pointer te))(hj:LY P te)(H:St N D w0 F G0 G L T a w)(hw:Region.wanted ⟨some d,.convert t u x,ty,pos,aT,g⟩ (yielded ops a.tmps)=true)
  (hx:ev T x=some (.pointer<|some ⟨b,o,none⟩))(i:Nat)(hi:L[i]?=some (b,.cells c e fz))(hl:liesAt P P.depth e (c.size/P.cellsOf e) o te 1=true)(hd:Nat.blt d N=true)
  (k:∀a',St N D w0 F G0 G L ((d,.pointer<|some ⟨b,o,none⟩)::T) a' w->WL r P ops Q rest a' w):WL r P ops Q (⟨some d,.convert t u x,ty,pos,aT,g⟩::rest) a w:=by
 obtain⟨j,h1,h2⟩:=hj.parts
 refine fH (v:=.pointer<|some ⟨b,o,none⟩) (w':=w) hw M ?_<|k _<|H.put hd _ H.hp
 have h:=Lib.run_from_unsafe (P:=P) w ⟨b,o,none⟩ hs hu h1 (H.hp.shape hi) hl
 simp only[execOp,H.ev hx,dP,h,kY,rO]
theorem aqt{f:FuncId}{xs:List Operand}{v:aj}{ts:Array TypeId}(hcf:∀(w:World),(callFunc f #[v]).run P w=.ok (.value v) w)(H:St N D w0 F G0 G L T a w)(hw:Region.wanted ⟨some d,.call { callee:=.value (.func f),args:=xs.toArray,argTypes:=ts },ty,pos,aT,g⟩ (yielded ops a.tmps)=true)
  (hx:evs T xs=some [v])(hd:Nat.blt d N=true)
  (k:∀a',St N D w0 F G0 G L ((d,v)::T) a' w->WL r P ops Q rest a' w):WL r P ops Q (⟨some d,.call { callee:=.value (.func f),args:=xs.toArray,argTypes:=ts },ty,pos,aT,g⟩::rest) a w:=by
 refine fH (v:=v) (w':=w) hw M ?_<|k _<|H.put hd _ H.hp
 have h1:=H.evs hx
 simp[execOp,resolve,Act.eval,Deferred.ofValue,invoke,dP,h1,hcf]
theorem aGM{f:FuncId}{fn:Func}(hf:P.funcs[f]?=some fn)(hname:(fn.name== "runtime.NumGoroutine")=false)(hb:fn.body.isNone=true)(hn:Extern.findNext fn=none)(he:Extern.find fn=some Extern.AbiNoEscape.same)(v:aj)(w:World):(callFunc f #[v]).run P w=.ok (.value v) w:=by
 rw[run_callFunc_extern hf hname hb hn he,Lib.run_noEscape]
 rfl
theorem WT{t u te:TypeId}(hs:P.underlying t=some (.pointer te)){x:Operand}{p:Option Addr}(H:St N D w0 F G0 G L T a w)(hw:Region.wanted ⟨some d,.binOp .eql t x (.const (.pointer none)) u,ty,pos,aT,g⟩ (yielded ops a.tmps)=true)(hx:ev T x=some (.pointer p))(hd:Nat.blt d N=true)
  (k:∀a',St N D w0 F G0 G L ((d,.bool p.isNone)::T) a' w->WL r P ops Q rest a' w):WL r P ops Q (⟨some d,.binOp .eql t x (.const (.pointer none)) u,ty,pos,aT,g⟩::rest) a w:=by
 refine fH (v:=.bool p.isNone) (w':=w) hw M ?_<|k _<|H.put hd _ H.hp
 have h1:(Op.equal t (.pointer p) (.pointer none)).run P w=.ok p.isNone w:=by
  show(Op.equalIn (9999+1) t (.pointer p) (.pointer none)).run P w=_
  rw[Op.equalIn.eq_2,dP,lV hs]
  cases p<;>simp
 have h2:(do eqGuard .eql t x (.const (.pointer none)) (.pointer p) (.pointer none);binOp .eql t (.pointer p) (.pointer none):Sem aj).run P w=.ok (.bool p.isNone) w:=by
  have e:(do eqGuard .eql t x (.const (.pointer none)) (.pointer p) (.pointer none);binOp .eql t (.pointer p) (.pointer none):Sem aj)=(do pure (.bool (<-Op.equal t (.pointer p) (.pointer none))):Sem aj):=rfl
  rw[e,dP,h1];rfl
 have e0:execOp a.eval ⟨some d,.binOp .eql t x (.const (.pointer none)) u,ty,pos,aT,g⟩=(do pure (.value (<-(do eqGuard .eql t x (.const (.pointer none)) (.pointer p) (.pointer none);binOp .eql t (.pointer p) (.pointer none):Sem aj))):Sem Next):=by
  simp only[execOp,H.ev hx];rfl
 rw[e0,dP,h2]
 rfl
theorem aqs{t u te:TypeId}(hs:P.underlying t=some (.pointer te))(hj:LY P te){x y:Operand}{p:Addr}(H:St N D w0 F G0 G L T a w)(hw:Region.wanted ⟨some d,.binOp .neq t x y u,ty,pos,aT,g⟩ (yielded ops a.tmps)=true)(hx:ev T x=some (.pointer<|some p))(hy:ev T y=some (.pointer<|some p))(hd:Nat.blt d N=true)
  (k:∀a',St N D w0 F G0 G L ((d,.bool false)::T) a' w->WL r P ops Q rest a' w):WL r P ops Q (⟨some d,.binOp .neq t x y u,ty,pos,aT,g⟩::rest) a w:=by
 obtain⟨j,h1,h2⟩:=hj.parts
 refine fH (v:=.bool false) (w':=w) hw M ?_<|k _<|H.put hd _ H.hp
 have h:=Lib.run_neq_ptr_same (P:=P) (w:=w) p hs h1
 simp only[execOp,H.ev hx,H.ev hy]
 simp[dP,eqGuard,h]
theorem aGU{t u e:TypeId}(hs:P.underlying t=some (.slice e))(hu:P.underlying u=some .string)(ht:U8 P e){x y:Operand}{v:aj}{n:Nat}{xs:List aj}{s:ByteArray}(H:St N D w0 F G0 G (Li++Lo) T a w)
  (hw:Region.wanted ⟨some d,.call { callee:=.builtin .append,args:=#[x,y],argTypes:=#[t,u] },ty,pos,aT,g⟩ (yielded ops a.tmps)=true)(hx:ev T x=some v)(hy:ev T y=some (.string s))(hrow:bT e 1 v n xs Lo)
  (h63:n+s.size<=140737488355328)(hd:Nat.blt d N=true)
  (k:∀v' gP a' w',bT e 1 v' (n+s.size) (xs++Lib.strCells s) gP->St N D w0 F G0 G (Li++gP) ((d,v')::T) a' w'->WL r P ops Q rest a' w') :
  WL r P ops Q (⟨some d,.call { callee:=.builtin .append,args:=#[x,y],argTypes:=#[t,u] },ty,pos,aT,g⟩::rest) a w:=by
 obtain⟨i,hi,hz⟩:=nK.1 ht.h
 simp only[jd]at hz
 have hown:=hrow.owns H.hp
 obtain⟨v',w2,hrun,r1,r2,r3⟩:=Lib.run_append_own_string (P:=P) (w:=w) 0 t u ty e i hs hu hi hz.1 hz.2.1 hz.2.2 v n xs hown s (by simp only[maxLen];omega) h63<|fP _
 have hxl:xs.length=n:=by simpa using hrow.1
 have hb:v'.ownBlock=v.ownBlock∨v'.ownBlock=some w.heap.size:=by
  rcases hown.2 with⟨hv,hn⟩|⟨g,cap,cur,hv,_,hg,hnc,hcm,hcs,_⟩
  ·subst hv
   by_cases hm:s.size=0
   ·left;rw[r3.2 ⟨M,hm⟩]
   ·right
    have hr:=run_append_nil_string (P:=P) w t u ty e i (.int .u8 0) hs hu hi hz.1 s O O (by rw[hz.2.2];omega)
    rw[hrun]at hr
    injection hr with h1 h2
    rw[h1];rfl
  ·subst hv
   by_cases hroom:n+s.size<=cap
   ·left
    have hcs':cur.size=cap:=by simpa using hcs
    have hr:=Lib.run_append_room_string (P:=P) (w:=w) t u ty e i hs hu hi hz.2.1 g n cap cur hg s hroom O
    rw[hrun]at hr
    injection hr with h1 h2
    rw[h1];rfl
   ·right
    have holds:∀j u,xs[j]?=some u->w.cell? ((⟨g,0,none⟩:Addr).add j)=some u:=hown.cells (g:=g) M
    have hr:=Lib.run_append_grow_string (P:=P) (w:=w) t u ty e i (.int .u8 0) hs hu hi hz.1 ⟨g,0,none⟩ n cap xs (by rw[hz.2.1];simpa using hxl) holds s O O (by rw[hz.2.2];exact growslice_fits O O)
    rw[hrun]at hr
    injection hr with h1 h2
    rw[h1];rfl
 obtain⟨gP,hr,hch⟩:=aiS hrow H.hp.owns r1 r2 hb
 refine fH (v:=v') (w':=w2) hw M ?_<|k v' gP _ w2 hr<|H.put hd v'<|H.hp.change hch
 simp[execOp,resolve,invoke,builtin,H.ev hx,H.ev hy,dP,hrun]
theorem aHc{t:TypeId}{x:Operand}{p:Addr}{n c:Nat}(H:St N D w0 F G0 G L T a w)(hw:Region.wanted ⟨some d,.call { callee:=.builtin .unsafeSliceData,args:=#[x],argTypes:=#[t] },ty,pos,aT,g⟩ (yielded ops a.tmps)=true)(hx:ev T x=some (.slice (some p) n c))(hc:c≠0)(hd:Nat.blt d N=true)
  (k:∀a',St N D w0 F G0 G L ((d,.pointer<|some p)::T) a' w->WL r P ops Q rest a' w):WL r P ops Q (⟨some d,.call { callee:=.builtin .unsafeSliceData,args:=#[x],argTypes:=#[t] },ty,pos,aT,g⟩::rest) a w:=by
 refine fH (v:=.pointer<|some p) (w':=w) hw M ?_<|k _<|H.put hd _ H.hp
 have h:=Lib.run_unsafeSliceData_row (P:=P) (w:=w) #[t] ty p n c hc
 simp[execOp,resolve,invoke,builtin,H.ev hx,dP,h]
theorem aID{w:World}{b n:Nat}{c:Array aj}{e:TypeId}{fz:Nat×Nat}(h:w.heap[b]?=some (.cells c e fz))(hn:n≠0):∃JW,xE b (.cells c e JW) w (w.freeze ⟨b,0,none⟩ n):=by
 unfold World.freeze
 rw[au hn]
 refine⟨if fz.1==fz.2 then(0,0+n)else(min fz.1 0,max fz.2 (0+n)),M,M,M,by simp,?_,fun k hk=>?_⟩
 ·simp[Array.getElem?_modify,h]
 ·simp[Array.getElem?_modify,Ne.symm hk]
theorem adS{pt it e:TypeId}{x y:Operand}{b i:Nat}{cur:Array aj}{fz:Nat×Nat}(l:List UInt8)(hp:P.underlying pt=some (.pointer e))(hc:P.cellsOf e=1)(h0:l≠[])(h63:l.length<=9223372036854775807)(H:St N D w0 F G0 G L T a w)
  (hw:Region.wanted ⟨some d,.call { callee:=.builtin .unsafeString,args:=#[x,y],argTypes:=#[pt,it] },ty,pos,aT,g⟩ (yielded ops a.tmps)=true)(hx:ev T x=some (.pointer<|some ⟨b,0,none⟩))(hy:ev T y=some (.int .i64 (l.length:Int)))
  (hi:L[i]?=some (b,.cells cur e fz))(hl:cur.toList.take l.length=Lib.byteCells l)(hd:Nat.blt d N=true)
  (k:∀JW a' w',St N D w0 F G0 G (L.set i (b,.cells cur e JW)) ((d,.string ⟨l.toArray⟩)::T) a' w'->WL r P ops Q rest a' w'):WL r P ops Q (⟨some d,.call { callee:=.builtin .unsafeString,args:=#[x,y],argTypes:=#[pt,it] },ty,pos,aT,g⟩::rest) a w:=by
 have hb:=H.hp.own _<|lZ hi
 simp only at hb
 have hlen:l.length<=cur.size:=by
  have:=cO List.length hl
  simp only[List.length_take,Lib.byteCells_length,sQ]at this
  omega
 obtain⟨JW,hu⟩:=aID (n:=l.length) hb (by simpa using h0)
 have h:=Lib.run_unsafeString_row (P:=P) w pt it ty e hp hc b cur.size (H.hp.shape hi) l h0 hlen h63 (fun j x hj=>by
  rw[add_lit,fB]
  simp only[World.cell?,hb]
  have h2:(cur.toList.take l.length)[j]?=some (.int .u8 x.toNat):=by rw[hl];simp[Lib.byteCells,hj]
  rw[xG]at h2
  split at h2
  ·simpa using h2
  ·cases h2)
 refine fH (v:=.string ⟨l.toArray⟩) (w':=w.freeze ⟨b,0,none⟩ l.length) hw M ?_<|k JW _ _<|H.put hd _<|H.hp.upd hi hu
 simp[execOp,resolve,invoke,builtin,H.ev hx,H.ev hy,dP,h]
theorem alf(sz n:Nat):∀(css:List (List aj))(k:Nat)(pre z:List aj),pre.length=k*sz->z.length=css.length*sz->(∀c∈css,c.length=sz)->k+css.length=n->
  Bo ((List.range n).map fun i=>(i*sz,sz)) (pre++z) ((css.zipIdx k).map fun p=>(p.2,p.1))=some (pre++css.flatten)
 |[],k,pre,z,_,hz,_,_=>by
  have:z=[]:=List.eq_nil_of_length_eq_zero (by simpa using hz)
  subst this
  simp[Bo]
 |c::css,k,pre,z,hp,hz,hc,hn=>by
  have hcl:=hc c fJ
  simp only[lK]at hz hn
  have hpl:((List.range n).map fun i=>(i*sz,sz))[k]?=some (k*sz,sz):=by
   rw[ql,List.getElem?_range O];rfl
  have hz1:z.length=sz+css.length*sz:=by rw[hz,Nat.add_mul,Nat.one_mul,Nat.add_comm]
  have hle:k*sz+c.length<=(pre++z).length:=by rw[gT,hp,hcl];omega
  have e1:Nat.beq c.length sz=true:=by rw[hcl];exact Nat.beq_refl sz
  have e2:Nat.ble (k*sz+c.length) (pre++z).length=true:=Eq.mpr Nat.ble_eq hle
  rw[List.zipIdx_cons,dV]
  simp only[Bo,hpl,e1,e2,Bool.and_self,cond_true]
  have e3:setRow (pre++z) (k*sz) c=(pre++c)++z.drop sz:=by
   rw[Oo _ _ _ hle,<-hp,List.take_left' M,List.drop_append,mh O,fQ,hcl]
   congr 2;omega
  rw[e3,alf sz n css (k+1) (pre++c) (z.drop sz) (by rw[gT,hp,hcl,Nat.succ_mul]) (by rw[List.length_drop];omega) (fun q hq=>hc q<|gH _ hq) O]
  simp
theorem adL{t e:TypeId}{sz bytes:Nat}{zero:List aj}{agg:Bool}(hs:P.underlying t=some (.slice e))(ht:Ty P e sz bytes zero agg){n:Nat}{xs:List (Nat×Operand)}{vs:List (Nat×aj)}(css:List (List aj))(H:St N D w0 F G0 G L T a w)(hw:Region.wanted ⟨some d,.buildSlice t n xs.toArray,ty,pos,aT,g⟩ (yielded ops a.tmps)=true)
  (hx:pts T xs=some vs)(hv:vs.map (fun x=>(x.1,x.2.cells.toList))=(css.zipIdx 0).map fun p=>(p.2,p.1))(hl:css.all (fun c=>Nat.beq c.length sz)=true)(hcn:Nat.beq css.length n=true)(hn:Nat.ble (n*sz) 1000=true)(hn0:Nat.beq (n*sz) 0=false)(hd:Nat.blt d N=true)
  (k:∀b a' w',w0.heap.size<=b->St N D w0 F G0 G ((b,.cells css.flatten.toArray e (0,0))::L) ((d,.slice (some ⟨b,0,none⟩) n n)::T) a' w'->WL r P ops Q rest a' w'):WL r P ops Q (⟨some d,.buildSlice t n xs.toArray,ty,pos,aT,g⟩::rest) a w:=by
 have hcn':css.length=n:=Cc hcn
 refine iT (vs':=(css.zipIdx 0).map fun p=>(p.2,p.1)) hs ht ((List.range<|n*sz).map<|fun i=>zero[i%zero.length]!) css.flatten H hw hx hv hn hn0 M (fun i q h=>?_) ?_ hd k
 ·rw[ql]at h
  obtain⟨j,hj,rfl⟩:=nK.1 h
  obtain⟨h1,h2⟩:=jJ.1 hj
  rw[List.getElem_range]at h2
  rw[h2]
 ·have h:=alf sz n css 0 [] ((List.range<|n*sz).map<|fun i=>zero[i%zero.length]!) (by simp) (by simp[hcn']) (fun c hc=>Cc<|lM.1 hl c hc) O
  simpa using h
end
end
section
def lq(xs:Array aj)(o:Nat):Option Int:=match xs[o]? with|some (.int .i64 n)=>some n|_=>none
def RB(u:Option TypeDesc):Bool:=match u with|some (.int .i64)=>true|_=>false
structure ET(P:Program)(t:TypeId)(fO:List Nat):Prop where
 und:P.underlying t=some (.struct (P.fieldsOf t))
 held:P.stoodInHeld t=false
 guard:P.eqGuardType P.depth t=false
 yR:(P.fieldsOf t).toList.map (·.offset)=fO
 ok:(P.fieldsOf t).toList.all (fun f=>decide (f.name≠ "_")&&P.plainKey f.type&&RB (P.underlying f.type))=true
theorem adz{P:Program}{w:World}{d:Nat}{xs ys:Array aj}:∀fs:List Field,fs.all (fun f=>decide (f.name≠ "_")&&P.plainKey f.type&&RB (P.underlying f.type))=true->
  (fs.map (·.offset)).all (fun o=>(lq xs o).isSome&&(lq ys o).isSome)=true->(Op.eqFields (d+1) xs ys fs).run P w=.ok ((fs.map (·.offset)).all fun o=>lq xs o==lq ys o) w
 |[],_,_=>by simp[Op.eqFields]
 |f::fs,h1,h2=>by
  simp only[List.all_cons,kV,qm,dV]at h1 h2
  obtain⟨⟨⟨hn,hp⟩,hi⟩,h1⟩:=h1
  obtain⟨⟨hx,hy⟩,h2⟩:=h2
  have ih:=adz (w:=w) (d:=d) fs (by simpa using h1) h2
  unfold RB at hi
  split at hi
  ·rename_i hu
   unfold lq at hx hy
   split at hx
   ·rename_i m hxm
    split at hy
    ·rename_i m2 hym
     have e1:lq xs f.offset=some m:=by unfold lq;rw[hxm]
     have e2:lq ys f.offset=some m2:=by unfold lq;rw[hym]
     simp only[Op.eqFields,hn,ne_eq,not_false_eq_true,if_true,dP,run_part_plain w hp hxm,run_part_plain w hp hym,kY,run_equalIn_int w d f.type .i64 .i64 m m2 hu,dV,List.all_cons,e1,e2]
     by_cases e:m=m2
     ·subst e;simp[ih,List.all_map]
     ·simp[e]
    ·simp at hy
   ·simp at hx
  ·simp at hi
def ng(xs:Array aj)(o:Nat×Bool):Option (Int×Bool):=match xs[o.1]?,o.2 with|some (.int .i64 n),false=>some (n,false)|some (.bool b),true=>some (0,b)|_,_=>none
def Es(u:Option TypeDesc)(b:Bool):Bool:=match u,b with|some (.int .i64),false=>true|some .bool,true=>true|_,_=>false
structure SI(P:Program)(t:TypeId)(fO:List (Nat×Bool)):Prop where
 und:P.underlying t=some (.struct (P.fieldsOf t))
 held:P.stoodInHeld t=false
 guard:P.eqGuardType P.depth t=false
 yR:(P.fieldsOf t).toList.map (fun f=>(f.offset,Es (P.underlying f.type) true))=fO
 ok:(P.fieldsOf t).toList.all (fun f=>decide (f.name≠ "_")&&P.plainKey f.type&&Es (P.underlying f.type) (Es (P.underlying f.type) true))=true
theorem aqd{P:Program}{w:World}{d:Nat}{xs ys:Array aj}:∀fs:List Field,fs.all (fun f=>decide (f.name≠ "_")&&P.plainKey f.type&&Es (P.underlying f.type) (Es (P.underlying f.type) true))=true->
  (fs.map<|fun f=>(f.offset,Es (P.underlying f.type) true)).all (fun o=>(ng xs o).isSome&&(ng ys o).isSome)=true->(Op.eqFields (d+1) xs ys fs).run P w=.ok ((fs.map<|fun f=>(f.offset,Es (P.underlying f.type) true)).all fun o=>ng xs o==ng ys o) w
 |[],_,_=>by simp[Op.eqFields]
 |f::fs,h1,h2=>by
  simp only[List.all_cons,kV,qm,dV]at h1 h2
  obtain⟨⟨⟨hn,hp⟩,hi⟩,h1⟩:=h1
  obtain⟨⟨hx,hy⟩,h2⟩:=h2
  have ih:=aqd (w:=w) (d:=d) fs (by simpa using h1) h2
  obtain⟨kb,hkb⟩:∃kb,kb=Es (P.underlying f.type) true:=⟨_,M⟩
  rw[<-hkb]at hi hx hy
  cases kb with
  |false=>
   have hu:P.underlying f.type=some (.int .i64):=by clear hkb ih h1 h2 hx hy;unfold Es at hi;split at hi<;>simp_all
   obtain⟨m,hxm⟩:∃m,xs[f.offset]?=some (.int .i64 m):=by clear hkb ih h1 h2 hi hy;unfold ng at hx;split at hx<;>simp_all
   obtain⟨m2,hym⟩:∃m,ys[f.offset]?=some (.int .i64 m):=by clear hkb ih h1 h2 hi hx;unfold ng at hy;split at hy<;>simp_all
   have e1:ng xs (f.offset,false)=some (m,false):=by unfold ng;rw[hxm]
   have e2:ng ys (f.offset,false)=some (m2,false):=by unfold ng;rw[hym]
   simp only[Op.eqFields,hn,ne_eq,not_false_eq_true,if_true,dP,run_part_plain w hp hxm,run_part_plain w hp hym,kY,run_equalIn_int w d f.type .i64 .i64 m m2 hu,dV,List.all_cons,<-hkb,e1,e2]
   by_cases e:m=m2
   ·subst e;simp[ih,List.all_map]
   ·simp[e]
  |true=>
   have hu:P.underlying f.type=some .bool:=by clear hkb ih h1 h2 hx hy;unfold Es at hi;split at hi<;>simp_all
   obtain⟨m,hxm⟩:∃m,xs[f.offset]?=some (.bool m):=by clear hkb ih h1 h2 hi hy;unfold ng at hx;split at hx<;>simp_all
   obtain⟨m2,hym⟩:∃m,ys[f.offset]?=some (.bool m):=by clear hkb ih h1 h2 hi hx;unfold ng at hy;split at hy<;>simp_all
   have e1:ng xs (f.offset,true)=some (0,m):=by unfold ng;rw[hxm]
   have e2:ng ys (f.offset,true)=some (0,m2):=by unfold ng;rw[hym]
   simp only[Op.eqFields,hn,ne_eq,not_false_eq_true,if_true,dP,run_part_plain w hp hxm,run_part_plain w hp hym,kY,run_equalIn_bool' w d f.type m m2 hu,dV,List.all_cons,<-hkb,e1,e2]
   by_cases e:m=m2
   ·subst e;simp[ih,List.all_map]
   ·simp[e]
section
variable{N:Nat}{D:List Deferred}{w0:World}{F:Nat->Prop}{G0 G:GH}{L:List (Nat×Obj)}{T:List (Nat×aj)}
variable{r:Option Nat}{P:Program}{ops:Array Oper}{Q:Exit->Act->World->Prop}{rest:List Oper}{a:Act}{w:World}
variable{d:Nat}{ty:TypeId}{pos:String}{aT:Array Edge}{g:Option (Nat×Bool)}
theorem BN{t yt:TypeId}{x y:Operand}{p q:ByteArray}(H:St N D w0 F G0 G L T a w)(hw:Region.wanted ⟨some d,.binOp .eql t x y yt,ty,pos,aT,g⟩ (yielded ops a.tmps)=true)(hx:ev T x=some (.string p))(hy:ev T y=some (.string q))(hd:Nat.blt d N=true)
  (k:∀a',St N D w0 F G0 G L ((d,.bool<|p.toList==q.toList)::T) a' w->WL r P ops Q rest a' w):WL r P ops Q (⟨some d,.binOp .eql t x y yt,ty,pos,aT,g⟩::rest) a w:=by
 refine fH (v:=.bool<|p.toList==q.toList) (w':=w) hw M ?_<|k _<|H.put hd _ H.hp
 simp[execOp,H.ev hx,H.ev hy,dP,eqGuard,binOp,Op.stringOp]
theorem adN{op:BinOp}{t yt:TypeId}{fO:List (Nat×Bool)}(ho:op=.eql∨op=.neq)(he:SI P t fO){x y:Operand}{xs ys:Array aj}(H:St N D w0 F G0 G L T a w)(hw:Region.wanted ⟨some d,.binOp op t x y yt,ty,pos,aT,g⟩ (yielded ops a.tmps)=true)(hx:ev T x=some (.agg xs))(hy:ev T y=some (.agg ys))
  (hi:fO.all (fun o=>(ng xs o).isSome&&(ng ys o).isSome)=true)(hd:Nat.blt d N=true)
  (k:∀a',St N D w0 F G0 G L ((d,.bool (if op=.eql then fO.all fun o=>ng xs o==ng ys o else !(fO.all fun o=>ng xs o==ng ys o)))::T) a' w->WL r P ops Q rest a' w):WL r P ops Q (⟨some d,.binOp op t x y yt,ty,pos,aT,g⟩::rest) a w:=by
 have h1:=aqd (P:=P) (w:=w) (d:=9998) (xs:=xs) (ys:=ys) _ he.ok (by rw[he.yR];exact hi)
 rw[he.yR]at h1
 rcases ho with rfl|rfl
 ·refine fH (v:=_) (w':=w) hw M ?_<|k _<|H.put hd _ H.hp
  simp only[execOp,H.ev hx,H.ev hy,dP,run_eqGuard_agg w .eql t x y xs ys he.guard,kY,run_eql_struct,run_equalIn_struct w 9999 t xs ys he.und he.held,h1]
  rfl
 ·refine fH (v:=_) (w':=w) hw M ?_<|k _<|H.put hd _ H.hp
  simp only[execOp,H.ev hx,H.ev hy,dP,run_eqGuard_agg w .neq t x y xs ys he.guard,kY,run_neq_struct,run_equalIn_struct w 9999 t xs ys he.und he.held,h1]
  rfl
end
end
section
section
variable{N:Nat}{D:List Deferred}{w0:World}{F:Nat->Prop}{G0 G:GH}{L:OL}{T:List (Nat×aj)}
variable{r:Option Nat}{P:Program}{ops:Array Oper}{Q:Exit->Act->World->Prop}{rest:List Oper}{a:Act}{w:World}
variable{d:Nat}{ty:TypeId}{pos:String}{aT:Array Edge}{g:Option (Nat×Bool)}
theorem IL{t:TypeId}(H:St N D w0 F G0 G L T a w)(hw:Region.wanted ⟨some d,.makeMap t none,ty,pos,aT,g⟩ (yielded ops a.tmps)=true)(hd:Nat.blt d N=true)
  (k:∀b a' w',w0.heap.size<=b->St N D w0 F G0 G ((b,.map #[] 0)::L) ((d,.map<|some b)::T) a' w'->WL r P ops Q rest a' w'):WL r P ops Q (⟨some d,.makeMap t none,ty,pos,aT,g⟩::rest) a w:=by
 refine fH (v:=.map<|some w.heap.size) (w':=w.alloc (.map #[] 0)) hw M ?_<|k _ _ _ H.hp.size<|H.put hd _<|H.hp.alloc _
 simp[execOp,Instr.makeMap,newObj,Sem.run,dP]
def F5(an:Option (Nat×aj))(zv:aj):aj×Bool:=match an with|some (_,v)=>(v,true)|none=>(zv,false)
theorem aG2{t kt et:TypeId}{kd:TypeDesc}{x y:Operand}{b i clock:Nat}{es:Array MapEntry}{ky zv:aj}(an:Option (Nat×aj))(hm:P.underlying t=some (.map kt et))(hk:P.underlying kt=some kd)(hz:(P.info? et).map (fun i=>i.zero)=some (some zv))(H:St N D w0 F G0 G L T a w)
  (hw:Region.wanted ⟨some d,.lookup t x y true,ty,pos,aT,g⟩ (yielded ops a.tmps)=true)(hx:ev T x=some (.map<|some b))(hy:ev T y=some ky)(hi:L[i]?=some (b,.map es clock))(hky:MapKept.IsKey kd ky)(hf:Instr.findNow kd ky es.toList 0=some an)(hd:Nat.blt d N=true)
  (k:∀a',St N D w0 F G0 G L ((d,.tuple #[(F5 an zv).1,.bool (F5 an zv).2])::T) a' w->WL r P ops Q rest a' w):WL r P ops Q (⟨some d,.lookup t x y true,ty,pos,aT,g⟩::rest) a w:=by
 have hb:w.heap[b]?=some (.map es clock):=H.hp.own _<|lZ hi
 obtain⟨inf,hi1,hi2⟩:=nK.1 hz
 refine fH (v:=.tuple #[(F5 an zv).1,.bool (F5 an zv).2]) (w':=w) hw M ?_<|k _<|H.put hd _ H.hp
 have h1:=MapKept.run_checkKey (w:=w) hk hky es.isEmpty 9999
 have h2:=MapKept.run_findKey (w:=w) hk hf
 cases an with
 |none=>simp[execOp,Instr.lookup,H.ev hx,H.ev hy,dP,lV hm,MapKept.run_getObj_map hb,h1,h2,Result.andThen,zeroValue,EA hi1,hi2,F5]
 |some q=>simp[execOp,Instr.lookup,H.ev hx,H.ev hy,dP,lV hm,MapKept.run_getObj_map hb,h1,h2,Result.andThen,F5]
theorem Xv{w:World}{b clock:Nat}{es:Array MapEntry}{o:Obj}(h:w.heap[b]?=some (.map es clock)):xE b o w { w with heap:=w.heap.setIfInBounds b o }:=by
 have hlt:b<w.heap.size:=(Array.getElem?_eq_some_iff.1 h).1
 refine⟨M,M,M,by simp,by simp[hlt],fun k hk=>?_⟩
 simp only
 rw[Array.getElem?_setIfInBounds_ne<|Ne.symm hk]
theorem aqp{t kt et:TypeId}{kd:TypeDesc}{x y z:Operand}{b i clock:Nat}{es:Array MapEntry}{ky v:aj}(hm:P.underlying t=some (.map kt et))(hk:P.underlying kt=some kd)(H:St N D w0 F G0 G L T a w)
  (hw:Region.wanted ⟨none,.mapUpdate t x y z,ty,pos,aT,g⟩ (yielded ops a.tmps)=true)(hx:ev T x=some (.map<|some b))(hy:ev T y=some ky)(hzv:ev T z=some v)(hi:L[i]?=some (b,.map es clock))(hky:MapKept.IsKey kd ky)(hf:Instr.findNow kd ky es.toList 0=some none)
  (k:∀w',St N D w0 F G0 G (L.set i (b,.map (es.push ⟨ky,v,clock⟩)<|clock+1)) T a w'->WL r P ops Q rest a w'):WL r P ops Q (⟨none,.mapUpdate t x y z,ty,pos,aT,g⟩::rest) a w:=by
 have hb:w.heap[b]?=some (.map es clock):=H.hp.own _<|lZ hi
 have h1:=MapKept.run_checkKey (w:=w) hk hky false 9999
 have h2:=MapKept.run_findKey (w:=w) hk hf
 refine Xz (w':={ w with heap:=w.heap.setIfInBounds b (.map (es.push ⟨ky,v,clock⟩)<|clock+1) }) hw M ?_<|k _<|H.move<|H.hp.upd hi<|Xv hb
 simp[execOp,Instr.mapUpdate,H.ev hx,H.ev hy,H.ev hzv,dP,lV hm,MapKept.run_getObj_map hb,h1,h2,MapKept.run_setObj_map _ hb,Result.andThen]
theorem aG1{t yt:TypeId}(hu:P.underlying t=some .bool){x y:Operand}{p q:Bool}(H:St N D w0 F G0 G L T a w)(hw:Region.wanted ⟨some d,.binOp .eql t x y yt,ty,pos,aT,g⟩ (yielded ops a.tmps)=true)(hx:ev T x=some (.bool p))(hy:ev T y=some (.bool q))(hd:Nat.blt d N=true)
  (k:∀a',St N D w0 F G0 G L ((d,.bool<|p==q)::T) a' w->WL r P ops Q rest a' w):WL r P ops Q (⟨some d,.binOp .eql t x y yt,ty,pos,aT,g⟩::rest) a w:=by
 refine fH (v:=.bool<|p==q) (w':=w) hw M ?_<|k _<|H.put hd _ H.hp
 simp[execOp,H.ev hx,H.ev hy,dP,eqGuard,binOp,Op.equal,Op.maxDepth,run_equalIn_bool' w 9999 t p q hu]
theorem aG7{t yt:TypeId}{x y:Operand}{p q:ByteArray}(H:St N D w0 F G0 G L T a w)(hw:Region.wanted ⟨some d,.binOp .neq t x y yt,ty,pos,aT,g⟩ (yielded ops a.tmps)=true)(hx:ev T x=some (.string p))(hy:ev T y=some (.string q))(hd:Nat.blt d N=true)
  (k:∀a',St N D w0 F G0 G L ((d,.bool (!(p.toList==q.toList)))::T) a' w->WL r P ops Q rest a' w):WL r P ops Q (⟨some d,.binOp .neq t x y yt,ty,pos,aT,g⟩::rest) a w:=by
 refine fH (v:=.bool (!(p.toList==q.toList))) (w':=w) hw M ?_<|k _<|H.put hd _ H.hp
 simp[execOp,H.ev hx,H.ev hy,dP,eqGuard,binOp,Op.stringOp]
theorem Hp.Iy(h:Hp w0 F G0 G L w){b o:Nat}{c:Array aj}{e:TypeId}{fz:Nat×Nat}{v:aj}(hm:(b,Obj.cells c e fz)∈L)(hv:c[o]?=some v):w.cell? ⟨b,o,none⟩=some v:=by
 have:=h.own _ hm
 simp only[World.cell?,this]
 exact hv
end
end
section
section
variable{N:Nat}{D:List Deferred}{w0:World}{F:Nat->Prop}{G0 G G1 G2:GH}{L L1:OL}{T Xs:List (Nat×aj)}
variable{r:Option Nat}{P:Program}{Q:Exit->Act->World->Prop}{l:List Oper}{a a':Act}{w w':World}
end
end
section
section
variable{N:Nat}{D:List Deferred}{w0:World}{F:Nat->Prop}{G0 G G1 G2:GH}{L L1 L2:OL}{T Xs:List (Nat×aj)}
variable{r:Option Nat}{P:Program}{Q:Exit->Act->World->Prop}{l:List Oper}{a a':Act}{w w':World}
theorem awP{pr:Nat->aj->GH->Prop}{S:Nat->Bool}{i:Nat}(hi:dZ l i=none)(HT:St N D w0 F G0 G1 L T a w)(hG:∀k o,G k=some o->G1 k=some o)(hv:∀i d,S i=true->dZ l i=some d->∃v,a.tmps[d]?=some v∧pr i v G1)
  (H:St N D w0 F G0 G1 L2 (Xs++full N a) a w'):DX N D w0 F G0 G L2 T l pr (dD S i) a w' :=
 ⟨G1,hG,HT.move H.hp,fun j e hj he=>hv j e (by
  unfold dD at hj
  by_cases hji:j=i
  ·subst hji;rw[hi]at he;cases he
  ·rwa[au hji]at hj) he⟩
theorem avc{id:Nat}(hm:P.follows .mixedOrders=true)(bK:List (List Nat))(B:List Nat)(hk:xO l bK=true)(hB:yx l bK B=true)(m:Nat)(hmB:B.contains m=false)(pr:Nat->aj->GH->Prop)(ix:Nat)(ob:Nat×Obj)
  (H:St N D w0 F G0 G L T a w)
  (hstep:allI (fun i o=>∀S a w G1,B.contains i=false->Nat.beq i m=false->S i=false->(∀j∈bK.getD i [],S j=true)->(∀k o,G k=some o->G1 k=some o)->St N D w0 F G0 G1 L T a w->(∀i d,S i=true->dZ l i=some d->∃v,a.tmps[d]?=some v∧pr i v G1)->
   WL r P l.toArray (fun e a' w'=>e=.normal∧DX N D w0 F G0 G L T l pr (dD S i) a' w') [o] a w) 0 l)
  (hmid:∀o S a w G1,l[m]?=some o->S m=false->(∀j∈bK.getD m [],S j=true)->(∀k o,G k=some o->G1 k=some o)->St N D w0 F G0 G1 L T a w->(∀i d,S i=true->dZ l i=some d->∃v,a.tmps[d]?=some v∧pr i v G1)->
   WL r P l.toArray (fun e a' w'=>e=.normal∧DX N D w0 F G0 G (L.set ix ob) T l pr (dD S m) a' w') [o] a w)
  (hstep2:allI (fun i o=>∀S a w G1,(B.contains i||(bK.getD m []).contains i)=false->Nat.beq i m=false->S i=false->(∀j∈bK.getD i [],S j=true)->(∀k o,G k=some o->G1 k=some o)->St N D w0 F G0 G1 (L.set ix ob) T a w->(∀i d,S i=true->dZ l i=some d->∃v,a.tmps[d]?=some v∧pr i v G1)->
   WL r P l.toArray (fun e a' w'=>e=.normal∧DX N D w0 F G0 G (L.set ix ob) T l pr (dD S i) a' w') [o] a w) 0 l)
  (hend:∀a w G1,(∀k o,G k=some o->G1 k=some o)->St N D w0 F G0 G1 (L.set ix ob) T a w->(∀i d,B.contains i=false->dZ l i=some d->∃v,a.tmps[d]?=some v∧pr i v G1)->WL r P l.toArray (fun e a w=>e=.normal∧Q .normal a w) (qM l B) a w)
  (hml:Nat.blt m l.length=true):WP r P (.region id l.toArray true) Q a w:=by
 refine JG hm bK B hk hB (fun S a w=>(S m=false∧DX N D w0 F G0 G L T l pr S a w)∨(S m=true∧DX N D w0 F G0 G (L.set ix ob) T l pr S a w))
  (.inl ⟨rfl,G,fun _ _ h=>h,H.move H.hp.drew,fun _ _ h=>absurd (show false=true from h) Z⟩) ?_ ?_
 ·rintro i o S a w ho hb aM jA hdesc hX
  by_cases him:i=m
  ·subst him
   rcases hX with⟨_,G1,hG,HS,hv⟩|⟨h1,_⟩
   ·have h:=hmid o S a w G1 ho aM jA hG HS hv
    have e1:dD S i i=true:=ay M
    exact mU (fun e a' w'⟨he,hD⟩=>⟨he,.inr ⟨e1,hD⟩⟩) h
   ·rw[h1]at aM;cases aM
  ·have e:dD S i m=S m:=au (fun h=>him h.symm)
   rcases hX with⟨h1,G1,hG,HS,hv⟩|⟨h1,G1,hG,HS,hv⟩
   ·have h:=zM hstep i o ho
    rw[fB]at h
    exact mU (fun e' a' w'⟨he,hD⟩=>⟨he,.inl ⟨e.trans h1,hD⟩⟩) (h S a w G1 hb (qY him) aM jA hG HS hv)
   ·have h:=zM hstep2 i o ho
    rw[fB]at h
    have hnc:(B.contains i||(bK.getD m []).contains i)=false:=by
     rw[hb,Bool.false_or]
     cases hc2:(bK.getD m []).contains i with
     |false=>rfl
     |true=>have:=hdesc m (Eq.mp Nat.blt_eq hml) (zK.1 hc2);rw[h1]at this;cases this
    exact mU (fun e' a' w'⟨he,hD⟩=>⟨he,.inr ⟨e.trans h1,hD⟩⟩) (h S a w G1 hnc (qY him) aM jA hG HS hv)
 ·rintro S a w hall Nt hX
  have hmS:S m=true:=hall m (Eq.mp Nat.blt_eq hml) hmB
  rcases hX with⟨h1,_⟩|⟨h1,G1,hG,HS,hv⟩
  ·rw[h1]at hmS;cases hmS
  ·exact hend a w G1 hG HS fun j d hb hd=>hv j d (hall j (rR hd) hb) hd
end
end
section
section
variable{N:Nat}{D:List Deferred}{w0:World}{F:Nat->Prop}{G0 G:GH}{L Li Lo:OL}{T:List (Nat×aj)}
variable{r:Option Nat}{P:Program}{ops:Array Oper}{Q:Exit->Act->World->Prop}{rest:List Oper}{a:Act}{w:World}
variable{d:Nat}{ty:TypeId}{pos:String}{aT:Array Edge}{g:Option (Nat×Bool)}
theorem aER(z:aj)(n:Nat):madeCells #[z] n=(List.replicate n z).toArray:=by
 apply Array.ext
 ·simp[madeCells]
 ·intro i h1 h2
  simp[madeCells,Nat.mod_one]
theorem aG5{t e:TypeId}{z:aj}{bytes:Nat}{x y:Operand}{p:Int}(n:Nat)(hs:P.underlying t=some (.slice e))(ht:Ty P e 1 bytes [z] false)(H:St N D w0 F G0 G L T a w)(hw:Region.wanted ⟨some d,.makeSlice t x y,ty,pos,aT,g⟩ (yielded ops a.tmps)=true)
  (hx:ev T x=some (.int .i64 p))(hy:ev T y=some (.int .i64 p))(hp:p=(n:Int))(hb:bytes*n<=281474976710656)(h63:n<=9223372036854775807)(hd:Nat.blt d N=true)
  (k:∀b a' w',w0.heap.size<=b->St N D w0 F G0 G ((b,.cells (List.replicate n z).toArray e (0,0))::L) ((d,.slice (some ⟨b,0,none⟩) n n)::T) a' w'->WL r P ops Q rest a' w'):WL r P ops Q (⟨some d,.makeSlice t x y,ty,pos,aT,g⟩::rest) a w:=by
 obtain⟨i,z0,hi,hi1,hi2,hi3,hi4⟩:=ht.parts
 subst hp
 have hz:z0.cells=#[z]:=by rw[hi4]
 have hb':(i.bytes:Int)*(n:Int)<=281474976710656:=by
  rw[hi2,<-Int.natCast_mul];omega
 have hr:=run_make (P:=P) w t e i z0 hs hi hi3 .i64 .i64 (n:Int) (n:Int) O (Int.le_refl _) hb' O
 rw[hi1,hz,Nat.mul_one,Int.toNat_natCast,aER]at hr
 refine fH (v:=.slice (some ⟨w.heap.size,0,none⟩) n n) (w':=w.alloc (.cells (List.replicate n z).toArray e (0,0))) hw M ?_<|k _ _ _ H.hp.size<|H.put hd _<|H.hp.alloc _
 simp only[execOp,H.ev hx,H.ev hy,dP,hr,kY,rO]
theorem aql{x:Operand}{t e:TypeId}{A:Option Addr}{n c:Nat}(hs:P.underlying t=some (.slice e))(H:St N D w0 F G0 G L T a w)(hw:Region.wanted ⟨some d,.call { callee:=.builtin .cap,args:=#[x],argTypes:=#[t] },ty,pos,aT,g⟩ (yielded ops a.tmps)=true)(hx:ev T x=some (.slice A n c))(hd:Nat.blt d N=true)
  (k:∀a',St N D w0 F G0 G L ((d,.int .i64 c)::T) a' w->WL r P ops Q rest a' w):WL r P ops Q (⟨some d,.call { callee:=.builtin .cap,args:=#[x],argTypes:=#[t] },ty,pos,aT,g⟩::rest) a w :=
 fH (v:=.int .i64 c) (w':=w) hw M (by simp[execOp,resolve,invoke,builtin,Builtin.cap_,H.ev hx,dP,lV hs,goInt]) (k _<|H.put hd _ H.hp)
theorem R8{t e:TypeId}{sz bytes:Nat}{zero:List aj}{agg:Bool}(hs:P.underlying t=some (.slice e))(ht:Ty P e sz bytes zero agg){x z:Operand}{A:Option Addr}{n c:Nat}(hi:Nat){q:Int}(H:St N D w0 F G0 G L T a w)
  (hw:Region.wanted ⟨some d,.slice t x none (some z) none,ty,pos,aT,g⟩ (yielded ops a.tmps)=true)(hx:ev T x=some (.slice A n c))(hz:ev T z=some (.int .i64 q))(hq:q=(hi:Int))(h2:hi<=c)(hd:Nat.blt d N=true)
  (k:∀a',St N D w0 F G0 G L ((d,.slice A hi c)::T) a' w->WL r P ops Q rest a' w):WL r P ops Q (⟨some d,.slice t x none (some z) none,ty,pos,aT,g⟩::rest) a w:=by
 subst hq
 refine fH (v:=.slice A hi c) (w':=w) hw M ?_<|k _<|H.put hd _ H.hp
 simp[execOp,H.ev hx,H.ev hz,Instr.sliceAt,Instr.slice,Instr.sliceBounds,Instr.sliceBound,dP,lV hs,ht.EB,asIntOf,h2]
 intro _
 cases A with
 |none=>rfl
 |some p=>simp[Addr.add]
theorem aGK{w:World}(t u ty e:TypeId)(i:TypeInfo)(z:aj)(hs:P.underlying t=some (.slice e))(hu:P.underlying u=some (.int .i64))(hi:P.info? e=some i)(hz:i.zero=some z)(n:Nat)(hn:0<n)(hsz:0<i.size)(h63:(n:Int)<=9223372036854775807)(h48:n*i.bytes<=281474976710656) :
  (Builtin.append_ #[t,u] ty #[.slice none 0 0,.int .i64 n]).run P w=.ok (.slice (some ⟨w.heap.size,0,none⟩) n<|grownCap w n 0 e) (w.drew.alloc (.cells (Builtin.zeroCells z.cells n++Builtin.zeroCells z.cells (grownCap w n 0 e-n)) e)):=by
 have w1:=KC (z:=(n:Int)) O O
 have n1:¬((n:Int)<0):=by omega
 have n2:¬(281474976710656<(n:Int)*i.bytes):=by rw[<-Int.natCast_mul];omega
 have n3:¬n=0:=by omega
 have n4:¬i.size=0:=by omega
 have n5:¬(9223372036854775807<(n:Int)):=by omega
 have n6:Builtin.nextslicecap n 0=n:=by simp[Builtin.nextslicecap,hn]
 have n7:¬(281474976710656<n*i.bytes):=by omega
 simp[Builtin.append_,run_underlying hs,run_underlying hu,sizeOf,typeInfo,zeroValue,hi,hz,asInt,asIntOf,w1,n1,n2,n3,n4,n5,n6,n7,Question.forced,newRow,grownCap,Builtin.firstCells]
 intro h
 rcases Nat.mul_eq_zero.1 h with h|h<;>omega
theorem aGV{t u e:TypeId}{sz bytes:Nat}{zero:List aj}{agg:Bool}(hs:P.underlying t=some (.slice e))(hu:P.underlying u=some (.int .i64))(ht:Ty P e sz bytes zero agg)(hzl:Nat.beq zero.length sz=true)(hsz:Nat.blt 0 sz=true){x y:Operand}{n:Nat}(H:St N D w0 F G0 G L T a w)
  (hw:Region.wanted ⟨some d,.call { callee:=.builtin .append,args:=#[x,y],argTypes:=#[t,u] },ty,pos,aT,g⟩ (yielded ops a.tmps)=true)(hx:ev T x=some (.slice none 0 0))(hy:ev T y=some (.int .i64 (n:Int)))(hn:0<n)(h63:n<=maxLen)(h48:n*bytes<=281474976710656)(hd:Nat.blt d N=true)
  (k:∀b cap cur a' w',w0.heap.size<=b->n<=cap->cap<=maxLen->cur.size=cap*sz->St N D w0 F G0 G ((b,.cells cur e (0,0))::L) ((d,.slice (some ⟨b,0,none⟩) n cap)::T) a' w'->WL r P ops Q rest a' w') :
  WL r P ops Q (⟨some d,.call { callee:=.builtin .append,args:=#[x,y],argTypes:=#[t,u] },ty,pos,aT,g⟩::rest) a w:=by
 obtain⟨i,z,hi,hi1,hi2,hi3,hi4⟩:=ht.parts
 have hsz0:0<sz:=Eq.mp Nat.blt_eq hsz
 have hzc:z.cells.size=sz:=by rw[hi4];simpa using Cc hzl
 have h63':(n:Int)<=9223372036854775807:=by have hml:maxLen=9223372036854775807:=rfl;omega
 have hr:=aGK (P:=P) (w:=w) t u ty e i z hs hu hi hi3 n hn O h63' (by rw[hi2];exact h48)
 have hge:=grownCap_ge w n 0 e
 refine fH (v:=.slice (some ⟨w.heap.size,0,none⟩) n<|grownCap w n 0 e) (w':=w.drew.alloc (.cells (Builtin.zeroCells z.cells n++Builtin.zeroCells z.cells (grownCap w n 0 e-n)) e)) hw M ?_<|k _ _ _ _ _ H.hp.size hge (grownCap_le_maxLen w n 0 e h63) ?_<|H.put hd _<|H.hp.drew.alloc _
 ·simp only[execOp,resolve,invoke,builtin,H.ev hx,H.ev hy,dP,List.map_toArray,dV,ug,rO,kY,hr]
 ·simp only[Array.size_append,size_zeroCells,hzc]
  rw[<-Nat.add_mul];congr 1;omega
end
end
section
section
variable{N:Nat}{D:List Deferred}{w0:World}{F:Nat->Prop}{G0 G:GH}{L Lo:OL}{T:List (Nat×aj)}
variable{r:Option Nat}{P:Program}{ops:Array Oper}{Q:Exit->Act->World->Prop}{rest:List Oper}{a:Act}{w:World}
variable{d:Nat}{ty:TypeId}{pos:String}{aT:Array Edge}{g:Option (Nat×Bool)}
theorem aJk(z:Array aj)(n:Nat):(Builtin.zeroCells z n).toList.length=n*z.size:=by simp[Builtin.zeroCells]
theorem aJl{z:Array aj}{n:Nat}(h:z.toList.all Value.oneCell'=true):∀u∈(Builtin.zeroCells z n).toList,u.oneCell'=true:=by
 intro u hu
 simp only[Builtin.zeroCells,Array.toList_map,List.mem_map]at hu
 obtain⟨i,hi,rfl⟩:=hu
 have hi2:i<n*z.size:=by simpa using hi
 have hz:0<z.size:=by
  rcases Nat.eq_zero_or_pos z.size with e|e
  ·rw[e,Nat.mul_zero]at hi2;omega
  ·exact e
 have hlt:i%z.size<z.size:=Nat.mod_lt _ hz
 rw[getElem!_pos z (i%z.size) hlt]
 exact lM.1 h _ (by simp)
theorem aGY{t e:TypeId}{sz bytes:Nat}{zero:List aj}{agg:Bool}(hs:P.underlying t=some (.slice e))(ht:Ty P e sz bytes zero agg)(hz:Nat.beq zero.length sz=true)(hz1:zero.all Value.oneCell'=true){x:Operand}(i:Nat){b o n cp:Nat}{c:List aj}(H:St N D w0 F G0 G L T a w)
  (hw:Region.wanted ⟨none,.call { callee:=.builtin .clear,args:=#[x],argTypes:=#[t] },ty,pos,aT,g⟩ (yielded ops a.tmps)=true)(hx:ev T x=some (.slice (some ⟨b,o,none⟩) n cp))(hi:L[i]?=some (b,.cells c.toArray e (0,0)))(hn:0<n)(hle:o+n*sz<=c.length)
  (k:∀(c':List aj)w',c'.length=c.length->c'.take o=c.take o->St N D w0 F G0 G (L.set i (b,.cells c'.toArray e (0,0))) T a w'->WL r P ops Q rest a w') :
  WL r P ops Q (⟨none,.call { callee:=.builtin .clear,args:=#[x],argTypes:=#[t] },ty,pos,aT,g⟩::rest) a w:=by
 obtain⟨inf,z,hi0,hi1,hi2,hi3,hi4⟩:=ht.parts
 have hb:=H.hp.own _<|lZ hi
 have hzs:z.cells.size=sz:=by rw[hi4];simpa using Cc hz
 have hlen:(Builtin.zeroCells z.cells n).toList.length=n*sz:=by rw[aJk,hzs]
 obtain⟨w2,h2,u2⟩:=adF (P:=P) b e o (Builtin.zeroCells z.cells n).toList 0 c w hb (by rw[hlen];omega) (aJl (by rw[hi4];simpa using hz1))
 simp only[oZ]at u2
 refine fH (v:=.tuple #[]) (w':=w2) hw M ?_<|k _ w2 ?_ ?_<|H.move<|H.hp.upd hi u2
 ·obtain⟨m,rfl⟩:∃m,n=m+1:=⟨n-1,O⟩
  simp[execOp,resolve,invoke,builtin,Builtin.clear_,dP,H.ev hx,lV hs,zeroValue,EA hi0,hi3,h2]
 ·rw[WV]
 ·rw[Oo _ _ _ (by rw[hlen];exact hle),iG,List.take_append_of_le_length (by rw[List.length_take];omega),jX (by rw[List.length_take];omega)]
end
end
section
abbrev aK(b o :Nat) :Value :=.pointer (some ⟨b,o,none⟩)
end
end Go.Proofs.YtdgnnpjijhafaaaGreat
