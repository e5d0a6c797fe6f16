/-
  What the claim stands on, part 1: A logic of calls over the model's machine: what a frame's slots hold (an association list), what the memory holds (what is read alone: G; what the call owns: L), a step lemma for each kind of operation, rules for code. Nothing here speaks of one program. The step lemmas, one for each kind of operation. The step lemmas, second part: built values, arithmetic, calls, append; rules for code; how a function is entered and left. Calls that turn blocks which they were lent; function values that are called back; ranges over functions. Data in memory: what a value reads as; the documents' types. Regions that draw the order of their operations: an invariant over the operations that are done. Steps by short names. Slices that a call builds: rows of its own, append, and how they are given up. Regions that draw the order of their operations, in which several operations turn memory: values first, then whatever the state allows. Buffers of strings: the operations of strings.Builder. Package codepoint: what its functions compute.
-/
import Derived.CallsIn
import Derived.TacticsIn
import Derived.RangeFuncIn
import Derived.RangeFuncLeaves
import Derived.RangeFuncRecord
import Derived.Below
import Derived.KernelRfl
import Derived.Maps.AppendAt
import Derived.IntWalk
import Derived.OrdersIn
import Derived.Lib.Builder
import Derived.Lib.UnsafeStr
import Derived.Lib.AppendStr
import Derived.Laws.Externs
import Derived.Test.YthichnnlceeofaaGreatRows
namespace Go.Proofs.YthichnnlceeofaaGreat
section
open Go.RowKit
/-! ## The fence -/
def FW (r:Option Nat):Fence:={ Fence.wide with round:=r }
theorem Fp (r:Option Nat):(FW r).depth.isSome=true→1≤(0:Nat):=by intro h;cases h
abbrev WP (r:Option Nat) (P:Program) (c:Code) (Q:Exit→Act→World→Prop) (a:Act) (w:World):Prop:=c.wpIn (FW r) 0 P Q a w
abbrev WL (r:Option Nat) (P:Program) (ops:Array Oper) (Q:Exit→Act→World→Prop) (l:List Oper) (a:Act) (w:World):Prop:=wpListIn (FW r) 0 P ops Q l a w
theorem JC {r:Option Nat} {n:Nat} {P:Program} {f:FuncId} {args:Array Value} {w:World} {R:Ending→World→Prop} (h:Calls P f args w R):CallsIn (FW r) n P f args w R:=callsIn_wide.2 h
theorem Ww {r:Option Nat} {n:Nat} {P:Program} {f:FuncId} {args:Array Value} {w:World} {R:Ending→World→Prop} (h:CallsIn (FW r) n P f args w R):Calls P f args w R:=callsIn_wide.1 h
/-! ## Slots -/
def lk:List (Nat × Value)→Nat→Option Value
 | [],_=>none
 | (s,v) :: r,t=>bif Nat.beq s t then some v else lk r t
theorem rW (t:Nat) (v:Value) (T:List (Nat × Value)):lk ((t,v) :: T) t=some v:=by simp [lk]
theorem pY {s t:Nat} (h:s≠t) (v:Value) (T:List (Nat × Value)):lk ((s,v) :: T) t=lk T t:=by
 have:Nat.beq s t=false:=by
  cases h':Nat.beq s t with
  | false=>rfl
  | true=>exact absurd (Nat.eq_of_beq_eq_true h') h
 simp [lk,this]
def ev (T:List (Nat × Value)):Operand→Option Value
 | .tmp t=>lk T t
 | .const v=>some v
 | .global g=>some (.pointer (some ⟨g,0,none⟩))
 | .func f=>some (.func (.func f) #[] #[])
def evs (T:List (Nat × Value)):List Operand→Option (List Value)
 | []=>some []
 | x :: r=>match ev T x,evs T r with|some v,some vs=>some (v :: vs)|_,_=>none
/-! ## Memory -/
abbrev GH:=Nat→Option Obj
structure Hp (w0:World) (F:Nat→Prop) (G0 G:GH) (L:List (Nat × Obj)) (w:World):Prop where
 os:w.os=w0.os
 tape:w.tape=w0.tape
 output:w.output=w0.output
 size:w0.heap.size≤w.heap.size
 pO:∀ k,F k→k < w0.heap.size
 fr:∀ k,F k→w.heap[k]?=w0.heap[k]?
 ro:∀ k o,G k=some o→w.heap[k]?=some o
 gm:∀ k o,G0 k=some o→G k=some o
 gx:∀ k o,G k=some o→G0 k=some o∨¬ F k
 own:∀ p∈L,w.heap[p.1]?=some p.2
 o9:∀ p∈L,G p.1=none
 oG:∀ p∈L,¬ F p.1
 nd:L.Pairwise fun p q=>p.1≠q.1
structure St (N:Nat) (D:List Deferred) (w0:World) (F:Nat→Prop) (G0 G:GH) (L:List (Nat × Obj)) (T:List (Nat × Value)) (a:Act) (w:World):Prop where
 jP:a.tmps.size=N
 get:∀ t v,lk T t=some v→a.tmps[t]?=some v
 nQ:a.defers=D
 hp:Hp w0 F G0 G L w
theorem lt_of_heap {w:World} {k:Nat} {o:Obj} (h:w.heap[k]?=some o):k < w.heap.size:=(Array.getElem?_eq_some_iff.1 h).1
/-! ## Steps of memory -/
/-- One block holds another object; all else is as it was. -/
structure qo (b:Nat) (o:Obj) (w w':World):Prop where
 os:w'.os=w.os
 tape:w'.tape=w.tape
 output:w'.output=w.output
 size:w'.heap.size=w.heap.size
 this:w'.heap[b]?=some o
 others:∀ k,k≠b→w'.heap[k]?=w.heap[k]?
section
variable {N:Nat} {D:List Deferred} {w0 w w':World} {F:Nat→Prop} {G0 G G':GH} {L L':List (Nat × Obj)} {T:List (Nat × Value)} {a:Act} {b:Nat} {o o':Obj}
theorem Hp.lt (h:Hp w0 F G0 G L w) {p:Nat × Obj} (hp:p∈L):p.1 < w.heap.size:=lt_of_heap (h.own p hp)
theorem Hp.alloc (h:Hp w0 F G0 G L w) (o:Obj):Hp w0 F G0 G ((w.heap.size,o) :: L) (w.alloc o):=by
 have hold:∀ k,k < w.heap.size→(w.alloc o).heap[k]?=w.heap[k]?:=fun k hk=>Below.heap_alloc w o k hk
 refine ⟨h.os,h.tape,h.output,by simp;exact Nat.le_succ_of_le h.size,h.pO,fun k hk=>(hold k (Nat.lt_of_lt_of_le (h.pO k hk) h.size)).trans (h.fr k hk),fun k o' hk=>(hold k (lt_of_heap (h.ro k o' hk))).trans (h.ro k o' hk),h.gm,h.gx,?_,?_,?_,?_⟩
 ·intro p hp
  rcases List.mem_cons.1 hp with rfl|hp
  ·show (w.heap.push o)[w.heap.size]?=some o;simp
  ·exact (hold _ (h.lt hp)).trans (h.own p hp)
 ·intro p hp
  rcases List.mem_cons.1 hp with rfl|hp
  ·cases hg:G w.heap.size with
   | none=>rfl
   | some o'=>exact absurd (lt_of_heap (h.ro _ _ hg)) (Nat.lt_irrefl _)
  ·exact h.o9 p hp
 ·intro p hp
  rcases List.mem_cons.1 hp with rfl|hp
  ·intro hf;exact absurd (Nat.lt_of_lt_of_le (h.pO _ hf) h.size) (Nat.lt_irrefl _)
  ·exact h.oG p hp
 ·refine List.pairwise_cons.2 ⟨fun q hq=>?_,h.nd⟩
  have:=h.lt hq
  simp only;omega
/-- A step that turns nothing that was there (a callee that only makes memory). -/
theorem Hp.below (h:Hp w0 F G0 G L w) (hb:Below w.heap.size w w'):Hp w0 F G0 G L w':=by
 refine ⟨hb.os.trans h.os,hb.tape.trans h.tape,hb.output.trans h.output,Nat.le_trans h.size hb.size,h.pO,fun k hk=>(hb.block k (Nat.lt_of_lt_of_le (h.pO k hk) h.size)).trans (h.fr k hk),fun k o hk=>(hb.block k (lt_of_heap (h.ro k o hk))).trans (h.ro k o hk),h.gm,h.gx,fun p hp=>(hb.block _ (h.lt hp)).trans (h.own p hp),h.o9,h.oG,h.nd⟩
/-- What is read alone may grow by new blocks. -/
def Ext (n1:Nat) (G G':GH) (w':World):Prop:=(∀ k o,G k=some o→G' k=some o)∧(∀ k o,G' k=some o→G k=some o∨n1≤k)∧(∀ k o,G' k=some o→w'.heap[k]?=some o)
theorem Hp.OY (h:Hp w0 F G0 G L w) (hb:Below w.heap.size w w') (hx:Ext w.heap.size G G' w'):Hp w0 F G0 G' L w':=by
 have h':=h.below hb
 refine ⟨h'.os,h'.tape,h'.output,h'.size,h'.pO,h'.fr,hx.2.2,fun k o hk=>hx.1 k o (h.gm k o hk),fun k o hk=>?_,h'.own,fun p hp=>?_,h'.oG,h'.nd⟩
 ·rcases hx.2.1 k o hk with hk|hk
  ·exact h.gx k o hk
  ·exact .inr fun hf=>absurd (Nat.lt_of_lt_of_le (h.pO k hf) h.size) (by omega)
 ·cases hg:G' p.1 with
  | none=>rfl
  | some o =>
   rcases hx.2.1 _ _ hg with hk|hk
   ·rw [h.o9 p hp] at hk;cases hk
   ·exact absurd (h.lt hp) (by omega)
theorem Nf:∀ {L:List (Nat × Obj)} {i b:Nat} {o o':Obj},L.Pairwise (fun p q=>p.1≠q.1)→L[i]?=some (b,o)→(L.set i (b,o')).Pairwise fun p q=>p.1≠q.1
 | [],_,_,_,_,h,_=>h
 | p :: L,0,b,o,o',h,hi=>by
  simp only [List.getElem?_cons_zero,Option.some.injEq] at hi
  subst hi
  exact List.pairwise_cons.2 ⟨(List.pairwise_cons.1 h).1,(List.pairwise_cons.1 h).2⟩
 | p :: L,i+1,b,o,o',h,hi=>by
  simp only [List.getElem?_cons_succ] at hi
  refine List.pairwise_cons.2 ⟨fun q hq=>?_,Nf (List.pairwise_cons.1 h).2 hi⟩
  rcases List.mem_or_eq_of_mem_set hq with hq|rfl
  ·exact (List.pairwise_cons.1 h).1 q hq
  ·exact (List.pairwise_cons.1 h).1 (b,o) (List.mem_of_getElem? hi)
theorem MW:∀ {L:List (Nat × Obj)} {i:Nat} {p q:Nat × Obj},L.Pairwise (fun p q=>p.1≠q.1)→L[i]?=some p→q∈L→q.1=p.1→q=p
 | [],_,_,_,_,h,_,_=>by simp at h
 | x :: L,0,p,q,h,hi,hq,e=>by
  simp only [List.getElem?_cons_zero,Option.some.injEq] at hi
  subst hi
  rcases List.mem_cons.1 hq with rfl|hq
  ·rfl
  ·exact absurd e.symm ((List.pairwise_cons.1 h).1 q hq)
 | x :: L,i+1,p,q,h,hi,hq,e=>by
  simp only [List.getElem?_cons_succ] at hi
  rcases List.mem_cons.1 hq with rfl|hq
  ·exact absurd e ((List.pairwise_cons.1 h).1 p (List.mem_of_getElem? hi))
  ·exact MW (List.pairwise_cons.1 h).2 hi hq e
/-- A store into a block of the call's own. -/
theorem Hp.upd (h:Hp w0 F G0 G L w) {i:Nat} (hi:L[i]?=some (b,o)) (hu:qo b o' w w'):Hp w0 F G0 G (L.set i (b,o')) w':=by
 have hm:(b,o)∈L:=List.mem_of_getElem? hi
 refine ⟨hu.os.trans h.os,hu.tape.trans h.tape,hu.output.trans h.output,hu.size ▸ h.size,h.pO,fun k hk=>?_,fun k o hk=>?_,h.gm,h.gx,fun p hp=>?_,fun p hp=>?_,fun p hp=>?_,Nf h.nd hi⟩
 ·exact (hu.others k (fun e=>h.oG _ hm (e ▸ hk))).trans (h.fr k hk)
 ·refine (hu.others k (fun e=>?_)).trans (h.ro k o hk)
  have:=h.o9 _ hm
  rw [← e,hk] at this;cases this
 ·by_cases e:p.1=b
  ·rcases List.mem_or_eq_of_mem_set hp with hp'|rfl
   ·obtain ⟨j,hj⟩:=List.getElem?_of_mem hp
    have hib:i < L.length:=(List.getElem?_eq_some_iff.1 hi).1
    have hset:(L.set i (b,o'))[i]?=some (b,o'):=by simp [hib]
    have:=MW (Nf (o':=o') h.nd hi) hset hp e
    rw [this];exact hu.this
   ·exact hu.this
  ·rcases List.mem_or_eq_of_mem_set hp with hp|rfl
   ·exact (hu.others _ e).trans (h.own p hp)
   ·exact absurd rfl e
 ·rcases List.mem_or_eq_of_mem_set hp with hp|rfl
  ·exact h.o9 p hp
  ·exact (h.o9 (b,o) hm:G b=none)
 ·rcases List.mem_or_eq_of_mem_set hp with hp|rfl
  ·exact h.oG p hp
  ·exact (h.oG (b,o) hm:¬ F b)
/-- A draw. -/
theorem Hp.drew (h:Hp w0 F G0 G L w):Hp w0 F G0 G L w.drew:=⟨h.os,h.tape,h.output,h.size,h.pO,h.fr,h.ro,h.gm,h.gx,h.own,h.o9,h.oG,h.nd⟩
/-- Fewer blocks of one's own. -/
theorem Hp.drop (h:Hp w0 F G0 G L w) (hs:L'.Sublist L):Hp w0 F G0 G L' w:=⟨h.os,h.tape,h.output,h.size,h.pO,h.fr,h.ro,h.gm,h.gx,fun p hp=>h.own p (hs.subset hp),fun p hp=>h.o9 p (hs.subset hp),fun p hp=>h.oG p (hs.subset hp),h.nd.sublist hs⟩
/-- Some of the call's own blocks, in whatever order. -/
theorem Hp.bL {Pl bB Lo:List (Nat × Obj)} (h:Hp w0 F G0 G (Pl++Lo) w) (idx:List Nat) (hi:idx.Nodup) (hL:idx.map (fun i=>Pl[i]?)=bB.map some):Hp w0 F G0 G (bB++Lo) w:=by
 have hget:∀ (j:Nat) (p:Nat × Obj),bB[j]?=some p→∃ i:Nat,idx[j]?=some i∧Pl[i]?=some p:=by
  intro j p hp
  have h1:(idx.map (fun i=>Pl[i]?))[j]?=some (some p):=by rw [hL];simp [hp]
  rw [List.getElem?_map] at h1
  obtain ⟨i,hi1,hi2⟩:=Option.map_eq_some_iff.1 h1
  exact ⟨i,hi1,hi2⟩
 have hmem:∀ p∈bB++Lo,p∈Pl++Lo:=by
  intro p hp
  rcases List.mem_append.1 hp with hp|hp
  ·obtain ⟨j,hj⟩:=List.getElem?_of_mem hp
   obtain ⟨i,_,hi2⟩:=hget j p hj
   exact List.mem_append_left _ (List.mem_of_getElem? hi2)
  ·exact List.mem_append_right _ hp
 have hnd:=List.pairwise_append.1 h.nd
 refine ⟨h.os,h.tape,h.output,h.size,h.pO,h.fr,h.ro,h.gm,h.gx,fun p hp=>h.own p (hmem p hp),fun p hp=>h.o9 p (hmem p hp),fun p hp=>h.oG p (hmem p hp),List.pairwise_append.2 ⟨?_,hnd.2.1,fun p hp q hq=>?_⟩⟩
 ·refine List.pairwise_iff_getElem.2 fun x y hx hy hxy=>?_
  obtain ⟨i,hi1,hi2⟩:=hget x _ (List.getElem?_eq_getElem hx)
  obtain ⟨j,hj1,hj2⟩:=hget y _ (List.getElem?_eq_getElem hy)
  have hij:i≠j:=by
   intro e
   subst e
   obtain ⟨hx1,hx2⟩:=List.getElem?_eq_some_iff.1 hi1
   obtain ⟨hy1,hy2⟩:=List.getElem?_eq_some_iff.1 hj1
   exact (List.pairwise_iff_getElem.1 hi x y hx1 hy1 hxy) (by rw [hx2,hy2])
  obtain ⟨hi3,hi4⟩:=List.getElem?_eq_some_iff.1 hi2
  obtain ⟨hj3,Q6⟩:=List.getElem?_eq_some_iff.1 hj2
  rcases Nat.lt_or_ge i j with hlt|hge
  ·rw [← hi4,← Q6];exact List.pairwise_iff_getElem.1 hnd.1 i j hi3 hj3 hlt
  ·rw [← hi4,← Q6];exact Ne.symm (List.pairwise_iff_getElem.1 hnd.1 j i hj3 hi3 (by omega))
 ·obtain ⟨j,hj⟩:=List.getElem?_of_mem hp
  obtain ⟨i,_,hi2⟩:=hget j p hj
  exact hnd.2.2 p (List.mem_of_getElem? hi2) q hq
/-- A block of the call's own is given up to what is read alone. -/
def GH.add (G:GH) (b:Nat) (o:Obj):GH:=fun k=>if k=b then some o else G k
theorem GH.FC (G:GH) {b:Nat} {o:Obj} (hn:G b=none) (k:Nat) (o':Obj) (h:G k=some o'):(G.add b o) k=some o':=by
 unfold GH.add;rw [if_neg (fun e=>by subst e;rw [hn] at h;cases h)];exact h
theorem GH.Jy (G:GH) (b:Nat) (o:Obj):(G.add b o) b=some o:=by simp [GH.add]
theorem Hp.giveUp (h:Hp w0 F G0 G L w) (i:Nat) (hi:L[i]?=some (b,o)):Hp w0 F G0 (G.add b o) (L.eraseIdx i) w:=by
 have hm:(b,o)∈L:=List.mem_of_getElem? hi
 have hsub:(L.eraseIdx i).Sublist L:=List.eraseIdx_sublist L i
 have hne:∀ p∈L.eraseIdx i,p.1≠b:=by
  intro p hp e
  have h1:=MW h.nd hi (hsub.subset hp) e
  subst h1
  obtain ⟨j,hj,hjp⟩:=List.mem_eraseIdx_iff_getElem?.1 hp
  have hnd:=h.nd
  have hij:j≠i:=hj
  have hlt1:j < L.length:=(List.getElem?_eq_some_iff.1 hjp).1
  have hlt2:i < L.length:=(List.getElem?_eq_some_iff.1 hi).1
  have e1:=(List.getElem?_eq_some_iff.1 hjp).2
  have e2:=(List.getElem?_eq_some_iff.1 hi).2
  rcases Nat.lt_or_ge j i with hlt|hge
  ·exact (List.pairwise_iff_getElem.1 hnd j i hlt1 hlt2 hlt) (by rw [e1,e2])
  ·exact (List.pairwise_iff_getElem.1 hnd i j hlt2 hlt1 (by omega)) (by rw [e1,e2])
 refine ⟨h.os,h.tape,h.output,h.size,h.pO,h.fr,fun k o' hk=>?_,fun k o' hk=>GH.FC G (h.o9 _ hm) k o' (h.gm k o' hk),fun k o' hk=>?_,fun p hp=>h.own p (hsub.subset hp),fun p hp=>?_,fun p hp=>h.oG p (hsub.subset hp),h.nd.sublist hsub⟩
 ·unfold GH.add at hk
  split at hk
  ·rename_i e;subst e;cases hk;exact h.own _ hm
  ·exact h.ro k o' hk
 ·unfold GH.add at hk
  split at hk
  ·rename_i e;subst e;exact .inr (h.oG _ hm)
  ·exact h.gx k o' hk
 ·unfold GH.add
  rw [if_neg (hne p hp)]
  exact h.o9 p (hsub.subset hp)
/-! ## Slots and steps -/
theorem St.ev (h:St N D w0 F G0 G L T a w) {x:Operand} {v:Value} (hx:Proofs.YthichnnlceeofaaGreat.ev T x=some v):a.eval x=v:=by
 cases x with
 | tmp t =>
  have:=h.get t v hx
  simp only [Act.eval,Array.getD_eq_getD_getElem?,this,Option.getD_some]
 | const u=>simp only [Proofs.YthichnnlceeofaaGreat.ev,Option.some.injEq] at hx;subst hx;rfl
 | global g=>simpa [Proofs.YthichnnlceeofaaGreat.ev,Act.eval] using hx
 | func f=>simpa [Proofs.YthichnnlceeofaaGreat.ev,Act.eval] using hx
theorem St.evs (h:St N D w0 F G0 G L T a w):∀ {xs:List Operand} {vs:List Value},Proofs.YthichnnlceeofaaGreat.evs T xs=some vs→xs.map a.eval=vs
 | [],vs,hx=>by simp [Proofs.YthichnnlceeofaaGreat.evs] at hx;subst hx;rfl
 | x :: xs,vs,hx=>by
  unfold Proofs.YthichnnlceeofaaGreat.evs at hx
  split at hx
  ·rename_i v vs' h1 h2
   simp only [Option.some.injEq] at hx
   subst hx
   rw [List.map_cons,h.ev h1,h.evs h2]
  ·cases hx
theorem St.put (h:St N D w0 F G0 G L T a w) {d:Nat} (hd:Nat.blt d N=true) (v:Value) (H':Hp w0 F G0 G' L' w'):St N D w0 F G0 G' L' ((d,v) :: T) (a.put (some d) v) w':=by
 have hlt:d < a.tmps.size:=by rw [h.jP];exact Eq.mp Nat.blt_eq hd
 refine ⟨by simp [Act.put,h.jP],fun t u ht=>?_,h.nQ,H'⟩
 simp only [Act.put,Array.getElem?_setIfInBounds]
 by_cases e:d=t
 ·subst e
  rw [rW] at ht
  simp [hlt];simpa using ht
 ·rw [pY e] at ht
  simp [e];exact h.get t u ht
theorem St.move (h:St N D w0 F G0 G L T a w) (H':Hp w0 F G0 G' L' w'):St N D w0 F G0 G' L' T a w':=⟨h.jP,h.get,h.nQ,H'⟩
/-- Fewer slots. -/
def NA (T:List (Nat × Value)):List (Nat × Value)→Prop
 | []=>True
 | (t,v) :: r=>lk T t=some v∧NA T r
theorem Un {T:List (Nat × Value)}:∀ {T':List (Nat × Value)},NA T T'→∀ {t v},lk T' t=some v→lk T t=some v
 | [],_,_,_,h=>by simp [lk] at h
 | (s,u) :: r,hs,t,v,h=>by
  by_cases e:s=t
  ·subst e;rw [rW] at h;exact h ▸ hs.1
  ·rw [pY e] at h;exact Un hs.2 h
theorem St.sub (h:St N D w0 F G0 G L T a w) {T':List (Nat × Value)} (hs:NA T T'):St N D w0 F G0 G L T' a w:=⟨h.jP,fun t v ht=>h.get t v (Un hs ht),h.nQ,h.hp⟩
theorem St.bL {Pl bB Lo:List (Nat × Obj)} (h:St N D w0 F G0 G (Pl++Lo) T a w) (idx:List Nat) (hi:idx.Nodup) (hL:idx.map (fun i=>Pl[i]?)=bB.map some):St N D w0 F G0 G (bB++Lo) T a w:=⟨h.jP,h.get,h.nQ,h.hp.bL idx hi hL⟩
end
end
section
open Go.RowKit
section base
variable {r:Option Nat} {P:Program} {ops:Array Oper} {Q:Exit→Act→World→Prop} {rest:List Oper} {a:Act} {w w':World} {o:Oper}
def H8:Op→Bool
 | .defer _=>false
 | _=>true
theorem Nv {o:Oper} {ro:Option Nat} {ρ:Operand→Value} (h:H8 o.op=true):o.semAt ro ρ=execOp ρ o :=
 Oper.semAt_eq ro ρ o fun c e=>by rw [e] at h;cases h
theorem au (h:Q .normal a w):WL r P ops Q [] a w:=wpListIn_nil h
theorem NQ (hw:Region.wanted o (yielded ops a.tmps)=true) (h:o.wpIn (FW r) 0 P a w (WL r P ops Q rest) Q):WL r P ops Q (o :: rest) a w:=by
 show wpListIn (FW r) 0 P ops Q (o :: rest) a w
 unfold wpListIn
 rw [if_pos hw]
 exact h
theorem U2 (hw:Region.wanted o (yielded ops a.tmps)=false) (h:WL r P ops Q rest (a.put o.dst undef) w):WL r P ops Q (o :: rest) a w:=by
 show wpListIn (FW r) 0 P ops Q (o :: rest) a w
 unfold wpListIn
 rw [if_neg (by simp [hw])]
 exact ⟨fun _ _=>trivial,h⟩
theorem eT {v:Value} (hw:Region.wanted o (yielded ops a.tmps)=true) (hd:H8 o.op=true) (h:(execOp a.eval o).run P w=.ok (.value v) w')
  (k:WL r P ops Q rest (a.put o.dst v) w'):WL r P ops Q (o :: rest) a w:=by
 refine NQ hw ⟨fun _ _=>trivial,?_⟩
 rw [Nv hd,h]
 exact k
theorem U4 (hw:Region.wanted o (yielded ops a.tmps)=true) (hd:H8 o.op=true) (h:(execOp a.eval o).run P w=.ok .skip w')
  (k:WL r P ops Q rest (a.put o.dst undef) w'):WL r P ops Q (o :: rest) a w:=by
 refine NQ hw ⟨fun _ _=>trivial,?_⟩
 rw [Nv hd,h]
 exact k
/-- What is asked of a call, in whatever way the function value leads on. -/
def After (P:Program) (nx:Result Next) (R:Ending→World→Prop):Prop :=
 match nx with
 | .ok (.enter f args) w'=>Calls P f args w' R
 | .ok (.round l f tmps assign body) w'=>RoundIn (FW none) 0 P l f tmps assign body w' R
 | _=>False
/-- A function value is called with arguments. -/
structure qU (P:Program) (fv:Value) (args:List Value) (w:World) (R:Ending→World→Prop):Prop where
 go:After P ((do let d ← Deferred.ofValue fv args.toArray;invoke d.target d.args:Sem Next).run P w) R
theorem NP {nx:Result Next} {R:Ending→World→Prop} (hw:Region.wanted o (yielded ops a.tmps)=true) (hd:H8 o.op=true) (h:(execOp a.eval o).run P w=nx) (hc:After P nx R)
  (k:∀ e w',R e w'→∃ v,e=.returned v∧WL r P ops Q rest (a.put o.dst v) w'):WL r P ops Q (o :: rest) a w:=by
 refine NQ hw ⟨fun _ _=>trivial,?_⟩
 rw [Nv hd,h]
 cases nx with
 | halt x y=>exact hc.elim
 | ok x w1 =>
  cases x with
  | enter f args =>
   refine ⟨Fp r,(JC hc).mono fun e w2 hR=>?_⟩
   obtain ⟨v,rfl,hk⟩:=k e w2 hR
   exact hk
  | round l f tmps assign body =>
   have hc':RoundIn (FW none) 0 P l f tmps assign body w1 R:=hc
   refine ⟨Fp r,?_⟩
   have h2:RoundIn (FW r) (0 - 1) P l f tmps assign body w1 R:=⟨trivial,fun c cs hr=>hc'.2 c cs (room_wide _)⟩
   exact h2.mono fun e w2 hR=>by obtain ⟨v,rfl,hk⟩:=k e w2 hR;exact hk
  | _=>exact hc.elim
end base
section steps
variable {N:Nat} {D:List Deferred} {w0:World} {F:Nat→Prop} {G0 G:GH} {L:List (Nat × Obj)} {T:List (Nat × Value)}
variable {r:Option Nat} {P:Program} {ops:Array Oper} {Q:Exit→Act→World→Prop} {rest:List Oper} {a:Act} {w:World}
variable {d:Nat} {ty:TypeId} {pos:String} {aG:Array Edge} {g:Option (Nat × Bool)}
/-! ### guards -/
theorem wn {op:Op} {dst:Option Tmp} {y:Nat→Option Bool}:Region.wanted ⟨dst,op,ty,pos,aG,none⟩ y=true:=rfl
theorem U5 (H:St N D w0 F G0 G L T a w) {j t:Nat} {b:Bool} (hj:(ops[j]?).bind (·.dst)=some t) (ht:lk T t=some (.bool b)):yielded ops a.tmps j=some b:=by
 unfold yielded
 rw [hj]
 simp [H.get t _ ht]
theorem wg (H:St N D w0 F G0 G L T a w) {op:Op} {dst:Option Tmp} {j t:Nat} {want b:Bool} (hj:(ops[j]?).bind (·.dst)=some t) (ht:lk T t=some (.bool b)) (hb:b=want) :
  Region.wanted ⟨dst,op,ty,pos,aG,some (j,want)⟩ (yielded ops a.tmps)=true:=by
 simp [Region.wanted,U5 H hj ht,hb]
theorem T9 (H:St N D w0 F G0 G L T a w) {op:Op} {j t:Nat} {want b:Bool} (hj:(ops[j]?).bind (·.dst)=some t) (ht:lk T t=some (.bool b)) (hb:b=!want) (hd:Nat.blt d N=true)
  (k:∀ a',St N D w0 F G0 G L ((d,undef) :: T) a' w→WL r P ops Q rest a' w):WL r P ops Q (⟨some d,op,ty,pos,aG,some (j,want)⟩ :: rest) a w:=by
 refine U2 ?_ (k _ (H.put hd undef H.hp))
 simp only [Region.wanted,U5 H hj ht,hb]
 cases want <;> rfl
theorem aed (H:St N D w0 F G0 G L T a w) {op:Op} {j t:Nat} {want:Bool} (hj:(ops[j]?).bind (·.dst)=some t) (ht:lk T t=some undef) (hd:Nat.blt d N=true)
  (k:∀ a',St N D w0 F G0 G L ((d,undef) :: T) a' w→WL r P ops Q rest a' w):WL r P ops Q (⟨some d,op,ty,pos,aG,some (j,want)⟩ :: rest) a w:=by
 refine U2 ?_ (k _ (H.put hd undef H.hp))
 have h:yielded ops a.tmps j=none:=by
  unfold yielded
  rw [hj]
  simp [H.get t _ ht,undef]
 simp only [Region.wanted,h]
 cases want <;> rfl
/-- The ways part at a truth value that a slot holds. -/
theorem Ub (_H:St N D w0 F G0 G L T a w) (t:Nat) {b:Bool} {X:Prop} (_ht:lk T t=some (.bool b)) (h1:b=true→X) (h0:b=false→X):X:=by cases b <;> simp_all
/-! ### moves -/
theorem IC {x:Operand} {v:Value} (H:St N D w0 F G0 G L T a w) (hw:Region.wanted ⟨some d,.move x,ty,pos,aG,g⟩ (yielded ops a.tmps)=true) (hx:ev T x=some v) (hd:Nat.blt d N=true)
  (k:∀ a',St N D w0 F G0 G L ((d,v) :: T) a' w→WL r P ops Q rest a' w):WL r P ops Q (⟨some d,.move x,ty,pos,aG,g⟩ :: rest) a w :=
 eT (v:=v) (w':=w) hw rfl (by simp [execOp,H.ev hx]) (k _ (H.put hd v H.hp))
theorem ad2 {x:Operand} {v:Value} (H:St N D w0 F G0 G L T a w) (hw:Region.wanted ⟨some d,.assign x,ty,pos,aG,g⟩ (yielded ops a.tmps)=true) (hx:ev T x=some v) (hd:Nat.blt d N=true)
  (k:∀ a',St N D w0 F G0 G L ((d,v) :: T) a' w→WL r P ops Q rest a' w):WL r P ops Q (⟨some d,.assign x,ty,pos,aG,g⟩ :: rest) a w :=
 eT (v:=v) (w':=w) hw rfl (by simp [execOp,H.ev hx]) (k _ (H.put hd v H.hp))
theorem IE {c x y:Operand} {b:Bool} {v:Value} (H:St N D w0 F G0 G L T a w) (hw:Region.wanted ⟨some d,.pick c x y,ty,pos,aG,g⟩ (yielded ops a.tmps)=true) (hc:ev T c=some (.bool b)) (hb:b=true) (hx:ev T x=some v) (hd:Nat.blt d N=true)
  (k:∀ a',St N D w0 F G0 G L ((d,v) :: T) a' w→WL r P ops Q rest a' w):WL r P ops Q (⟨some d,.pick c x y,ty,pos,aG,g⟩ :: rest) a w :=
 eT (v:=v) (w':=w) hw rfl (by simp [execOp,H.ev hx,H.ev hc,asBool,hb]) (k _ (H.put hd v H.hp))
theorem Nt {c x y:Operand} {b:Bool} {v:Value} (H:St N D w0 F G0 G L T a w) (hw:Region.wanted ⟨some d,.pick c x y,ty,pos,aG,g⟩ (yielded ops a.tmps)=true) (hc:ev T c=some (.bool b)) (hb:b=false) (hx:ev T y=some v) (hd:Nat.blt d N=true)
  (k:∀ a',St N D w0 F G0 G L ((d,v) :: T) a' w→WL r P ops Q rest a' w):WL r P ops Q (⟨some d,.pick c x y,ty,pos,aG,g⟩ :: rest) a w :=
 eT (v:=v) (w':=w) hw rfl (by simp [execOp,H.ev hx,H.ev hc,asBool,hb]) (k _ (H.put hd v H.hp))
/-! ### types -/
/-- What the program's table says of a type: cells, bytes, the zero value's cells, whether its values are rows of cells. -/
structure Ty (P:Program) (t:TypeId) (sz bytes:Nat) (zero:List Value) (agg:Bool):Prop where
 info:(P.info? t).map (fun i=>(i.size,i.bytes,i.zero.map fun z=>z.cells.toList))=some (sz,bytes,some zero)
 ag:(P.underlying t).map (fun|.struct _=>true|.array _ _=>true|_=>false)=some agg
theorem Ty.parts {t:TypeId} {sz bytes:Nat} {zero:List Value} {agg:Bool} (h:Ty P t sz bytes zero agg):∃ i z,P.info? t=some i∧i.size=sz∧i.bytes=bytes∧i.zero=some z∧z.cells=zero.toArray:=by
 obtain ⟨i,hi,hx⟩:=Option.map_eq_some_iff.1 h.info
 simp only [Prod.mk.injEq] at hx
 obtain ⟨z,hz,hzz⟩:=Option.map_eq_some_iff.1 hx.2.2
 exact ⟨i,z,hi,hx.1,hx.2.1,hz,by rw [← hzz]⟩
theorem Ar {t:TypeId} {i:TypeInfo} (h:P.info? t=some i) (w:World):(typeInfo t).run P w=.ok i w:=by simp [typeInfo,program,Sem.run,Sem.run_bind,h]
theorem Ty.ze {t:TypeId} {sz bytes:Nat} {zero:List Value} {agg:Bool} (h:Ty P t sz bytes zero agg) (w:World):(sizeOf t).run P w=.ok sz w:=by
 obtain ⟨i,z,hi,h1,-,-,-⟩:=h.parts
 simp [sizeOf,Sem.run_bind,Ar hi,h1]
theorem Ty.TQ {t:TypeId} {sz bytes:Nat} {zero:List Value} {agg:Bool} (h:Ty P t sz bytes zero agg) (w:World):∃ z,(zeroValue t).run P w=.ok z w∧z.cells=zero.toArray:=by
 obtain ⟨i,z,hi,-,-,h1,h2⟩:=h.parts
 exact ⟨z,by simp [zeroValue,Sem.run_bind,Ar hi,h1],h2⟩
theorem mE {t:TypeId} {u:TypeDesc} (h:P.underlying t=some u) (w:World):(underlying t).run P w=.ok u w:=by simp [underlying,program,Sem.run,Sem.run_bind,h]
theorem Ty.Ip {t:TypeId} {sz bytes:Nat} {zero:List Value} {agg:Bool} (h:Ty P t sz bytes zero agg) (w:World):(isAgg t).run P w=.ok agg w:=by
 obtain ⟨u,hu,hx⟩:=Option.map_eq_some_iff.1 h.ag
 unfold isAgg
 simp only [Sem.run_bind,mE hu,Result.andThen_ok]
 cases u <;> simp_all
/-! ### new blocks -/
theorem bX {elem:TypeId} {sz bytes:Nat} {zero:List Value} {agg:Bool} (ht:Ty P elem sz bytes zero agg) (H:St N D w0 F G0 G L T a w) (hw:Region.wanted ⟨some d,.alloc elem,ty,pos,aG,g⟩ (yielded ops a.tmps)=true) (hd:Nat.blt d N=true)
  (k:∀ b a' w',w0.heap.size≤b→St N D w0 F G0 G ((b,.cells zero.toArray elem (0,0)) :: L) ((d,.pointer (some ⟨b,0,none⟩)) :: T) a' w'→WL r P ops Q rest a' w'):WL r P ops Q (⟨some d,.alloc elem,ty,pos,aG,g⟩ :: rest) a w:=by
 obtain ⟨z,hz,hzc⟩:=ht.TQ w
 refine eT (v:=.pointer (some ⟨w.heap.size,0,none⟩)) (w':=w.alloc (.cells zero.toArray elem (0,0))) hw rfl ?_ (k _ _ _ H.hp.size (H.put hd _ (H.hp.alloc _)))
 simp [execOp,Instr.alloc,Sem.run_bind,hz,newVar,newRow,newObj,Sem.run,hzc]
theorem bY {elem:TypeId} {x:Operand} {v:Value} {cs:List Value} (H:St N D w0 F G0 G L T a w) (hw:Region.wanted ⟨some d,.box elem x,ty,pos,aG,g⟩ (yielded ops a.tmps)=true) (hx:ev T x=some v) (hc:v.cells=cs.toArray) (hd:Nat.blt d N=true)
  (k:∀ b a' w',w0.heap.size≤b→St N D w0 F G0 G ((b,.cells cs.toArray elem (0,0)) :: L) ((d,.pointer (some ⟨b,0,none⟩)) :: T) a' w'→WL r P ops Q rest a' w'):WL r P ops Q (⟨some d,.box elem x,ty,pos,aG,g⟩ :: rest) a w:=by
 refine eT (v:=.pointer (some ⟨w.heap.size,0,none⟩)) (w':=w.alloc (.cells cs.toArray elem (0,0))) hw rfl ?_ (k _ _ _ H.hp.size (H.put hd _ (H.hp.alloc _)))
 simp [execOp,Instr.box,Sem.run_bind,newVar,newRow,newObj,Sem.run,H.ev hx,hc]
/-! ### reading cells -/
def aB (G:GH) (b o:Nat):Option Value:=match G b with|some (.cells c _ _)=>c[o]?|_=>none
theorem Hp.aB (h:Hp w0 F G0 G L w) {b o:Nat} {v:Value} (hg:Proofs.YthichnnlceeofaaGreat.aB G b o=some v):w.cell? ⟨b,o,none⟩=some v:=by
 unfold Proofs.YthichnnlceeofaaGreat.aB at hg
 split at hg
 ·rename_i c e f he
  simp only [World.cell?,h.ro b _ he]
  exact hg
 ·cases hg
theorem Hp.jE (h:Hp w0 F G0 G L w) (i:Nat) {b o:Nat} {c:Array Value} {e:TypeId} {fz:Nat × Nat} {v:Value} (hi:L[i]?=some (b,.cells c e fz)) (hv:c[o]?=some v):w.cell? ⟨b,o,none⟩=some v:=by
 have:=h.own _ (List.mem_of_getElem? hi)
 simp only [World.cell?] at *
 rw [this]
 exact hv
theorem add_lit (b o n:Nat):(⟨b,o,none⟩:Addr).add n=⟨b,o+n,none⟩:=by
 unfold Addr.add
 split
 ·rename_i h;subst h;rfl
 ·rfl
theorem Nj {b o:Nat} {v:Value} (h:w.cell? ⟨b,o,none⟩=some v):(load ⟨b,o,none⟩).run P w=.ok v w:=by simp [load,Sem.run,h]
theorem run_loadCells (b:Nat) (w:World):∀ (cs:List Value) (o i:Nat) (acc:Array Value),(∀ j v,cs[j]?=some v→w.cell? ⟨b,o+i+j,none⟩=some v) →
  (loadCellsFrom ⟨b,o,none⟩ i cs.length acc).run P w=.ok (acc++cs.toArray) w
 | [],o,i,acc,_=>by simp [loadCellsFrom,Sem.run]
 | c :: cs,o,i,acc,h=>by
  have h0:=h 0 c rfl
  have ih:=run_loadCells b w cs o (i+1) (acc.push c) (fun j v hj=>by have:=h (j+1) v (by simpa using hj);rw [← this];congr 2;omega)
  simp only [loadCellsFrom,List.length_cons,Sem.run_bind,add_lit,Nj (P:=P) (by simpa using h0),Result.andThen_ok,ih]
  congr 1
  apply Array.ext'
  simp
theorem xR {t:TypeId} {sz bytes:Nat} {zero:List Value} (ht:Ty P t sz bytes zero false) {x:Operand} {b o:Nat} {v:Value} (H:St N D w0 F G0 G L T a w) (hw:Region.wanted ⟨some d,.load t x,ty,pos,aG,g⟩ (yielded ops a.tmps)=true)
  (hx:ev T x=some (.pointer (some ⟨b,o,none⟩))) (hc:w.cell? ⟨b,o,none⟩=some v) (hd:Nat.blt d N=true)
  (k:∀ a',St N D w0 F G0 G L ((d,v) :: T) a' w→WL r P ops Q rest a' w):WL r P ops Q (⟨some d,.load t x,ty,pos,aG,g⟩ :: rest) a w:=by
 refine eT (v:=v) (w':=w) hw rfl ?_ (k _ (H.put hd v H.hp))
 simp only [execOp,Instr.loadAt,Instr.sureAddr,loadVar,Sem.run_bind,H.ev hx,ht.Ip,Result.andThen_ok,Sem.run_pure,Bool.false_eq_true,if_false,Nj hc]
theorem aK {t:TypeId} {sz bytes:Nat} {zero:List Value} (ht:Ty P t sz bytes zero true) {x:Operand} {b o:Nat} {cs:List Value} (H:St N D w0 F G0 G L T a w) (hw:Region.wanted ⟨some d,.load t x,ty,pos,aG,g⟩ (yielded ops a.tmps)=true)
  (hx:ev T x=some (.pointer (some ⟨b,o,none⟩))) (hl:cs.length=sz) (hc:∀ j v,cs[j]?=some v→w.cell? ⟨b,o+j,none⟩=some v) (hd:Nat.blt d N=true)
  (k:∀ a',St N D w0 F G0 G L ((d,.agg cs.toArray) :: T) a' w→WL r P ops Q rest a' w):WL r P ops Q (⟨some d,.load t x,ty,pos,aG,g⟩ :: rest) a w:=by
 refine eT (v:=.agg cs.toArray) (w':=w) hw rfl ?_ (k _ (H.put hd _ H.hp))
 have h1:=run_loadCells (P:=P) b w cs o 0 #[] (fun j v hj=>by simpa using hc j v hj)
 simp only [Array.empty_append,hl] at h1
 simp [execOp,Instr.loadAt,Instr.sureAddr,loadVar,Sem.run_bind,H.ev hx,ht.Ip,ht.ze,loadCells,h1]
/-- The cells of a part of a block of the call's own. -/
theorem Hp.bF (h:Hp w0 F G0 G L w) (i:Nat) {b o:Nat} {c:List Value} {e:TypeId} {fz:Nat × Nat} {cs:List Value} (hi:L[i]?=some (b,.cells c.toArray e fz)) (hv:(c.drop o).take cs.length=cs):∀ j v,cs[j]?=some v→w.cell? ⟨b,o+j,none⟩=some v:=by
 intro j v hj
 refine h.jE i hi ?_
 rw [← hv,List.getElem?_take] at hj
 split at hj
 ·rw [List.getElem?_drop] at hj
  simpa using hj
 ·cases hj
/-! ### writing cells -/
theorem afa {b o:Nat} {c:Array Value} {e:TypeId} {fz:Nat × Nat} (h:w.heap[b]?=some (.cells c e fz)) (v:Value):qo b (.cells (c.setIfInBounds o v) e fz) w (w.setCell ⟨b,o,none⟩ v):=by
 refine ⟨rfl,rfl,rfl,by simp,?_,fun k hk=>Below.heap_setCell w _ v k hk⟩
 simp [World.setCell,Array.getElem?_modify,h]
theorem qo.trans {b:Nat} {o1 o2:Obj} {w1 w2 w3:World} (h:qo b o1 w1 w2) (k:qo b o2 w2 w3):qo b o2 w1 w3 :=
 ⟨k.os.trans h.os,k.tape.trans h.tape,k.output.trans h.output,k.size.trans h.size,k.this,fun j hj=>(k.others j hj).trans (h.others j hj)⟩
theorem qo.refl {b:Nat} {o:Obj} {w:World} (h:w.heap[b]?=some o):qo b o w w:=⟨rfl,rfl,rfl,rfl,h,fun _ _=>rfl⟩
def oneCell':Value→Bool
 | .agg _|.tuple _=>false
 | _=>true
def setRow (c:List Value):Nat→List Value→List Value
 | _,[]=>c
 | o,v :: vs=>setRow (c.set o v) (o+1) vs
theorem adV {b o:Nat} {c:Array Value} {e:TypeId} {v:Value} (hb:w.heap[b]?=some (.cells c e (0,0))) (ho:o < c.size) (hv:oneCell' v=true) :
  (store ⟨b,o,none⟩ v).run P w=.ok () (w.setCell ⟨b,o,none⟩ v):=by
 have h1:w.cell? ⟨b,o,none⟩=some c[o]:=by simp [World.cell?,hb,ho]
 have h2:w.frozen? ⟨b,o,none⟩=false:=by simp [World.frozen?,hb]
 unfold store
 cases v <;> first|(simp [oneCell'] at hv;done)|(simp only [Sem.run,h1,h2];rfl)
theorem TP (b:Nat) (e:TypeId) (o0:Nat):∀ (vs:List Value) (i:Nat) (c:List Value) (w:World),w.heap[b]?=some (.cells c.toArray e (0,0))→o0+i+vs.length≤c.length→(∀ v∈vs,oneCell' v=true) →
  ∃ w',(storeCells ⟨b,o0,none⟩ vs i).run P w=.ok () w'∧qo b (.cells (setRow c (o0+i) vs).toArray e (0,0)) w w'
 | [],i,c,w,hb,_,_=>⟨w,by simp [storeCells,Sem.run],qo.refl hb⟩
 | v :: vs,i,c,w,hb,hl,hv=>by
  simp only [List.length_cons] at hl
  have hr:=adV (P:=P) (o:=o0+i) (v:=v) hb (by simp;omega) (hv v (by simp))
  have hu:=afa (o:=o0+i) hb v
  have hb':=hu.this
  simp only [List.setIfInBounds_toArray] at hb' hu
  obtain ⟨w2,h2,u2⟩:=TP b e o0 vs (i+1) (c.set (o0+i) v) _ hb' (by simp;omega) (fun u hu=>hv u (by simp [hu]))
  refine ⟨w2,?_,?_⟩
  ·simp only [storeCells,Sem.run_bind,add_lit,hr,Result.andThen_ok,h2]
  ·exact hu.trans u2
theorem aP {t:TypeId} {sz bytes:Nat} {zero:List Value} {agg:Bool} (ht:Ty P t sz bytes zero agg) {x y:Operand} (i:Nat) {b o:Nat} {c:List Value} {e:TypeId} {v:Value} {vs:List Value} (c':List Value) (H:St N D w0 F G0 G L T a w) (hw:Region.wanted ⟨none,.store t x y,ty,pos,aG,g⟩ (yielded ops a.tmps)=true)
  (hx:ev T x=some (.pointer (some ⟨b,o,none⟩))) (hi:L[i]?=some (b,.cells c.toArray e (0,0))) (hy:ev T y=some v) (hvs:v.cells=vs.toArray) (hl:Nat.beq vs.length sz=true) (h1:vs.all oneCell'=true) (hle:Nat.ble (o+vs.length) c.length=true) (hset:setRow c o vs=c')
  (k:∀ w',St N D w0 F G0 G (L.set i (b,.cells c'.toArray e (0,0))) T a w'→WL r P ops Q rest a w'):WL r P ops Q (⟨none,.store t x y,ty,pos,aG,g⟩ :: rest) a w:=by
 have hb:=H.hp.own _ (List.mem_of_getElem? hi)
 obtain ⟨w2,h2,u2⟩:=TP (P:=P) b e o vs 0 c w hb (by simpa using Nat.le_of_ble_eq_true hle) (fun u hu=>List.all_eq_true.1 h1 u hu)
 simp only [Nat.add_zero,hset] at u2
 refine U4 (w':=w2) hw rfl ?_ (k w2 (H.move (H.hp.upd hi u2)))
 have hl':vs.length=sz:=Nat.eq_of_beq_eq_true hl
 simp [execOp,Instr.storeAt,Instr.sureAddr,storeVar,Sem.run_bind,H.ev hx,H.ev hy,ht.ze,hvs,hl',h2]
/-! ### addresses, parts -/
structure bO (P:Program) (s n off:Nat):Prop where
 h:(match P.underlying s with|some (.struct fs)=>(fs[n]?).bind fun f=>(P.info? f.type).map fun i=>(f.offset,i.size == 0)|_=>none)=some (off,false)
theorem bO.parts {s n off:Nat} (h:bO P s n off):∃ fs fl i,P.underlying s=some (.struct fs)∧fs[n]?=some fl∧P.info? fl.type=some i∧fl.offset=off∧i.size≠0:=by
 obtain ⟨h⟩:=h
 split at h
 ·rename_i fs hs
  obtain ⟨fl,hf,h2⟩:=Option.bind_eq_some_iff.1 h
  obtain ⟨i,hi,h3⟩:=Option.map_eq_some_iff.1 h2
  simp only [Prod.mk.injEq,beq_eq_false_iff_ne] at h3
  exact ⟨fs,fl,i,hs,hf,hi,h3.1,h3.2⟩
 ·cases h
theorem Iy {s:TypeId} {x:Operand} {n b o off:Nat} (hs:bO P s n off) (H:St N D w0 F G0 G L T a w) (hw:Region.wanted ⟨some d,.fieldAddr s x n,ty,pos,aG,g⟩ (yielded ops a.tmps)=true)
  (hx:ev T x=some (.pointer (some ⟨b,o,none⟩))) (hd:Nat.blt d N=true)
  (k:∀ a',St N D w0 F G0 G L ((d,.pointer (some ⟨b,o+off,none⟩)) :: T) a' w→WL r P ops Q rest a' w):WL r P ops Q (⟨some d,.fieldAddr s x n,ty,pos,aG,g⟩ :: rest) a w:=by
 obtain ⟨fs,fl,i,h1,h2,h3,h4,h5⟩:=hs.parts
 refine eT (v:=.pointer (some ⟨b,o+off,none⟩)) (w':=w) hw rfl ?_ (k _ (H.put hd _ H.hp))
 simp only [execOp,Instr.fieldAt,Instr.sureAddr,Sem.run_bind,H.ev hx,mE h1,h2,Result.andThen_ok,Sem.run_pure,fieldPlace,sizeOf,Ar h3,if_neg h5,add_lit,h4]
theorem Ns {s e:TypeId} {sz bytes:Nat} {zero:List Value} {agg:Bool} (hs:P.underlying s=some (.slice e)) (ht:Ty P e sz bytes zero agg) {x y:Operand} {b o n c:Nat} {kd:IntKind} {z:Int} (i:Nat) (H:St N D w0 F G0 G L T a w) (hw:Region.wanted ⟨some d,.indexAddr s x y,ty,pos,aG,g⟩ (yielded ops a.tmps)=true)
  (hx:ev T x=some (.slice (some ⟨b,o,none⟩) n c)) (hy:ev T y=some (.int kd z)) (hz:z=(i:Int)) (hn:i < n) (hd:Nat.blt d N=true)
  (k:∀ a',St N D w0 F G0 G L ((d,.pointer (some ⟨b,o+i*sz,none⟩)) :: T) a' w→WL r P ops Q rest a' w):WL r P ops Q (⟨some d,.indexAddr s x y,ty,pos,aG,g⟩ :: rest) a w:=by
 subst hz
 refine eT (v:=.pointer (some ⟨b,o+i*sz,none⟩)) (w':=w) hw rfl ?_ (k _ (H.put hd _ H.hp))
 have hr:(0:Int)≤i∧(i:Int) < (n:Int):=by omega
 simp only [execOp,Instr.indexAt,asIntOf,Sem.run_bind,H.ev hx,H.ev hy,mE hs,Result.andThen_ok,Sem.run_pure,if_pos hr,ht.ze,add_lit,Int.toNat_natCast]
theorem gV {x:Operand} {n:Nat} {vs:List Value} {v:Value} (H:St N D w0 F G0 G L T a w) (hw:Region.wanted ⟨some d,.extract x n,ty,pos,aG,g⟩ (yielded ops a.tmps)=true) (hx:ev T x=some (.tuple vs.toArray)) (hv:vs[n]?=some v) (hd:Nat.blt d N=true)
  (k:∀ a',St N D w0 F G0 G L ((d,v) :: T) a' w→WL r P ops Q rest a' w):WL r P ops Q (⟨some d,.extract x n,ty,pos,aG,g⟩ :: rest) a w :=
 eT (v:=v) (w':=w) hw rfl (by simp [execOp,Instr.extract,H.ev hx,hv]) (k _ (H.put hd _ H.hp))
theorem o8 {x:Operand} {p:Addr} (H:St N D w0 F G0 G L T a w) (hw:Region.wanted ⟨some d,.nilCheck x,ty,pos,aG,g⟩ (yielded ops a.tmps)=true) (hx:ev T x=some (.pointer (some p))) (hd:Nat.blt d N=true)
  (k:∀ a',St N D w0 F G0 G L ((d,.pointer (some p)) :: T) a' w→WL r P ops Q rest a' w):WL r P ops Q (⟨some d,.nilCheck x,ty,pos,aG,g⟩ :: rest) a w :=
 eT (v:=.pointer (some p)) (w':=w) hw rfl (by simp [execOp,H.ev hx]) (k _ (H.put hd _ H.hp))
theorem lT {fn:Fn} {xs:List Operand} {vs:List Value} (H:St N D w0 F G0 G L T a w) (hw:Region.wanted ⟨some d,.makeFunc fn #[] xs.toArray,ty,pos,aG,g⟩ (yielded ops a.tmps)=true) (hx:evs T xs=some vs) (hd:Nat.blt d N=true)
  (k:∀ a',St N D w0 F G0 G L ((d,.func fn #[] vs.toArray) :: T) a' w→WL r P ops Q rest a' w):WL r P ops Q (⟨some d,.makeFunc fn #[] xs.toArray,ty,pos,aG,g⟩ :: rest) a w :=
 eT (v:=.func fn #[] vs.toArray) (w':=w) hw rfl (by simp [execOp,Instr.makeFunc,H.evs hx]) (k _ (H.put hd _ H.hp))
/-! ### building rows of cells -/
/-- Parts laid into a row of cells, in order. -/
def vN (pl:List (Nat × Nat)):List Value→List (Nat × List Value)→Option (List Value)
 | c,[]=>some c
 | c,(i,vs) :: rest=>match pl[i]? with
  | none=>none
  | some (off,size)=>bif Nat.beq vs.length size && Nat.ble (off+vs.length) c.length then vN pl (setRow c off vs) rest else none
theorem Cv:∀ (vs:List Value) (o:Nat) (c:List Value),(setRow c o vs).length=c.length
 | [],_,_=>rfl
 | v :: vs,o,c=>by simp [setRow,Cv vs]
theorem QI (off:Nat):∀ (vs:List Value) (j:Nat) (c:List Value),
  ((vs.zipIdx j).toArray).foldl (fun cs (x:Value × Nat)=>cs.setIfInBounds (off+x.2) x.1) c.toArray=(setRow c (off+j) vs).toArray
 | [],j,c=>by simp [setRow]
 | v :: vs,j,c=>by
  have ih:=QI off vs (j+1) (c.set (off+j) v)
  simp only [List.zipIdx_cons,List.foldl_toArray'] at *
  simp only [List.foldl_cons,List.setIfInBounds_toArray]
  exact ih
theorem fill_eq (place:Nat→Option (Nat × Nat)) (pl:List (Nat × Nat)) (hp:∀ i q,pl[i]?=some q→place i=some q):∀ (parts:List (Nat × Value)) (Ih:List (Nat × List Value)) (c c':List Value),
  parts.map (fun x=>(x.1,x.2.cells.toList))=Ih→vN pl c Ih=some c'→Instr.fill place c.toArray parts=some c'.toArray
 | [],Ih,c,c',hm,h=>by subst hm;simp [vN] at h;subst h;rfl
 | (i,v) :: parts,Ih,c,c',hm,h=>by
  subst hm
  simp only [List.map_cons,vN] at h
  split at h
  ·cases h
  ·rename_i off size hq
   cases hcond:(Nat.beq v.cells.toList.length size && Nat.ble (off+v.cells.toList.length) c.length) with
   | false=>rw [hcond] at h;cases h
   | true =>
    rw [hcond] at h
    simp only [Bool.and_eq_true] at hcond
    have e1:=Nat.eq_of_beq_eq_true hcond.1
    have e2:=Nat.le_of_ble_eq_true hcond.2
    have ih:=fill_eq place pl hp parts _ (setRow c off v.cells.toList) c' rfl h
    have hf:=QI off v.cells.toList 0 c
    simp only [Nat.add_zero] at hf
    simp only [Array.length_toList] at e1 e2
    unfold Instr.fill
    rw [hp i _ hq]
    have hz:(v.cells.zipIdx:Array (Value × Nat))=((v.cells.toList.zipIdx 0).toArray):=by
     apply Array.ext';simp
    simp only [e1,ne_eq,not_true_eq_false,Bool.false_eq_true,decide_false,Bool.false_or,List.size_toArray]
    rw [if_neg (by simp;omega),hz,hf]
    exact ih
/-- A struct's type: where its fields lie. -/
structure oN (P:Program) (t:TypeId) (pl:List (Nat × Nat)) (zero:List Value):Prop where
 h:(match P.underlying t with|some (.struct fs)=>some (fs.toList.map fun f=>(f.offset,(P.info? f.type).map (·.size)))|_=>none)=some (pl.map fun q=>(q.1,some q.2))
 z:(P.info? t).map (fun i=>i.zero.map fun z=>z.cells.toList)=some (some zero)
end steps
end
section
open Go.RowKit
section steps
variable {N:Nat} {D:List Deferred} {w0:World} {F:Nat→Prop} {G0 G:GH} {L:List (Nat × Obj)} {T:List (Nat × Value)}
variable {r:Option Nat} {P:Program} {ops:Array Oper} {Q:Exit→Act→World→Prop} {rest:List Oper} {a:Act} {w:World}
variable {d:Nat} {ty:TypeId} {pos:String} {aG:Array Edge} {g:Option (Nat × Bool)}
/-! ### built values -/
theorem oN.parts {t:TypeId} {pl:List (Nat × Nat)} {zero:List Value} (h:oN P t pl zero):∃ fs i z,P.underlying t=some (.struct fs)∧P.info? t=some i∧i.zero=some z∧z.cells=zero.toArray ∧
  fs.toList.map (fun f=>(f.offset,(P.info? f.type).map (·.size)))=pl.map fun q=>(q.1,some q.2):=by
 obtain ⟨h,hz⟩:=h
 obtain ⟨i,hi,hx⟩:=Option.map_eq_some_iff.1 hz
 obtain ⟨z,hz1,hz2⟩:=Option.map_eq_some_iff.1 hx
 split at h
 ·rename_i fs hs
  exact ⟨fs,i,z,hs,hi,hz1,by rw [← hz2],by simpa using h⟩
 ·cases h
theorem TN (w:World):∀ (fs:List Field) (pl:List (Nat × Nat)),fs.map (fun f=>(f.offset,(P.info? f.type).map (·.size)))=pl.map (fun q=>(q.1,some q.2)) →
  (fs.mapM (fun f=>(do pure (f.offset,← sizeOf f.type):Sem (Nat × Nat)))).run P w=.ok pl w
 | [],[],_=>by simp [Sem.run]
 | [],q :: pl,h=>by simp at h
 | f :: fs,[],h=>by simp at h
 | f :: fs,q :: pl,h=>by
  simp only [List.map_cons,List.cons.injEq,Prod.mk.injEq] at h
  obtain ⟨⟨h1,h2⟩,h3⟩:=h
  obtain ⟨i,hi,hs⟩:=Option.map_eq_some_iff.1 h2
  have ih:=TN w fs pl h3
  have hsz:(sizeOf f.type).run P w=.ok q.2 w:=by simp only [sizeOf,Sem.run_bind,Ar hi,Result.andThen_ok,Sem.run_pure,hs]
  simp only [List.mapM_cons,Sem.run_bind,hsz,Result.andThen_ok,Sem.run_pure,ih,h1]
theorem run_build {t:TypeId} {pl:List (Nat × Nat)} {zero:List Value} (h:oN P t pl zero) {parts:Array (Nat × Value)} {cs:List Value}
  (hf:vN pl zero (parts.toList.map fun x=>(x.1,x.2.cells.toList))=some cs) (w:World):(Instr.build t parts).run P w=.ok (.agg cs.toArray) w:=by
 obtain ⟨fs,i,z,h1,h2,h3,h4,h5⟩:=h.parts
 have hm:=TN (P:=P) w fs.toList pl h5
 have hm':(fs.mapM (fun f=>(do pure (f.offset,← sizeOf f.type):Sem (Nat × Nat)))).run P w=.ok pl.toArray w:=by
  rw [Array.mapM_eq_mapM_toList]
  simp only [map_eq_pure_bind,Sem.run_bind,hm,Result.andThen_ok,Sem.run_pure]
 have LP:=fill_eq (fun i=>pl.toArray[i]?) pl (fun i q hq=>by simpa using hq) parts.toList _ zero cs rfl hf
 simp only [Instr.build,zeroValue,Sem.run_bind,Ar h2,h3,Result.andThen_ok,Sem.run_pure,h4,mE h1,hm',LP]
/-- The parts of a built value, out of the slots. -/
def pts (T:List (Nat × Value)):List (Nat × Operand)→Option (List (Nat × Value))
 | []=>some []
 | (i,x) :: q=>match ev T x,pts T q with|some v,some vs=>some ((i,v) :: vs)|_,_=>none
theorem St.pts (H:St N D w0 F G0 G L T a w):∀ {xs:List (Nat × Operand)} {vs:List (Nat × Value)},Proofs.YthichnnlceeofaaGreat.pts T xs=some vs→xs.map (fun x=>(x.1,a.eval x.2))=vs
 | [],vs,hx=>by simp [Proofs.YthichnnlceeofaaGreat.pts] at hx;subst hx;rfl
 | (i,x) :: xs,vs,hx=>by
  unfold Proofs.YthichnnlceeofaaGreat.pts at hx
  split at hx
  ·rename_i v vs' h1 h2
   simp only [Option.some.injEq] at hx
   subst hx
   rw [List.map_cons,H.ev h1,H.pts h2]
  ·cases hx
theorem iP {t:TypeId} {pl:List (Nat × Nat)} {zero:List Value} (ht:oN P t pl zero) {xs:List (Nat × Operand)} {vs:List (Nat × Value)} {vs':List (Nat × List Value)} (cs:List Value) (H:St N D w0 F G0 G L T a w) (hw:Region.wanted ⟨some d,.build t xs.toArray,ty,pos,aG,g⟩ (yielded ops a.tmps)=true)
  (hx:pts T xs=some vs) (hv:vs.map (fun x=>(x.1,x.2.cells.toList))=vs') (hf:vN pl zero vs'=some cs) (hd:Nat.blt d N=true)
  (k:∀ a',St N D w0 F G0 G L ((d,.agg cs.toArray) :: T) a' w→WL r P ops Q rest a' w):WL r P ops Q (⟨some d,.build t xs.toArray,ty,pos,aG,g⟩ :: rest) a w:=by
 refine eT (v:=.agg cs.toArray) (w':=w) hw rfl ?_ (k _ (H.put hd _ H.hp))
 have h1:=run_build ht (parts:=(vs.toArray)) (cs:=cs) (by simpa [hv] using hf) w
 simp only [execOp,List.map_toArray,H.pts hx,Sem.run_bind,h1,Result.andThen_ok,Sem.run_pure]
theorem fM {t e:TypeId} {sz bytes:Nat} {zero:List Value} {agg:Bool} (hs:P.underlying t=some (.slice e)) (ht:Ty P e sz bytes zero agg) {n:Nat} {xs:List (Nat × Operand)} {vs:List (Nat × Value)} {vs':List (Nat × List Value)} (z:List Value) (cs:List Value) (H:St N D w0 F G0 G L T a w) (hw:Region.wanted ⟨some d,.buildSlice t n xs.toArray,ty,pos,aG,g⟩ (yielded ops a.tmps)=true)
  (hx:pts T xs=some vs) (hv:vs.map (fun x=>(x.1,x.2.cells.toList))=vs') (hn:Nat.ble (n*sz) 1000=true) (hn0:Nat.beq (n*sz) 0=false) (hz:(List.range (n*sz)).map (fun i=>zero[i % zero.length]!)=z) (hpl:∀ i q,((List.range n).map fun i=>(i*sz,sz))[i]?=some q→(some (i*sz,sz):Option (Nat × Nat))=some q)
  (hf:vN ((List.range n).map fun i=>(i*sz,sz)) z vs'=some cs) (hd:Nat.blt d N=true)
  (k:∀ b a' w',w0.heap.size≤b→St N D w0 F G0 G ((b,.cells cs.toArray e (0,0)) :: L) ((d,.slice (some ⟨b,0,none⟩) n n) :: T) a' w'→WL r P ops Q rest a' w'):WL r P ops Q (⟨some d,.buildSlice t n xs.toArray,ty,pos,aG,g⟩ :: rest) a w:=by
 refine eT (v:=.slice (some ⟨w.heap.size,0,none⟩) n n) (w':=w.alloc (.cells cs.toArray e (0,0))) hw rfl ?_ (k _ _ _ H.hp.size (H.put hd _ (H.hp.alloc _)))
 obtain ⟨z0,hz0,hzc⟩:=ht.TQ w
 have h16:¬ n*sz > 2 ^ 24:=by have:=Nat.le_of_ble_eq_true hn;simp;omega
 have h0:¬ n*sz=0:=by intro e;rw [e] at hn0;cases hn0
 have LP:=fill_eq (fun i=>some (i*sz,sz)) _ hpl vs vs' z cs hv hf
 have hz':(Array.range (n*sz)).map (fun x=>zero.toArray[x % zero.toArray.size]!)=z.toArray:=by
  rw [← hz];apply Array.ext';simp
 simp only [execOp,List.map_toArray,H.pts hx,Instr.buildSlice,Sem.run_bind,mE hs,Result.andThen_ok,ht.ze,if_neg h16,if_neg h0,hz0,hzc,Sem.run_pure,hz',LP,newRow,newObj,Sem.run]
 rfl
/-! ### arithmetic -/
theorem EF {z:Int} (h1:-9223372036854775808≤z) (h2:z < 9223372036854775808):IntKind.i64.wrap z=z:=by
 unfold IntKind.wrap
 have e:(2:Int) ^ 64=18446744073709551616:=by decide
 have e':(2:Int) ^ (64 - 1)=9223372036854775808:=by decide
 simp only [IntKind.bits,IntKind.signed,Bool.true_and,e,e',decide_eq_true_eq]
 split <;> omega
theorem Iq {x y:Operand} {t yt:TypeId} {p q:Int} (z:Int) (H:St N D w0 F G0 G L T a w) (hw:Region.wanted ⟨some d,.binOp .add t x y yt,ty,pos,aG,g⟩ (yielded ops a.tmps)=true) (hx:ev T x=some (.int .i64 p)) (hy:ev T y=some (.int .i64 q)) (hz:p+q=z) (h1:-9223372036854775808≤z) (h2:z < 9223372036854775808) (hd:Nat.blt d N=true)
  (k:∀ a',St N D w0 F G0 G L ((d,.int .i64 z) :: T) a' w→WL r P ops Q rest a' w):WL r P ops Q (⟨some d,.binOp .add t x y yt,ty,pos,aG,g⟩ :: rest) a w :=
 eT (v:=.int .i64 z) (w':=w) hw rfl (by simp [execOp,eqGuard,binOp,Op.intArith,H.ev hx,H.ev hy,Sem.run_bind,hz,EF h1 h2]) (k _ (H.put hd _ H.hp))
theorem nk {x y:Operand} {t yt:TypeId} {p q:Int} (z:Int) (H:St N D w0 F G0 G L T a w) (hw:Region.wanted ⟨some d,.binOp .sub t x y yt,ty,pos,aG,g⟩ (yielded ops a.tmps)=true) (hx:ev T x=some (.int .i64 p)) (hy:ev T y=some (.int .i64 q)) (hz:p - q=z) (h1:-9223372036854775808≤z) (h2:z < 9223372036854775808) (hd:Nat.blt d N=true)
  (k:∀ a',St N D w0 F G0 G L ((d,.int .i64 z) :: T) a' w→WL r P ops Q rest a' w):WL r P ops Q (⟨some d,.binOp .sub t x y yt,ty,pos,aG,g⟩ :: rest) a w :=
 eT (v:=.int .i64 z) (w':=w) hw rfl (by simp [execOp,eqGuard,binOp,Op.intArith,H.ev hx,H.ev hy,Sem.run_bind,hz,EF h1 h2]) (k _ (H.put hd _ H.hp))
def DF:BinOp→Int→Int→Option Bool
 | .eql,x,y=>some (decide (x=y))
 | .neq,x,y=>some (decide (¬ x=y))
 | .lss,x,y=>some (decide (x < y))
 | .leq,x,y=>some (decide (x≤y))
 | .gtr,x,y=>some (decide (y < x))
 | .geq,x,y=>some (decide (y≤x))
 | _,_,_=>none
theorem adS {op:BinOp} {kd:IntKind} {x y:Int} {b:Bool} (h:DF op x y=some b) (t:TypeId) (X Y:Operand) (w:World):(do eqGuard op t X Y (.int kd x) (.int kd y);binOp op t (.int kd x) (.int kd y):Sem Value).run P w=.ok (.bool b) w:=by
 cases op <;> simp only [DF,Option.some.injEq,reduceCtorEq] at h <;> subst h <;> simp [eqGuard,binOp,Op.intCmp,Sem.run_bind]
 ·rfl
 ·rfl
theorem Iw {op:BinOp} {x y:Operand} {t yt:TypeId} {kd:IntKind} {p q:Int} {b:Bool} (H:St N D w0 F G0 G L T a w) (hw:Region.wanted ⟨some d,.binOp op t x y yt,ty,pos,aG,g⟩ (yielded ops a.tmps)=true) (hx:ev T x=some (.int kd p)) (hy:ev T y=some (.int kd q)) (hb:DF op p q=some b) (hd:Nat.blt d N=true)
  (k:∀ a',St N D w0 F G0 G L ((d,.bool b) :: T) a' w→WL r P ops Q rest a' w):WL r P ops Q (⟨some d,.binOp op t x y yt,ty,pos,aG,g⟩ :: rest) a w:=by
 refine eT (v:=.bool b) (w':=w) hw rfl ?_ (k _ (H.put hd _ H.hp))
 have h1:=adS (P:=P) (kd:=kd) hb t x y w
 simp only [execOp,H.ev hx,H.ev hy]
 rw [Sem.run_bind,h1]
 rfl
theorem TW {x:Operand} {t:TypeId} {b:Bool} (H:St N D w0 F G0 G L T a w) (hw:Region.wanted ⟨some d,.unOp .not t x,ty,pos,aG,g⟩ (yielded ops a.tmps)=true) (hx:ev T x=some (.bool b)) (hd:Nat.blt d N=true)
  (k:∀ a',St N D w0 F G0 G L ((d,.bool (!b)) :: T) a' w→WL r P ops Q rest a' w):WL r P ops Q (⟨some d,.unOp .not t x,ty,pos,aG,g⟩ :: rest) a w :=
 eT (v:=.bool (!b)) (w':=w) hw rfl (by simp [execOp,Op.unary,H.ev hx,Sem.run_bind]) (k _ (H.put hd _ H.hp))
/-! ### bits, conversions, bytes of strings -/
def qx (op:BinOp) (k:IntKind) (x y:Int):Int :=
 let a:=BitVec.ofInt k.bits x
 let b:=BitVec.ofInt k.bits y
 k.wrap (match op with|.and=>(a &&& b).toNat|.or=>(a ||| b).toNat|.xor=>(a ^^^ b).toNat|_=>(a &&& ~~~b).toNat)
theorem Iu {op:BinOp} {x y:Operand} {t yt:TypeId} {kd:IntKind} {p q:Int} (hop:(match op with|.and|.or|.xor|.andNot=>true|_=>false)=true) (H:St N D w0 F G0 G L T a w) (hw:Region.wanted ⟨some d,.binOp op t x y yt,ty,pos,aG,g⟩ (yielded ops a.tmps)=true) (hx:ev T x=some (.int kd p)) (hy:ev T y=some (.int kd q)) (hd:Nat.blt d N=true)
  (k:∀ a',St N D w0 F G0 G L ((d,.int kd (qx op kd p q)) :: T) a' w→WL r P ops Q rest a' w):WL r P ops Q (⟨some d,.binOp op t x y yt,ty,pos,aG,g⟩ :: rest) a w:=by
 refine eT (v:=.int kd (qx op kd p q)) (w':=w) hw rfl ?_ (k _ (H.put hd _ H.hp))
 cases op <;> simp only [Bool.false_eq_true] at hop <;> simp [execOp,eqGuard,binOp,Op.intBits,H.ev hx,H.ev hy,qx]
theorem aec {x y:Operand} {t yt:TypeId} {kd ky:IntKind} {p q:Int} (n:Nat) (H:St N D w0 F G0 G L T a w) (hw:Region.wanted ⟨some d,.binOp .shl t x y yt,ty,pos,aG,g⟩ (yielded ops a.tmps)=true) (hx:ev T x=some (.int kd p)) (hy:ev T y=some (.int ky q)) (hq:q=(n:Int)) (hn:n≤kd.bits) (hd:Nat.blt d N=true)
  (k:∀ a',St N D w0 F G0 G L ((d,.int kd (kd.wrap (p*2 ^ n))) :: T) a' w→WL r P ops Q rest a' w):WL r P ops Q (⟨some d,.binOp .shl t x y yt,ty,pos,aG,g⟩ :: rest) a w:=by
 subst hq
 refine eT (v:=.int kd (kd.wrap (p*2 ^ n))) (w':=w) hw rfl ?_ (k _ (H.put hd _ H.hp))
 have h0:¬ ((n:Int) < 0):=by omega
 have h1:min n kd.bits=n:=by omega
 simp [execOp,eqGuard,binOp,Op.shift,H.ev hx,H.ev hy,h0,h1]
theorem TY {x y:Operand} {t yt:TypeId} {kd ky:IntKind} {p q:Int} (n:Nat) (H:St N D w0 F G0 G L T a w) (hw:Region.wanted ⟨some d,.binOp .shr t x y yt,ty,pos,aG,g⟩ (yielded ops a.tmps)=true) (hx:ev T x=some (.int kd p)) (hy:ev T y=some (.int ky q)) (hq:q=(n:Int)) (hn:n≤kd.bits) (hd:Nat.blt d N=true)
  (k:∀ a',St N D w0 F G0 G L ((d,.int kd (p.fdiv (2 ^ n))) :: T) a' w→WL r P ops Q rest a' w):WL r P ops Q (⟨some d,.binOp .shr t x y yt,ty,pos,aG,g⟩ :: rest) a w:=by
 subst hq
 refine eT (v:=.int kd (p.fdiv (2 ^ n))) (w':=w) hw rfl ?_ (k _ (H.put hd _ H.hp))
 have h0:¬ ((n:Int) < 0):=by omega
 have h1:min n kd.bits=n:=by omega
 simp [execOp,eqGuard,binOp,Op.shift,H.ev hx,H.ev hy,h0,h1]
theorem Cr {x:Operand} {t u:TypeId} {kd ks:IntKind} {p:Int} {su:TypeDesc} (z:Int) (hu:P.underlying u=some (.int kd)) (ht:P.underlying t=some su) (H:St N D w0 F G0 G L T a w) (hw:Region.wanted ⟨some d,.convert t u x,ty,pos,aG,g⟩ (yielded ops a.tmps)=true) (hx:ev T x=some (.int ks p)) (hz:kd.wrap p=z) (hd:Nat.blt d N=true)
  (k:∀ a',St N D w0 F G0 G L ((d,.int kd z) :: T) a' w→WL r P ops Q rest a' w):WL r P ops Q (⟨some d,.convert t u x,ty,pos,aG,g⟩ :: rest) a w:=by
 refine eT (v:=.int kd z) (w':=w) hw rfl ?_ (k _ (H.put hd _ H.hp))
 simp [execOp,convert,mE hu,mE ht,H.ev hx,Sem.run_bind,Conv.intToInt,hz]
theorem lC {x y:Operand} {t:TypeId} {s:ByteArray} {kd:IntKind} {z:Int} (i:Nat) (ht:P.underlying t=some .string) (H:St N D w0 F G0 G L T a w) (hw:Region.wanted ⟨some d,.index t x y,ty,pos,aG,g⟩ (yielded ops a.tmps)=true) (hx:ev T x=some (.string s)) (hy:ev T y=some (.int kd z)) (hz:z=(i:Int)) (hi:i < s.size) (hd:Nat.blt d N=true)
  (k:∀ a',St N D w0 F G0 G L ((d,.int .u8 (s[i].toNat:Int)) :: T) a' w→WL r P ops Q rest a' w):WL r P ops Q (⟨some d,.index t x y,ty,pos,aG,g⟩ :: rest) a w:=by
 subst hz
 refine eT (v:=.int .u8 (s[i].toNat:Int)) (w':=w) hw rfl ?_ (k _ (H.put hd _ H.hp))
 simp [execOp,Instr.index,asIntOf,mE ht,H.ev hx,H.ev hy,Sem.run_bind,hi]
/-! ### builtins -/
theorem TU {x:Operand} {t e:TypeId} {A:Option Addr} {n c:Nat} (hs:P.underlying t=some (.slice e)) (H:St N D w0 F G0 G L T a w) (hw:Region.wanted ⟨some d,.call { callee:=.builtin .len,args:=#[x],argTypes:=#[t] },ty,pos,aG,g⟩ (yielded ops a.tmps)=true) (hx:ev T x=some (.slice A n c)) (hd:Nat.blt d N=true)
  (k:∀ a',St N D w0 F G0 G L ((d,.int .i64 n) :: T) a' w→WL r P ops Q rest a' w):WL r P ops Q (⟨some d,.call { callee:=.builtin .len,args:=#[x],argTypes:=#[t] },ty,pos,aG,g⟩ :: rest) a w :=
 eT (v:=.int .i64 n) (w':=w) hw rfl (by simp [execOp,resolve,invoke,builtin,Builtin.len_,H.ev hx,Sem.run_bind,mE hs,goInt]) (k _ (H.put hd _ H.hp))
theorem Au {x:Operand} {t:TypeId} {s:ByteArray} (hs:P.underlying t=some .string) (H:St N D w0 F G0 G L T a w) (hw:Region.wanted ⟨some d,.call { callee:=.builtin .len,args:=#[x],argTypes:=#[t] },ty,pos,aG,g⟩ (yielded ops a.tmps)=true) (hx:ev T x=some (.string s)) (hd:Nat.blt d N=true)
  (k:∀ a',St N D w0 F G0 G L ((d,.int .i64 s.size) :: T) a' w→WL r P ops Q rest a' w):WL r P ops Q (⟨some d,.call { callee:=.builtin .len,args:=#[x],argTypes:=#[t] },ty,pos,aG,g⟩ :: rest) a w :=
 eT (v:=.int .i64 s.size) (w':=w) hw rfl (by simp [execOp,resolve,invoke,builtin,Builtin.len_,H.ev hx,Sem.run_bind,mE hs,goInt]) (k _ (H.put hd _ H.hp))
theorem Iz {x y:Operand} {t t':TypeId} {kd:IntKind} {p q:Int} (H:St N D w0 F G0 G L T a w) (hw:Region.wanted ⟨some d,.call { callee:=.builtin .max,args:=#[x,y],argTypes:=#[t,t'] },ty,pos,aG,g⟩ (yielded ops a.tmps)=true) (hx:ev T x=some (.int kd p)) (hy:ev T y=some (.int kd q)) (hd:Nat.blt d N=true)
  (k:∀ a',St N D w0 F G0 G L ((d,.int kd (max p q)) :: T) a' w→WL r P ops Q rest a' w):WL r P ops Q (⟨some d,.call { callee:=.builtin .max,args:=#[x,y],argTypes:=#[t,t'] },ty,pos,aG,g⟩ :: rest) a w:=by
 refine eT (v:=.int kd (max p q)) (w':=w) hw rfl ?_ (k _ (H.put hd _ H.hp))
 have e:(if q > p then q else p)=max p q:=by omega
 simp [execOp,resolve,invoke,builtin,Builtin.max_,Builtin.max2,H.ev hx,H.ev hy,Sem.run_bind,e]
theorem IB {x y:Operand} {t t':TypeId} {kd:IntKind} {p q:Int} (H:St N D w0 F G0 G L T a w) (hw:Region.wanted ⟨some d,.call { callee:=.builtin .min,args:=#[x,y],argTypes:=#[t,t'] },ty,pos,aG,g⟩ (yielded ops a.tmps)=true) (hx:ev T x=some (.int kd p)) (hy:ev T y=some (.int kd q)) (hd:Nat.blt d N=true)
  (k:∀ a',St N D w0 F G0 G L ((d,.int kd (min p q)) :: T) a' w→WL r P ops Q rest a' w):WL r P ops Q (⟨some d,.call { callee:=.builtin .min,args:=#[x,y],argTypes:=#[t,t'] },ty,pos,aG,g⟩ :: rest) a w:=by
 refine eT (v:=.int kd (min p q)) (w':=w) hw rfl ?_ (k _ (H.put hd _ H.hp))
 have e:(if q < p then q else p)=min p q:=by omega
 simp [execOp,resolve,invoke,builtin,Builtin.min_,Builtin.min2,H.ev hx,H.ev hy,Sem.run_bind,e]
/-! ### calls -/
/-- How a call ends that turns nothing that was there: a value, more that is read alone, and what is said of them. -/
def aU (w:World) (G:GH) (R:Value→GH→Prop):Ending→World→Prop:=fun e w'=>∃ v G',e=.returned v∧Below w.heap.size w w'∧Ext w.heap.size G G' w'∧R v G'
/-- What is read alone lies in memory. -/
def Hold (G:GH) (w:World):Prop:=∀ k o,G k=some o→w.heap[k]?=some o
theorem Hp.hold (h:Hp w0 F G0 G L w):Hold G w:=h.ro
theorem s_call {f:FuncId} {xs:List Operand} {vs:List Value} {ts:Array TypeId} {R:Value→GH→Prop} (en:∀ args w,(callFunc f args).run P w=.ok (.enter f args) w) (H:St N D w0 F G0 G L T a w) (hw:Region.wanted ⟨some d,.call { callee:=.value (.func f),args:=xs.toArray,argTypes:=ts },ty,pos,aG,g⟩ (yielded ops a.tmps)=true)
  (hx:evs T xs=some vs) (hc:Calls P f vs.toArray w (aU w G R)) (hd:Nat.blt d N=true)
  (k:∀ v G' a' w',R v G'→(∀ k o,G k=some o→G' k=some o)→St N D w0 F G0 G' L ((d,v) :: T) a' w'→WL r P ops Q rest a' w'):WL r P ops Q (⟨some d,.call { callee:=.value (.func f),args:=xs.toArray,argTypes:=ts },ty,pos,aG,g⟩ :: rest) a w:=by
 refine NP (nx:=.ok (.enter f vs.toArray) w) (R:=aU w G R) hw rfl ?_ hc ?_
 ·have h1:=H.evs hx
  simp [execOp,resolve,Act.eval,Deferred.ofValue,invoke,Sem.run_bind,h1,en]
 ·rintro e w' ⟨v,G',rfl,hb,hX,hR⟩
  exact ⟨v,rfl,k v G' _ w' hR hX.1 (H.put hd v (H.hp.OY hb hX))⟩
/-! ## Rules for code -/
theorem aQ {x y:Code} (h:∀ K:Act→World→Prop,(∀ a w,WP r P y Q a w→K a w)→WP r P x (Exit.then K Q) a w):WP r P (.seq x y) Q a w:=wpIn_seq_k h
theorem mP {id:Nat} {l:List Oper} (h:WL r P l.toArray Q l a w):WP r P (.region id l.toArray false) Q a w:=wpIn_region_lit h
theorem aY {id:Nat} {l:List Oper} {y:Code} (h:∀ K:Act→World→Prop,(∀ a w,WP r P y Q a w→WL r P l.toArray (Exit.then K Q) [] a w)→WL r P l.toArray (Exit.then K Q) l a w):WP r P (.seq (.region id l.toArray false) y) Q a w:=aQ fun K hK=>mP (h K fun a w h=>au (hK a w h))
theorem eX (h:Q .normal a w):WP r P .skip Q a w:=wpIn_skip h
theorem aR (h:Q .ret a w):WP r P .ret Q a w:=wpIn_ret h
theorem dL {id:Nat} (h:Q (.exit id) a w):WP r P (.exit id) Q a w:=wpIn_exit h
theorem lZ {id:Nat} {c:Code} (h:WP r P c (Exit.inBlock id Q) a w):WP r P (.block id c) Q a w:=wpIn_block h
theorem l6 {c:Operand} {x y:Code} {b:Bool} (H:St N D w0 F G0 G L T a w) (hc:ev T c=some (.bool b)) (h1:b=true→WP r P x Q a w) (h0:b=false→WP r P y Q a w):WP r P (.cond c x y) Q a w :=
 wpIn_cond_split (H.ev hc) h1 h0
theorem vG {c:Operand} {x y:Code} {b:Bool} (H:St N D w0 F G0 G L T a w) (hc:ev T c=some (.bool b)) (hb:b=true) (h1:WP r P x Q a w):WP r P (.cond c x y) Q a w :=
 wpIn_cond_true (by rw [H.ev hc,hb]) h1
theorem mO {c:Operand} {x y:Code} {b:Bool} (H:St N D w0 F G0 G L T a w) (hc:ev T c=some (.bool b)) (hb:b=false) (h1:WP r P y Q a w):WP r P (.cond c x y) Q a w :=
 wpIn_cond_false (by rw [H.ev hc,hb]) h1
/-- A loop: an invariant over a ghost state, and a measure of the ghost that each round lowers. -/
theorem O7 {ι:Type} {c:Code} (I:ι→Act→World→Prop) (m:ι→Nat) (i0:ι) (h0:I i0 a w)
  (round:∀ i a w,I i a w→WP r P c (Exit.then (fun a' w'=>∃ i',I i' a' w'∧m i' < m i) Q) a w):WP r P (.loop c) Q a w:=by
 intro b k cs hro hb hr
 have key:∀ j i a w,m i=j→I i a w →
   ∃ e a' w',Q e a' w'∧ArrivesIn (Machine.fenced P (FW r)) P (lone (b.atR a (.code c :: .inLoop c :: k)) cs w) b k cs e a' w':=by
  intro j
  induction j using Nat.strongRecOn with
  | _ j ih =>
   intro i a w hn hI
   obtain ⟨e,a₁,w₁,hq,harr⟩:=round i a w hI b (.inLoop c :: k) cs hro hb hr
   cases e with
   | normal =>
    obtain ⟨i',hI₁,hlt⟩:=hq
    obtain ⟨e₂,a₂,w₂,hq₂,harr₂⟩:=ih (m i') (hn ▸ hlt) i' a₁ w₁ rfl hI₁
    exact ⟨e₂,a₂,w₂,hq₂,.of_steps (StepsIn.trans harr (.one (fenced_calm hb hr rfl) stepR_inLoop)) harr₂⟩
   | exit id=>exact ⟨_,a₁,w₁,hq,.pass (x:=.inLoop c) rfl (fun _ _=>.inl (by simp)) harr⟩
   | goto l=>exact ⟨_,a₁,w₁,hq,.pass (x:=.inLoop c) rfl (fun _ _=>.inl (by simp)) harr⟩
   | ret=>exact ⟨_,a₁,w₁,hq,.pass (x:=.inLoop c) rfl (fun _ _=>.inl (by simp)) harr⟩
   | panic ch=>exact ⟨_,a₁,w₁,hq,.pass (x:=.inLoop c) rfl (fun _ _=>.inl (by simp)) harr⟩
   | outgrown=>exact ⟨_,a₁,w₁,hq,.pass (x:=.inLoop c) rfl (fun _ _=>.inl (by simp)) harr⟩
 obtain ⟨e,a',w',hq,harr⟩:=key _ i0 a w rfl h0
 exact ⟨e,a',w',hq,.of_steps (.one (fenced_calm hb hr rfl) stepR_loop) harr⟩
/-- A loop over states: slots, blocks and what is read alone, each a function of the ghost; some slots and blocks stay as they are. -/
theorem d9 {ι:Type} {c:Code} {Tc:List (Nat × Value)} {Lc:List (Nat × Obj)} (Tv:ι→List (Nat × Value)) (Lv:ι→List (Nat × Obj)) (Gv:ι→GH) (Pr:ι→Prop) (m:ι→Nat) (i0:ι)
  (H:St N D w0 F G0 (Gv i0) (Lc++Lv i0) (Tv i0++Tc) a w) (hP:Pr i0)
  (round:∀ i a w,Pr i→St N D w0 F G0 (Gv i) (Lc++Lv i) (Tv i++Tc) a w →
   WP r P c (Exit.then (fun a' w'=>∃ i',(St N D w0 F G0 (Gv i') (Lc++Lv i') (Tv i'++Tc) a' w'∧Pr i')∧m i' < m i) Q) a w):WP r P (.loop c) Q a w :=
 O7 (fun i a w=>St N D w0 F G0 (Gv i) (Lc++Lv i) (Tv i++Tc) a w∧Pr i) m i0 ⟨H,hP⟩ fun i a w hI=>round i a w hI.2 hI.1
/-- Paths that meet again. -/
theorem qW {ι:Type} {x y:Code} {Tc:List (Nat × Value)} {Lc Lr:List (Nat × Obj)} {Gh:GH} (Tv:ι→List (Nat × Value)) (Lv:ι→List (Nat × Obj)) (Gv:ι→GH) (Pr:ι→Prop)
  (_:St N D w0 F G0 Gh (Lc++Lr) Tc a w) (h1:WP r P x (Exit.then (fun a w=>∃ i,St N D w0 F G0 (Gv i) (Lc++Lv i) (Tv i++Tc) a w∧Pr i) Q) a w)
  (h2:∀ i a w,Pr i→St N D w0 F G0 (Gv i) (Lc++Lv i) (Tv i++Tc) a w→WP r P y Q a w):WP r P (.seq x y) Q a w :=
 wpIn_seq (wpIn_mono h1 fun e a w h=>by
  cases e with
  | normal=>obtain ⟨i,H,hP⟩:=h;exact h2 i a w hP H
  | _=>exact h)
theorem dD {ι:Type} {Tc:List (Nat × Value)} {Lc:List (Nat × Obj)} {Tv:ι→List (Nat × Value)} {Lv:ι→List (Nat × Obj)} {Gv:ι→GH} {Pr:ι→Prop} {m:ι→Nat} {i:ι} (i':ι)
  (H:St N D w0 F G0 (Gv i') (Lc++Lv i') (Tv i'++Tc) a w) (hP:Pr i') (hm:m i' < m i) :
  ∃ i',(St N D w0 F G0 (Gv i') (Lc++Lv i') (Tv i'++Tc) a w∧Pr i')∧m i' < m i:=⟨i',⟨H,hP⟩,hm⟩
/-! ## How a function is entered and left -/
def zL:Nat→List Value→List (Nat × Value)
 | _,[]=>[]
 | i,v :: vs=>(i,v) :: zL (i+1) vs
/-- A function with a body is entered. -/
theorem enters {f:FuncId} {fn:Func} {c:Code} (hf:P.funcs[f]?=some fn) (hb:fn.body=some c) (hname:(fn.name == "runtime.NumGoroutine")=false) (args:Array Value) (w:World):(callFunc f args).run P w=.ok (.enter f args) w:=by
 have h1:fn.name ≠ "runtime.NumGoroutine":=by simpa using hname
 simp [callFunc,hf,h1,hb,mark]
/-- The state at a function's door: the arguments lie in the first slots; the call owns L; of what was there nothing but L may turn. -/
theorem enter {f:FuncId} {fn:Func} {c:Code} {vs:List Value} {R:Ending→World→Prop} (hf:P.funcs[f]?=some fn) (hb:fn.body=some c) (hN:fn.ntmps=N) (hle:Nat.ble vs.length N=true)
  (hT:zL 0 vs=T) (hG:Hold G w) (hF:∀ k,F k→k < w.heap.size) (hL:∀ p∈L,w.heap[p.1]?=some p.2) (hLG:∀ p∈L,G p.1=none) (hLF:∀ p∈L,¬ F p.1) (hnd:L.Pairwise fun p q=>p.1≠q.1)
  (h:∀ a,St N [] w F G G L T a w→WP none P c (bodyPostM (FW none) 0 P fn R) a w):Calls P f vs.toArray w R:=by
 refine Ww (r:=none) (n:=0) (callsIn_of_wp_marks hf hb trivial (h _ ⟨?_,?_,rfl,⟨rfl,rfl,rfl,Nat.le_refl _,hF,fun _ _=>rfl,hG,fun _ _ h=>h,fun _ _ h=>.inl h,hL,hLG,hLF,hnd⟩⟩) rfl)
 ·have:=Nat.le_of_ble_eq_true hle
  simp [hN];omega
 ·intro t v ht
  have hlen:t < vs.length∧vs[t]?=some v:=by
   subst hT
   have key:∀ (vs:List Value) (s:Nat),lk (zL s vs) t=some v→s≤t∧vs[t - s]?=some v:=by
    intro vs
    induction vs with
    | nil=>intro s h;simp [zL,lk] at h
    | cons u vs ih =>
     intro s h
     simp only [zL] at h
     by_cases e:s=t
     ·subst e;rw [rW] at h;simpa using h
     ·rw [pY e] at h
      obtain ⟨h1,h2⟩:=ih (s+1) h
      refine ⟨by omega,?_⟩
      have:t - s=(t - (s+1))+1:=by omega
      rw [this];simpa using h2
   have:=key vs 0 ht
   simp only [Nat.zero_le,Nat.sub_zero,true_and] at this
   exact ⟨(List.getElem?_eq_some_iff.1 this).1,this⟩
  rw [Array.getElem?_append_left (by simpa using hlen.1)]
  simpa using hlen.2
/-- What a result variable is read as. -/
def Co (tmps:Array Value):ResultVar→Sem Value
 | .tmp t=>pure (tmps.getD t undef)
 | .cell a t=>do loadVar t (← asAddr (tmps.getD a undef))
def RV (P:Program) (w:World) (tmps:Array Value) (rv:ResultVar) (v:Value):Prop:=(Co tmps rv).run P w=.ok v w
theorem aF (H:St N D w0 F G0 G L T a w) {t:Nat} {v:Value} (h:lk T t=some v):RV P w a.tmps (.tmp t) v:=by
 have:=H.ev (x:=.tmp t) h
 simp only [Act.eval] at this
 simp [RV,Co,this]
theorem uQ {t:TypeId} {sz bytes:Nat} {zero:List Value} (ht:Ty P t sz bytes zero true) (H:St N D w0 F G0 G L T a w) {s b o:Nat} {cs:List Value} (h:lk T s=some (.pointer (some ⟨b,o,none⟩))) (hl:cs.length=sz) (hc:∀ j v,cs[j]?=some v→w.cell? ⟨b,o+j,none⟩=some v) :
  RV P w a.tmps (.cell s t) (.agg cs.toArray):=by
 have:=H.ev (x:=.tmp s) h
 simp only [Act.eval] at this
 have h1:=run_loadCells (P:=P) b w cs o 0 #[] (fun j v hj=>by simpa using hc j v hj)
 simp only [Array.empty_append,hl] at h1
 simp [RV,Co,this,asAddr,loadVar,Sem.run_bind,ht.Ip,ht.ze,loadCells,h1]
theorem kR {t:TypeId} {sz bytes:Nat} {zero:List Value} (ht:Ty P t sz bytes zero false) (H:St N D w0 F G0 G L T a w) {s b o:Nat} {v:Value} (h:lk T s=some (.pointer (some ⟨b,o,none⟩))) (hc:w.cell? ⟨b,o,none⟩=some v) :
  RV P w a.tmps (.cell s t) v:=by
 have:=H.ev (x:=.tmp s) h
 simp only [Act.eval] at this
 simp only [RV,Co,this,asAddr,loadVar,Sem.run_bind,ht.Ip,Result.andThen_ok,Sem.run_pure,Bool.false_eq_true,if_false,Nj hc]
inductive yF (P:Program) (w:World) (tmps:Array Value):List ResultVar→List Value→Prop
 | nil:yF P w tmps [] []
 | cons {rv rs v vs}:RV P w tmps rv v→yF P w tmps rs vs→yF P w tmps (rv :: rs) (v :: vs)
def M0:List Value→Value
 | [v]=>v
 | vs=>.tuple vs.toArray
theorem adU {fn:Func} {rs:List ResultVar} {vs:List Value} {tmps:Array Value} (hr:fn.results=rs.toArray) (h:yF P w tmps rs vs):(results fn tmps).run P w=.ok (M0 vs) w:=by
 have hm:∀ {rs:List ResultVar} {vs:List Value},yF P w tmps rs vs→(rs.mapM (Co tmps)).run P w=.ok vs w:=by
  intro rs vs h
  induction h with
  | nil=>simp
  | cons h1 _ ih =>
   unfold RV at h1
   simp only [List.mapM_cons,Sem.run_bind,h1,Result.andThen_ok,ih,Sem.run_pure]
 have hm':=hm h
 have hres:results fn tmps=(do let vs ← fn.results.mapM (Co tmps);pure (if h:vs.size=1 then vs[0] else .tuple vs)):=rfl
 rw [hres,hr,Array.mapM_eq_mapM_toList]
 simp only [map_eq_pure_bind,Sem.run_bind,hm',Result.andThen_ok,Sem.run_pure]
 match vs with
 | []=>rfl
 | [v]=>rfl
 | v :: u :: vs=>simp [M0]
theorem leave {fn:Func} {rs:List ResultVar} {vs:List Value} {R:Ending→World→Prop} (v:Value) (H:St N [] w0 F G0 G L T a w) (hr:fn.results=rs.toArray) (h:yF P w a.tmps rs vs) (hv:M0 vs=v) (hR:R (.returned v) w) :
  bodyPostM (FW none) 0 P fn R .ret a w∧bodyPostM (FW none) 0 P fn R .normal a w:=by
 subst hv
 have h1:LeavesInM (FW none) 0 P fn a.tmps R a.defers .returning w:=by
  rw [H.nQ]
  exact ⟨_,adU hr h,hR⟩
 exact ⟨h1,h1⟩
theorem leave0 {fn:Func} {R:Ending→World→Prop} (H:St N [] w0 F G0 G L T a w) (hr:fn.results=#[]) (hR:R (.returned (.tuple #[])) w) :
  bodyPostM (FW none) 0 P fn R .ret a w∧bodyPostM (FW none) 0 P fn R .normal a w:=leave (rs:=[]) _ H hr .nil rfl hR
theorem leave1 {fn:Func} {rs:List ResultVar} {v:Value} {R:Ending→World→Prop} (H:St N [] w0 F G0 G L T a w) (hr:fn.results=rs.toArray) (h:yF P w a.tmps rs [v]) (hR:R (.returned v) w) :
  bodyPostM (FW none) 0 P fn R .ret a w∧bodyPostM (FW none) 0 P fn R .normal a w:=leave _ H hr h rfl hR
theorem bU {fn:Func} {rs:List ResultVar} {v u:Value} {vs:List Value} {R:Ending→World→Prop} (H:St N [] w0 F G0 G L T a w) (hr:fn.results=rs.toArray) (h:yF P w a.tmps rs (v :: u :: vs)) (hR:R (.returned (.tuple (v :: u :: vs).toArray)) w) :
  bodyPostM (FW none) 0 P fn R .ret a w∧bodyPostM (FW none) 0 P fn R .normal a w:=leave _ H hr h rfl hR
theorem Hp.ret {R:Value→GH→Prop} {v:Value} (h:Hp w0 (fun k=>k < w0.heap.size) G0 G L w) (hR:R v G):aU w0 G0 R (.returned v) w :=
 ⟨v,G,rfl,⟨h.os,h.tape,h.output,h.size,h.fr⟩,⟨h.gm,fun k o hk=>(h.gx k o hk).imp id (fun hn=>Nat.le_of_not_lt hn),h.ro⟩,hR⟩
end steps
end
section
open Go.RowKit
abbrev OL:=List (Nat × Obj)
/-- G is read alone, L is owned; both lie in memory, apart. -/
structure gT (G:GH) (L:OL) (w:World):Prop where
 ro:Hold G w
 own:∀ p∈L,w.heap[p.1]?=some p.2
 sep:∀ p∈L,G p.1=none
 nd:L.Pairwise fun p q=>p.1≠q.1
/-- What a call does that was lent L and gives back L'. -/
structure Change (w w':World) (G G':GH) (L L':OL):Prop where
 os:w'.os=w.os
 tape:w'.tape=w.tape
 output:w'.output=w.output
 size:w.heap.size≤w'.heap.size
 fr:∀ k,k < w.heap.size→(∀ p∈L,p.1≠k)→w'.heap[k]?=w.heap[k]?
 gm:∀ k o,G k=some o→G' k=some o
 gx:∀ k o,G' k=some o→G k=some o∨w.heap.size≤k∨∃ p∈L,p.1=k
 owns:gT G' L' w'
 lx:∀ p∈L',w.heap.size≤p.1∨∃ q∈L,q.1=p.1
/-- What may not turn: what lay there when the call began, but for the blocks L0. -/
def Fr (w:World) (L0:OL):Nat→Prop:=fun k=>k < w.heap.size∧∀ p∈L0,p.1≠k
section
variable {N:Nat} {D:List Deferred} {w0 w w':World} {F:Nat→Prop} {G0 G G':GH} {L L' Li L0:OL} {T:List (Nat × Value)} {a:Act}
theorem Hp.owns (h:Hp w0 F G0 G (Li++L) w):gT G L w :=
 ⟨h.ro,fun p hp=>h.own p (List.mem_append_right _ hp),fun p hp=>h.o9 p (List.mem_append_right _ hp),(List.pairwise_append.1 h.nd).2.1⟩
theorem Hp.change (h:Hp w0 F G0 G (Li++L) w) (hc:Change w w' G G' L L'):Hp w0 F G0 G' (Li++L') w':=by
 have hnd:=List.pairwise_append.1 h.nd
 have KO:∀ k,F k→k < w.heap.size:=fun k hk=>Nat.lt_of_lt_of_le (h.pO k hk) h.size
 have BH:∀ p∈Li,p.1 < w.heap.size∧∀ q∈L,q.1≠p.1:=fun p hp=>⟨lt_of_heap (h.own p (List.mem_append_left _ hp)),fun q hq e=>hnd.2.2 p hp q hq e.symm⟩
 refine ⟨hc.os.trans h.os,hc.tape.trans h.tape,hc.output.trans h.output,Nat.le_trans h.size hc.size,h.pO,fun k hk=>?_,hc.owns.ro,fun k o hk=>hc.gm k o (h.gm k o hk),fun k o hk=>?_,fun p hp=>?_,fun p hp=>?_,fun p hp=>?_,?_⟩
 ·exact (hc.fr k (KO k hk) fun p hp e=>h.oG p (List.mem_append_right _ hp) (e ▸ hk)).trans (h.fr k hk)
 ·rcases hc.gx k o hk with hk|hk|⟨p,hp,rfl⟩
  ·exact h.gx k o hk
  ·exact .inr fun hf=>absurd (KO k hf) (by omega)
  ·exact .inr (h.oG p (List.mem_append_right _ hp))
 ·rcases List.mem_append.1 hp with hp|hp
  ·exact (hc.fr _ (BH p hp).1 (BH p hp).2).trans (h.own p (List.mem_append_left _ hp))
  ·exact hc.owns.own p hp
 ·rcases List.mem_append.1 hp with hp|hp
  ·cases hg:G' p.1 with
   | none=>rfl
   | some o =>
    rcases hc.gx _ o hg with hk|hk|⟨q,hq,e⟩
    ·rw [h.o9 p (List.mem_append_left _ hp)] at hk;cases hk
    ·exact absurd (BH p hp).1 (by omega)
    ·exact absurd e ((BH p hp).2 q hq)
  ·exact hc.owns.sep p hp
 ·rcases List.mem_append.1 hp with hp|hp
  ·exact h.oG p (List.mem_append_left _ hp)
  ·rcases hc.lx p hp with hk|⟨q,hq,e⟩
   ·exact fun hf=>absurd (KO _ hf) (by omega)
   ·exact e ▸ h.oG q (List.mem_append_right _ hq)
 ·refine List.pairwise_append.2 ⟨hnd.1,hc.owns.nd,fun p hp q hq e=>?_⟩
  rcases hc.lx q hq with hk|⟨q',hq',e'⟩
  ·have:=(BH p hp).1;omega
  ·exact (BH p hp).2 q' hq' (e'.trans e.symm)
theorem Hp.Uo (h:Hp w0 (Fr w0 L0) G0 G L w):Change w0 w G0 G L0 L:=by
 have hn:∀ k,¬ Fr w0 L0 k→w0.heap.size≤k∨∃ p∈L0,p.1=k:=by
  intro k hk
  by_cases hlt:k < w0.heap.size
  ·right
   apply Classical.byContradiction
   intro hno
   exact hk ⟨hlt,fun p hp e=>hno ⟨p,hp,e⟩⟩
  ·exact .inl (by omega)
 exact ⟨h.os,h.tape,h.output,h.size,fun k h1 h2=>h.fr k ⟨h1,h2⟩,h.gm,fun k o hk=>(h.gx k o hk).imp id (hn k),⟨h.ro,h.own,h.o9,h.nd⟩,fun p hp=>hn _ (h.oG p hp)⟩
theorem gT.hp (h:gT G L w):Hp w (Fr w L) G G L w :=
 ⟨rfl,rfl,rfl,Nat.le_refl _,fun _ hk=>hk.1,fun _ _=>rfl,h.ro,fun _ _ h=>h,fun _ _ h=>.inl h,h.own,h.sep,fun p hp hf=>hf.2 p hp rfl,h.nd⟩
theorem Change.trans {w2:World} {G2:GH} {L2:OL} (h1:Change w w' G G' L L') (h2:Change w' w2 G' G2 L' L2) (hG:Hold G w) (hL:∀ p∈L,p.1 < w.heap.size):Change w w2 G G2 L L2:=by
 refine ⟨h2.os.trans h1.os,h2.tape.trans h1.tape,h2.output.trans h1.output,Nat.le_trans h1.size h2.size,fun k hk hn=>?_,fun k o hk=>h2.gm k o (h1.gm k o hk),fun k o hk=>?_,h2.owns,fun p hp=>?_⟩
 ·refine (h2.fr k (Nat.lt_of_lt_of_le hk h1.size) fun p hp e=>?_).trans (h1.fr k hk hn)
  rcases h1.lx p hp with hk'|⟨q,hq,e'⟩
  ·omega
  ·exact hn q hq (e'.trans e)
 ·rcases h2.gx k o hk with hk|hk|⟨p,hp,rfl⟩
  ·exact h1.gx k o hk
  ·exact .inr (.inl (Nat.le_trans h1.size hk))
  ·rcases h1.lx p hp with hk'|⟨q,hq,e'⟩
   ·exact .inr (.inl hk')
   ·exact .inr (.inr ⟨q,hq,e'⟩)
 ·rcases h2.lx p hp with hk|⟨q,hq,e⟩
  ·exact .inl (Nat.le_trans h1.size hk)
  ·rcases h1.lx q hq with hk'|⟨q',hq',e'⟩
   ·exact .inl (e ▸ hk')
   ·exact .inr ⟨q',hq',e'.trans e⟩
theorem Hp.perm (h:Hp w0 F G0 G L w) (hp:L.Perm L'):Hp w0 F G0 G L' w :=
 ⟨h.os,h.tape,h.output,h.size,h.pO,h.fr,h.ro,h.gm,h.gx,fun p hq=>h.own p (hp.mem_iff.2 hq),fun p hq=>h.o9 p (hp.mem_iff.2 hq),fun p hq=>h.oG p (hp.mem_iff.2 hq),(hp.pairwise_iff (fun {x y} (h:x.1≠y.1) e=>h e.symm)).1 h.nd⟩
theorem St.perm (h:St N D w0 F G0 G L T a w) (hp:L.Perm L'):St N D w0 F G0 G L' T a w:=⟨h.jP,h.get,h.nQ,h.hp.perm hp⟩
/-- A call that was lent L. -/
def fQ (w:World) (G:GH) (L:OL) (R:Value→GH→OL→Prop):Ending→World→Prop:=fun e w'=>∃ v G' L',e=.returned v∧Change w w' G G' L L'∧R v G' L'
theorem Hp.eG {R:Value→GH→OL→Prop} {v:Value} (h:Hp w0 (Fr w0 L0) G0 G L w) (hR:R v G L):fQ w0 G0 L0 R (.returned v) w:=⟨v,G,L,rfl,h.Uo,hR⟩
end
section steps
variable {N:Nat} {D:List Deferred} {w0:World} {F:Nat→Prop} {G0 G:GH} {L Li L0:OL} {T:List (Nat × Value)}
variable {r:Option Nat} {P:Program} {ops:Array Oper} {Q:Exit→Act→World→Prop} {rest:List Oper} {a:Act} {w:World}
variable {d:Nat} {ty:TypeId} {pos:String} {aG:Array Edge} {g:Option (Nat × Bool)}
theorem jI {f:FuncId} {caps args:List Value} {R:Ending→World→Prop} (en:∀ args w,(callFunc f args).run P w=.ok (.enter f args) w) (h:Calls P f (args++caps).toArray w R):qU P (.func (.func f) #[] caps.toArray) args w R:=by
 refine ⟨?_⟩
 have e:(do let d ← Deferred.ofValue (.func (.func f) #[] caps.toArray) args.toArray;invoke d.target d.args:Sem Next).run P w=.ok (.enter f (args++caps).toArray) w:=by
  simp [Deferred.ofValue,Sem.run_bind,invoke,en]
 rw [e]
 exact h
theorem sG {x:Operand} {fv:Value} {xs:List Operand} {vs:List Value} {ts:Array TypeId} {R:Value→GH→OL→Prop} (H:St N D w0 F G0 G (Li++L) T a w) (hw:Region.wanted ⟨some d,.call { callee:=.value x,args:=xs.toArray,argTypes:=ts },ty,pos,aG,g⟩ (yielded ops a.tmps)=true)
  (hf:ev T x=some fv) (hx:evs T xs=some vs) (hc:qU P fv vs w (fQ w G L R)) (hd:Nat.blt d N=true)
  (k:∀ v G' L' a' w',R v G' L'→(∀ k o,G k=some o→G' k=some o)→St N D w0 F G0 G' (Li++L') ((d,v) :: T) a' w'→WL r P ops Q rest a' w'):WL r P ops Q (⟨some d,.call { callee:=.value x,args:=xs.toArray,argTypes:=ts },ty,pos,aG,g⟩ :: rest) a w:=by
 refine NP (nx:=_) (R:=fQ w G L R) hw rfl rfl ?_ ?_
 ·have h1:=H.evs hx
  have e:(execOp a.eval ⟨some d,.call { callee:=.value x,args:=xs.toArray,argTypes:=ts },ty,pos,aG,g⟩)=(do let d ← Deferred.ofValue fv vs.toArray;invoke d.target d.args:Sem Next):=by
   simp only [execOp,resolve,H.ev hf,List.map_toArray,h1]
  rw [e]
  exact hc.go
 ·rintro e w' ⟨v,G',L',rfl,hb,hR⟩
  exact ⟨v,rfl,k v G' L' _ w' hR hb.gm (H.put hd v (H.hp.change hb))⟩
theorem gy {f:FuncId} {xs:List Operand} {vs:List Value} {ts:Array TypeId} {R:Value→GH→OL→Prop} (en:∀ args w,(callFunc f args).run P w=.ok (.enter f args) w) (H:St N D w0 F G0 G (Li++L) T a w) (hw:Region.wanted ⟨some d,.call { callee:=.value (.func f),args:=xs.toArray,argTypes:=ts },ty,pos,aG,g⟩ (yielded ops a.tmps)=true)
  (hx:evs T xs=some vs) (hc:Calls P f vs.toArray w (fQ w G L R)) (hd:Nat.blt d N=true)
  (k:∀ v G' L' a' w',R v G' L'→(∀ k o,G k=some o→G' k=some o)→St N D w0 F G0 G' (Li++L') ((d,v) :: T) a' w'→WL r P ops Q rest a' w'):WL r P ops Q (⟨some d,.call { callee:=.value (.func f),args:=xs.toArray,argTypes:=ts },ty,pos,aG,g⟩ :: rest) a w:=by
 refine sG (fv:=.func (.func f) #[] #[]) H hw rfl hx ?_ hd k
 have h:=jI (caps:=[]) (args:=vs) en (by simpa using hc)
 exact h
/-! ## Function values that are called back -/
/-- What a call's arguments are. -/
abbrev AP:=List Value→GH→Prop
def qR (xs:List AP) (k:Nat) (args:List Value) (g:GH):Prop:=∃ p,xs[k]?=some p∧p args g
/-- Called at the k-th of the arguments xs, from a state that J k admits, fv hands back a truth value; at 'true' J (k + 1) holds, at 'false' Jx. -/
def yh (P:Program) (fv:Value) (Gi:GH) (xs:List AP) (J:Nat→GH→OL→Prop) (Jx:GH→OL→Prop):Prop :=
 ∀ k args G L w,qR xs k args G→(∀ b o,Gi b=some o→G b=some o)→J k G L→gT G L w →
  qU P fv args w (fQ w G L fun v G' L'=>∃ b,v=.bool b∧(b=true→J (k+1) G' L')∧(b=false→Jx G' L'))
def zD (J:Nat→GH→OL→Prop):Prop:=∀ k (G G':GH) L,(∀ b o,G b=some o→G' b=some o)→J k G L→J k G' L
def zJ (J:GH→OL→Prop):Prop:=∀ (G G':GH) L,(∀ b o,G b=some o→G' b=some o)→J G L→J G' L
/-- gv is a function that calls what it is handed at each of xs in turn, till it says no. -/
def Iter (P:Program) (Gi:GH) (gv:Value) (xs:List AP):Prop :=
 ∀ (J:Nat→GH→OL→Prop) (Jx:GH→OL→Prop) (fv:Value) (G:GH) (L:OL) (w:World),fv.cells=#[fv]→(∀ b o,Gi b=some o→G b=some o)→zD J→zJ Jx→J 0 G L→gT G L w→yh P fv G xs J Jx →
  qU P gv [fv] w (fQ w G L fun _ G' L'=>J xs.length G' L'∨Jx G' L')
theorem Iter.mono {Gi yu:GH} {gv:Value} {xs:List AP} (h:Iter P Gi gv xs) (hm:∀ b o,Gi b=some o→yu b=some o):Iter P yu gv xs :=
 fun J Jx fv G L w h0 h1=>h J Jx fv G L w h0 fun b o hb=>h1 b o (hm b o hb)
/-! ## Ranges over functions -/
/-- The loop's variables take what yield was handed. -/
def lY:List Nat→List Value→List (Nat × Value)→List (Nat × Value)
 | p :: ps,v :: vs,T=>lY ps vs ((p,v) :: T)
 | _,_,T=>T
theorem Uk:∀ (ps:List Nat) (vs:List Value) (T:List (Nat × Value)) (tm:Array Value),tm.size=N→(∀ t v,lk T t=some v→tm[t]?=some v)→ps.all (Nat.blt · N)=true →
  ((ps.zip vs).foldl (fun t (x:Nat × Value)=>t.setIfInBounds x.1 x.2) tm).size=N∧∀ t v,lk (lY ps vs T) t=some v→((ps.zip vs).foldl (fun t (x:Nat × Value)=>t.setIfInBounds x.1 x.2) tm)[t]?=some v
 | [],_,T,tm,h1,h2,_=>⟨h1,by simpa [lY] using h2⟩
 | p :: ps,[],T,tm,h1,h2,_=>⟨h1,by simpa [lY] using h2⟩
 | p :: ps,v :: vs,T,tm,h1,h2,h3=>by
  simp only [List.all_cons,Bool.and_eq_true] at h3
  have hp:p < tm.size:=by rw [h1];exact Eq.mp Nat.blt_eq h3.1
  simp only [List.zip_cons_cons,List.foldl_cons,lY]
  refine Uk ps vs _ _ (by simpa using h1) (fun t u ht=>?_) h3.2
  rw [Array.getElem?_setIfInBounds]
  by_cases e:p=t
  ·subst e;rw [rW] at ht;simp [hp];simpa using ht
  ·rw [pY e] at ht;simp [e];exact h2 t u ht
/-- A loop's record. -/
structure Rec where
 fn:FuncId
 tmps:Array Value
 params:Array Tmp
 assign:Code
 body:Code
 defers:Nat
def Rec.at (q:Rec) (s:LoopState) (p:Option Code):Obj:=.loop { state:=s,pending:=p,fn:=q.fn,tmps:=q.tmps,params:=q.params,assign:=q.assign,body:=q.body,defers:=q.defers }
/-- What a round owes. -/
def NT (w1:World) (G:GH) (L:OL) (Jn:GH→OL→Prop) (Jx:GH→OL→Prop):Ending→World→Prop:=fQ w1 G L fun v G' L'=>∃ b,v=.bool b∧(b=true→Jn G' L')∧(b=false→Jx G' L')
theorem zq {b:Nat} {o:Obj} (o':Obj) (h:w.heap[b]?=some o):qo b o' w (w.putObj b o') :=
 ⟨rfl,rfl,rfl,World.putObj_size,World.putObj_heap_same (lt_of_heap h),fun _ hk=>World.putObj_heap_other hk⟩
theorem O4 {l:Nat} {q:Rec} {c:Code} {R:Ending→World→Prop} (H:St N D w0 F G0 G ((l,q.at .ready none) :: L) T a w)
  (k:∀ w',St N D w0 F G0 G ((l,q.at .busy none) :: L) T a w'→WP (some l) P c (roundPost P l R) a w') :
  ∃ w₂,(Instr.beginRound l).run P w=.ok () w₂∧c.wpIn (FW (some l)) 0 P (roundPost P l R) a w₂:=by
 have hl:=H.hp.own _ (List.mem_cons_self)
 refine ⟨_,run_beginRound hl rfl,k _ (H.move ?_)⟩
 exact H.hp.upd (i:=0) rfl (zq _ hl)
theorem Cm {l:Nat} {q:Rec} {w1:World} {G1:GH} {L1:OL} {Jn Jx:GH→OL→Prop} (jump:Option Code) (H:St N D w1 (Fr w1 L1) G1 G ((l,q.at .busy none) :: L) T a w)
  (h:match jump with|none=>Jn G ((l,q.at .ready none) :: L)|some c=>Jx G ((l,q.at .done (some c)) :: L)) :
  ∃ v w',(Instr.endRound l jump).run P w=.ok v w'∧NT w1 G1 L1 Jn Jx (.returned v) w':=by
 have hl:=H.hp.own _ (List.mem_cons_self)
 refine ⟨_,_,run_endRound jump hl,?_⟩
 cases jump with
 | none=>exact Hp.eG (H.hp.upd (i:=0) rfl (zq _ hl)) ⟨true,rfl,fun _=>h,fun e=>by cases e⟩
 | some c=>exact Hp.eG (H.hp.upd (i:=0) rfl (zq _ hl)) ⟨false,rfl,fun e=>(by cases e),fun _=>h⟩
def Jr (l:Nat) (q:Rec) (bk:OL) (J:GH→OL→Prop):GH→OL→Prop:=fun G L=>∃ Lu,L=(l,q.at .ready none) :: (bk++Lu)∧J G Lu
def Fv (l:Nat) (q:Rec) (bk:OL) (Jx:Code→GH→OL→Prop):GH→OL→Prop:=fun G L=>∃ c Lu,L=(l,q.at .done (some c)) :: (bk++Lu)∧Jx c G Lu
/-- A round: the loop's left sides are assigned, the record turns busy, the body is walked. -/
def Jq (P:Program) (N:Nat) (ps:List Nat) (assign body:Code) (T:List (Nat × Value)) (G:GH) (J:Nat→GH→OL→Prop) (Jx:Code→GH→OL→Prop) (xs:List AP):Prop :=
 ∀ (l:Nat) (q:Rec) (bk:OL) (k:Nat) (args:List Value) (G1:GH) (L1:OL) (w1:World) (a1:Act),qR xs k args G1→(∀ b o,G b=some o→G1 b=some o)→J k G1 L1 →
  St N [] w1 (Fr w1 ((l,q.at .ready none) :: (bk++L1))) G1 G1 ((l,q.at .ready none) :: (bk++L1)) (lY ps args T) a1 w1 →
  WP (some l) P assign (Exit.then (fun a2 w2=>∃ w3,(Instr.beginRound l).run P w2=.ok () w3∧body.wpIn (FW (some l)) 0 P (roundPost P l (NT w1 G1 ((l,q.at .ready none) :: (bk++L1)) (Jr l q bk (J (k+1))) (Fv l q bk Jx))) a2 w3) (fun _ _ _=>False)) a1 w1
theorem O8 {fn:FuncId} {tm:Array Value} {ps:List Nat} {assign body:Code} {df l:Nat} {bk:OL} {J:Nat→GH→OL→Prop} {Jx:Code→GH→OL→Prop} {xs:List AP} (h1:tm.size=N) (h2:∀ t v,lk T t=some v→tm[t]?=some v)
  (hps:ps.all (Nat.blt · N)=true) (hlen:∀ k args g,qR xs k args g→args.length=ps.length) (hr:Jq P N ps assign body T G J Jx xs) :
  yh P (.func (.yield l) #[] #[]) G xs (fun k=>Jr l ⟨fn,tm,ps.toArray,assign,body,df⟩ bk (J k)) (Fv l ⟨fn,tm,ps.toArray,assign,body,df⟩ bk Jx):=by
 intro k args G1 L1 w1 hk hm hJ ho
 obtain ⟨Lu,rfl,hJ⟩:=hJ
 have hl:=ho.own _ (List.mem_cons_self)
 have hargs:args.toArray.size=ps.toArray.size:=by simpa using hlen k args _ hk
 have hy:=run_yield (P:=P) (args:=args.toArray) hl hargs
 have hz:(ps.toArray.zip args.toArray).foldl (fun tmps (x:Nat × Value)=>tmps.setIfInBounds x.1 x.2) tm=(ps.zip args).foldl (fun t (x:Nat × Value)=>t.setIfInBounds x.1 x.2) tm:=by
  simp [List.zip_toArray]
 obtain ⟨z1,z2⟩:=Uk ps args T tm h1 h2 hps
 refine ⟨?_⟩
 have e:(do let d ← Deferred.ofValue (.func (.yield l) #[] #[]) args.toArray;invoke d.target d.args:Sem Next).run P w1=.ok (.round l fn ((ps.zip args).foldl (fun t (x:Nat × Value)=>t.setIfInBounds x.1 x.2) tm) assign body) w1:=by
  simp only [Deferred.ofValue,pure_bind,invoke,Array.empty_append]
  rw [← hz]
  exact hy
 rw [e]
 refine roundIn_of_wpIn (F:=FW none) trivial ?_
 exact hr l _ bk k args G1 Lu w1 { tmps:=_,defers:=[] } hk hm hJ ⟨z1,z2,rfl,ho.hp⟩
theorem Wt {tY:Operand} {ps:List Nat} {assign body:Code} {gf:FuncId} {caps:List Value} {xs:List AP} {Gi:GH}
  (H:St N D w0 F G0 G L T a w) (hg:ev T tY=some (.func (.func gf) #[] caps.toArray)) (en:∀ args w,(callFunc gf args).run P w=.ok (.enter gf args) w) (hit:Iter P Gi (.func (.func gf) #[] caps.toArray) xs) (hGi:∀ b o,Gi b=some o→G b=some o)
  (hps:ps.all (Nat.blt · N)=true) (hlen:∀ k args g,qR xs k args g→args.length=ps.length)
  (J:Nat→GH→OL→Prop) (Jx:Code→GH→OL→Prop) (jw:zD J) (hJx:∀ c,zJ (Jx c)) (h0:J 0 G L) (Mq:Jq P N ps assign body T G J Jx xs)
  (hdone:∀ Dk G1 L1 a1 w1,(∀ b o,G b=some o→G1 b=some o)→J xs.length G1 L1→St N ({ target:=.collected Dk,args:=#[] } :: D) w0 F G0 G1 ((Dk,.deferred (some [])) :: L1) T a1 w1→Q .normal a1 w1)
  (hstop:∀ Dk c G1 L1 a1 w1,(∀ b o,G b=some o→G1 b=some o)→Jx c G1 L1→St N ({ target:=.collected Dk,args:=#[] } :: D) w0 F G0 G1 ((Dk,.deferred (some [])) :: L1) T a1 w1→WP none P c Q a1 w1) :
  WP none P (.rangeFunc tY ps.toArray assign body) Q a w:=by
 refine wpIn_rangeFunc ?_
 intro fn _
 have hev:=H.ev hg
 let q:Rec:=⟨fn,a.tmps,ps.toArray,assign,body,w.heap.size⟩
 obtain ⟨W1,hW1⟩:∃ W1,W1=(w.alloc (.deferred (some []))).alloc (q.at .ready none):=⟨_,rfl⟩
 have H1:Hp w0 F G0 G ((w.heap.size+1,q.at .ready none) :: (w.heap.size,.deferred (some [])) :: L) W1:=by
  have:=(H.hp.alloc (.deferred (some []))).alloc (q.at .ready none)
  rw [World.size_alloc] at this
  rw [hW1];exact this
 refine ⟨w.heap.size+1,[{ target:=.collected w.heap.size,args:=#[] }],W1,{ target:=.fn (.func gf) caps.toArray,args:=#[.func (.yield (w.heap.size+1)) #[] #[]] },W1,gf,
  #[.func (.yield (w.heap.size+1)) #[] #[]]++caps.toArray,W1,by rw [hW1];exact run_enterLoop_outer fn a.tmps ps.toArray assign body,?_,fun _ _=>trivial,?_,Fp none,?_⟩
 ·simp only [resolve,rangeCall,hev]
  simp [Deferred.ofValue,Act.eval]
 ·simp [invoke,en]
 ·have hcv:=hit (fun k=>Jr (w.heap.size+1) q [(w.heap.size,.deferred (some []))] (J k)) (Fv (w.heap.size+1) q [(w.heap.size,.deferred (some []))] Jx) (.func (.yield (w.heap.size+1)) #[] #[]) G
   ((w.heap.size+1,q.at .ready none) :: (w.heap.size,.deferred (some [])) :: L) W1 rfl hGi (fun k G G' L hm ⟨Lu,e,h⟩=>⟨Lu,e,jw k G G' Lu hm h⟩) (fun G G' L hm ⟨c,Lu,e,h⟩=>⟨c,Lu,e,hJx c G G' Lu hm h⟩) ⟨L,rfl,h0⟩ (Hp.owns (Li:=[]) H1) (O8 H.jP H.get hps hlen Mq)
  replace hcv:=hcv.go
  have e:(do let d ← Deferred.ofValue (.func (.func gf) #[] caps.toArray) [Value.func (.yield (w.heap.size+1)) #[] #[]].toArray;invoke d.target d.args:Sem Next).run P W1=.ok (.enter gf (#[.func (.yield (w.heap.size+1)) #[] #[]]++caps.toArray)) W1:=by
   simp [Deferred.ofValue,invoke,en]
  rw [e] at hcv
  refine (JC hcv).mono ?_
  rintro e w2 ⟨v,G2,L2,rfl,hch,hJ⟩
  have H2:=Hp.change (Li:=[]) H1 hch
  rcases hJ with ⟨Lu,rfl,hJ⟩|⟨c,Lu,rfl,hJ⟩
  ·have hl:=H2.own _ (List.mem_cons_self)
   have H3:=(H2.upd (i:=0) rfl (zq (q.at .exhausted none) hl)).drop (List.sublist_cons_self _ _)
   exact ⟨none,_,run_endLoop hl (by simp),hdone _ G2 Lu _ _ hch.gm hJ ⟨H.jP,H.get,by simp [H.nQ],H3⟩⟩
  ·have hl:=H2.own _ (List.mem_cons_self)
   have H3:=(H2.upd (i:=0) rfl (zq (q.at .exhausted (some c)) hl)).drop (List.sublist_cons_self _ _)
   exact ⟨some c,_,run_endLoop hl (by simp),hstop _ c G2 Lu _ _ hch.gm hJ ⟨H.jP,H.get,by simp [H.nQ],H3⟩⟩
theorem oo {fn:Func} {R:Ending→World→Prop} {b:Nat} (H:St N ({ target:=.collected b,args:=#[] } :: D) w0 F G0 G L T a w) (i:Nat) (hi:L[i]?=some (b,.deferred (some [])))
  (k:∀ a' w',St N D w0 F G0 G (L.eraseIdx i) T a' w'→bodyPostM (FW none) 0 P fn R .ret a' w'):bodyPostM (FW none) 0 P fn R .ret a w∧bodyPostM (FW none) 0 P fn R .normal a w:=by
 have hb:=H.hp.own _ (List.mem_of_getElem? hi)
 have H2:=(H.hp.upd hi (zq (.deferred none) hb)).drop (L':=L.eraseIdx i) (by
  have h1:(L.set i (b,.deferred none)).eraseIdx i=L.eraseIdx i:=by
   apply List.ext_getElem?
   intro j
   simp only [List.getElem?_eraseIdx,List.getElem?_set]
   split <;> split <;> first|rfl|omega
  rw [← h1];exact List.eraseIdx_sublist _ _)
 have hk:=k { a with defers:=D } _ ⟨H.jP,H.get,rfl,H2⟩
 have h1:LeavesInM (FW none) 0 P fn a.tmps R a.defers .returning w:=by
  rw [H.nQ]
  exact ⟨by simp,.inl ⟨b,_,rfl,run_takeDeferred hb,hk⟩⟩
 exact ⟨h1,h1⟩
theorem St.giveUp {b:Nat} {o:Obj} (h:St N D w0 F G0 G L T a w) (i:Nat) (hi:L[i]?=some (b,o)):St N D w0 F G0 (G.add b o) (L.eraseIdx i) T a w:=⟨h.jP,h.get,h.nQ,h.hp.giveUp i hi⟩
theorem St.QJ {b:Nat} {o:Obj} (h:St N D w0 F G0 G L T a w) (i:Nat) (hi:L[i]?=some (b,o)):G b=none:=h.hp.o9 _ (List.mem_of_getElem? hi)
/-- The door of a function that was lent blocks. -/
theorem jv {f:FuncId} {fn:Func} {c:Code} {vs:List Value} {R:Ending→World→Prop} (hf:P.funcs[f]?=some fn) (hb:fn.body=some c) (hN:fn.ntmps=N) (hle:Nat.ble vs.length N=true)
  (hT:zL 0 vs=T) (ho:gT G L w) (h:∀ a,St N [] w (Fr w L) G G L T a w→WP none P c (bodyPostM (FW none) 0 P fn R) a w):Calls P f vs.toArray w R :=
 enter hf hb hN hle hT ho.ro (fun _ hk=>hk.1) ho.own ho.sep (fun p hp hf=>hf.2 p hp rfl) ho.nd h
end steps
end
section
open Go.RowKit
inductive Dat where
 | lf (v:Value)
 | sl (sz:Nat) (rows:List (List Dat))
mutual
def ah (G:GH):Dat→Value→Prop
 | .lf u,v=>v=u∧Value.oneCell' u=true
 | .sl sz rows,v=>∃ A c,v=.slice A rows.length c∧rows.length≤c∧c≤maxLen∧(rows≠[]→∃ b o,A=some ⟨b,o,none⟩∧jH G sz b o rows)
def jH (G:GH) (sz b:Nat):Nat→List (List Dat)→Prop
 | _,[]=>True
 | o,r :: rs=>(∃ cs,cs.length=sz∧(∀ j v,cs[j]?=some v→aB G b (o+j)=some v)∧aO G r cs)∧jH G sz b (o+sz) rs
def aO (G:GH):List Dat→List Value→Prop
 | [],cs=>cs=[]
 | d :: ds,cs=>∃ v vs,cs=v :: vs∧ah G d v∧aO G ds vs
end
theorem aD {G G':GH} (hm:∀ k o,G k=some o→G' k=some o) {b o:Nat} {v:Value} (h:aB G b o=some v):aB G' b o=some v:=by
 unfold aB at h ⊢
 cases hg:G b with
 | none=>rw [hg] at h;cases h
 | some ob=>rw [hg] at h;rw [hm b ob hg];exact h
mutual
theorem ah.mono {G G':GH} (hm:∀ k o,G k=some o→G' k=some o):∀ {d:Dat} {v:Value},ah G d v→ah G' d v
 | .lf u,v,h=>by simpa [ah] using h
 | .sl sz rows,v,h=>by
  simp only [ah] at h ⊢
  obtain ⟨A,c,h1,h2,h3,h4⟩:=h
  exact ⟨A,c,h1,h2,h3,fun hn=>let ⟨b,o,e,hr⟩:=h4 hn;⟨b,o,e,jH.mono hm hr⟩⟩
theorem jH.mono {G G':GH} (hm:∀ k o,G k=some o→G' k=some o) {sz b:Nat}:∀ {rows:List (List Dat)} {o:Nat},jH G sz b o rows→jH G' sz b o rows
 | [],o,_=>by simp [jH]
 | r :: rs,o,h=>by
  simp only [jH] at h ⊢
  obtain ⟨⟨cs,h1,h2,h3⟩,h4⟩:=h
  exact ⟨⟨cs,h1,fun j v hj=>aD hm (h2 j v hj),aO.mono hm h3⟩,jH.mono hm h4⟩
theorem aO.mono {G G':GH} (hm:∀ k o,G k=some o→G' k=some o):∀ {ds:List Dat} {cs:List Value},aO G ds cs→aO G' ds cs
 | [],cs,h=>by simpa [aO] using h
 | d :: ds,cs,h=>by
  simp only [aO] at h ⊢
  obtain ⟨v,vs,h1,h2,h3⟩:=h
  exact ⟨v,vs,h1,ah.mono hm h2,aO.mono hm h3⟩
end
theorem jH.get {G:GH} {sz b:Nat}:∀ {rows:List (List Dat)} {o k:Nat} {r:List Dat},jH G sz b o rows→rows[k]?=some r→∃ cs,cs.length=sz∧(∀ j v,cs[j]?=some v→aB G b (o+k*sz+j)=some v)∧aO G r cs
 | [],_,_,_,_,h=>by simp at h
 | r :: rs,o,0,q,h,hk=>by
  simp only [List.getElem?_cons_zero,Option.some.injEq] at hk
  subst hk
  simp only [jH] at h
  simpa using h.1
 | r :: rs,o,k+1,q,h,hk=>by
  simp only [List.getElem?_cons_succ] at hk
  simp only [jH] at h
  obtain ⟨cs,h1,h2,h3⟩:=jH.get h.2 hk
  exact ⟨cs,h1,fun j v hj=>by rw [← h2 j v hj];congr 1;rw [Nat.succ_mul];omega,h3⟩
/-- A slice that reads as rows: its shape, and the row at an index. -/
theorem ah.slice {G:GH} {sz:Nat} {rows:List (List Dat)} {v:Value} (h:ah G (.sl sz rows) v):∃ A c,v=.slice A rows.length c∧rows.length≤c∧c≤maxLen ∧
  ∀ k r,rows[k]?=some r→∃ b o cs,A=some ⟨b,o,none⟩∧cs.length=sz∧(∀ j u,cs[j]?=some u→aB G b (o+k*sz+j)=some u)∧aO G r cs:=by
 simp only [ah] at h
 obtain ⟨A,c,h1,h2,h3,h4⟩:=h
 refine ⟨A,c,h1,h2,h3,fun k r hk=>?_⟩
 obtain ⟨b,o,e,hr⟩:=h4 (by rintro rfl;simp at hk)
 obtain ⟨cs,g1,g2,g3⟩:=hr.get hk
 exact ⟨b,o,cs,e,g1,g2,g3⟩
theorem jH.mk {G:GH} {sz b:Nat}:∀ {rows:List (List Dat)} {o:Nat},(∀ k r,rows[k]?=some r→∃ cs,cs.length=sz∧(∀ j u,cs[j]?=some u→aB G b (o+k*sz+j)=some u)∧aO G r cs)→jH G sz b o rows
 | [],o,_=>by simp [jH]
 | r :: rs,o,h=>by
  simp only [jH]
  refine ⟨by simpa using h 0 r rfl,jH.mk fun k q hk=>?_⟩
  obtain ⟨cs,h1,h2,h3⟩:=h (k+1) q (by simpa using hk)
  exact ⟨cs,h1,fun j v hj=>by rw [← h2 j v hj];congr 1;rw [Nat.succ_mul];omega,h3⟩
/-! ## The documents' types -/
abbrev vi (n:Int):Value:=.int .i64 n
structure iC where
 key:Int
 value:Int
structure jm where
 rev:Int
 move:Int
structure iW where
 rev:Int
 key:Int
 before:Int
 had:Bool
structure sJ where
 ins:Int
 move:Int
 bK:List jm
 layers:List iW
structure gW where
 props:List iC
 marks:sJ
mutual
inductive aj where
 | mk (kind code id:Int) (text:ByteArray) (head:gW) (flow:List aj) (rows:List aN)
inductive aN where
 | mk (head:gW) (cells:List aJ)
inductive aJ where
 | mk (id:Int) (head:gW) (flow:List aj)
end
namespace aj
def kind:aj→Int|.mk k _ _ _ _ _ _=>k
def code:aj→Int|.mk _ c _ _ _ _ _=>c
def id:aj→Int|.mk _ _ i _ _ _ _=>i
def text:aj→ByteArray|.mk _ _ _ t _ _ _=>t
def head:aj→gW|.mk _ _ _ _ h _ _=>h
def flow:aj→List aj|.mk _ _ _ _ _ f _=>f
def rows:aj→List aN|.mk _ _ _ _ _ _ r=>r
end aj
namespace aN
def head:aN→gW|.mk h _=>h
def cells:aN→List aJ|.mk _ c=>c
end aN
namespace aJ
def id:aJ→Int|.mk i _ _=>i
def head:aJ→gW|.mk _ h _=>h
def flow:aJ→List aj|.mk _ _ f=>f
end aJ
abbrev li (n:Int):Dat:=.lf (.int .i64 n)
def iC.dat (p:iC):List Dat:=[li p.key,li p.value]
def jm.dat (p:jm):List Dat:=[li p.rev,li p.move]
def iW.dat (p:iW):List Dat:=[li p.rev,li p.key,li p.before,.lf (.bool p.had)]
def sJ.dat (m:sJ):List Dat:=[li m.ins,li m.move,.sl 2 (m.bK.map jm.dat),.sl 4 (m.layers.map iW.dat)]
def gW.dat (h:gW):List Dat:=.sl 2 (h.props.map iC.dat) :: h.marks.dat
mutual
def aj.dat:aj→List Dat
 | .mk k c i t h f r=>li k :: li c :: li i :: .lf (.string t) :: (h.dat++[.sl 11 (Bn f),.sl 6 (DK r)])
def aN.dat:aN→List Dat
 | .mk h cs=>h.dat++[.sl 7 (DJ cs)]
def aJ.dat:aJ→List Dat
 | .mk i h f=>li i :: (h.dat++[.sl 11 (Bn f)])
def Bn:List aj→List (List Dat)
 | []=>[]
 | x :: r=>x.dat :: Bn r
def DK:List aN→List (List Dat)
 | []=>[]
 | x :: r=>x.dat :: DK r
def DJ:List aJ→List (List Dat)
 | []=>[]
 | x :: r=>x.dat :: DJ r
end
theorem JR:∀ l:List aj,Bn l=l.map aj.dat
 | []=>by simp [Bn]
 | x :: r=>by simp [Bn,JR r]
theorem Pz:∀ l:List aN,DK l=l.map aN.dat
 | []=>by simp [DK]
 | x :: r=>by simp [DK,Pz r]
theorem Py:∀ l:List aJ,DJ l=l.map aJ.dat
 | []=>by simp [DJ]
 | x :: r=>by simp [DJ,Py r]
theorem aj.tN (x:aj):x.dat=li x.kind :: li x.code :: li x.id :: .lf (.string x.text) :: (x.head.dat++[.sl 11 (x.flow.map aj.dat),.sl 6 (x.rows.map aN.dat)]):=by
 cases x;simp [aj.dat,aj.kind,aj.code,aj.id,aj.text,aj.head,aj.flow,aj.rows,JR,Pz]
theorem aN.tN (x:aN):x.dat=x.head.dat++[.sl 7 (x.cells.map aJ.dat)]:=by
 cases x;simp [aN.dat,aN.head,aN.cells,Py]
theorem aJ.tN (x:aJ):x.dat=li x.id :: (x.head.dat++[.sl 11 (x.flow.map aj.dat)]):=by
 cases x;simp [aJ.dat,aJ.id,aJ.head,aJ.flow,JR]
/-- The cells of a head, of an item, of a row, of a cell. -/
structure jq (G:GH) (x:gW) (p d l:Value):Prop where
 props:ah G (.sl 2 (x.props.map iC.dat)) p
 bK:ah G (.sl 2 (x.marks.bK.map jm.dat)) d
 layers:ah G (.sl 4 (x.marks.layers.map iW.dat)) l
theorem jq.mono {G G':GH} (hm:∀ k o,G k=some o→G' k=some o) {x:gW} {p d l:Value} (h:jq G x p d l):jq G' x p d l:=⟨h.props.mono hm,h.bK.mono hm,h.layers.mono hm⟩
theorem ah.form {G:GH} {sz:Nat} {rows:List (List Dat)} {v:Value} (h:ah G (.sl sz rows) v):∃ A n c,v=.slice A n c:=by
 obtain ⟨A,c,h,_⟩:=h.slice
 exact ⟨A,_,c,h⟩
theorem aO.item {G:GH} {x:aj} {cs:List Value} (h:aO G x.dat cs):∃ pA pn pc dA dn dc lA ln lc fA fn fc rA rn rc,cs=[vi x.kind,vi x.code,vi x.id,.string x.text,.slice pA pn pc,vi x.head.marks.ins,vi x.head.marks.move,.slice dA dn dc,.slice lA ln lc,.slice fA fn fc,.slice rA rn rc] ∧
  jq G x.head (.slice pA pn pc) (.slice dA dn dc) (.slice lA ln lc)∧ah G (.sl 11 (x.flow.map aj.dat)) (.slice fA fn fc)∧ah G (.sl 6 (x.rows.map aN.dat)) (.slice rA rn rc):=by
 rw [aj.tN] at h
 simp only [gW.dat,sJ.dat,List.cons_append,List.nil_append,aO] at h
 obtain ⟨v1,_,rfl,h1,v2,_,rfl,h2,v3,_,rfl,h3,v4,_,rfl,h4,p,_,rfl,hp,v5,_,rfl,h5,v6,_,rfl,h6,d,_,rfl,hd,l,_,rfl,hl,f,_,rfl,hf,r,_,rfl,hr,rfl⟩:=h
 obtain ⟨pA,pn,pc,rfl⟩:=hp.form
 obtain ⟨dA,dn,dc,rfl⟩:=hd.form
 obtain ⟨lA,ln,lc,rfl⟩:=hl.form
 obtain ⟨fA,fn,fc,rfl⟩:=hf.form
 obtain ⟨rA,rn,rc,rfl⟩:=hr.form
 simp only [ah] at h1 h2 h3 h4 h5 h6
 obtain ⟨rfl,-⟩:=h1;obtain ⟨rfl,-⟩:=h2;obtain ⟨rfl,-⟩:=h3;obtain ⟨rfl,-⟩:=h4;obtain ⟨rfl,-⟩:=h5;obtain ⟨rfl,-⟩:=h6
 exact ⟨pA,pn,pc,dA,dn,dc,lA,ln,lc,fA,fn,fc,rA,rn,rc,rfl,⟨hp,hd,hl⟩,hf,hr⟩
theorem aO.row {G:GH} {x:aN} {cs:List Value} (h:aO G x.dat cs):∃ pA pn pc dA dn dc lA ln lc cA cn cc,cs=[.slice pA pn pc,vi x.head.marks.ins,vi x.head.marks.move,.slice dA dn dc,.slice lA ln lc,.slice cA cn cc]∧jq G x.head (.slice pA pn pc) (.slice dA dn dc) (.slice lA ln lc)∧ah G (.sl 7 (x.cells.map aJ.dat)) (.slice cA cn cc):=by
 rw [aN.tN] at h
 simp only [gW.dat,sJ.dat,List.cons_append,List.nil_append,aO] at h
 obtain ⟨p,_,rfl,hp,v5,_,rfl,h5,v6,_,rfl,h6,d,_,rfl,hd,l,_,rfl,hl,f,_,rfl,hf,rfl⟩:=h
 obtain ⟨pA,pn,pc,rfl⟩:=hp.form
 obtain ⟨dA,dn,dc,rfl⟩:=hd.form
 obtain ⟨lA,ln,lc,rfl⟩:=hl.form
 obtain ⟨fA,fn,fc,rfl⟩:=hf.form
 simp only [ah] at h5 h6
 obtain ⟨rfl,-⟩:=h5;obtain ⟨rfl,-⟩:=h6
 exact ⟨pA,pn,pc,dA,dn,dc,lA,ln,lc,fA,fn,fc,rfl,⟨hp,hd,hl⟩,hf⟩
theorem aO.cell {G:GH} {x:aJ} {cs:List Value} (h:aO G x.dat cs):∃ pA pn pc dA dn dc lA ln lc fA fn fc,cs=[vi x.id,.slice pA pn pc,vi x.head.marks.ins,vi x.head.marks.move,.slice dA dn dc,.slice lA ln lc,.slice fA fn fc]∧jq G x.head (.slice pA pn pc) (.slice dA dn dc) (.slice lA ln lc)∧ah G (.sl 11 (x.flow.map aj.dat)) (.slice fA fn fc):=by
 rw [aJ.tN] at h
 simp only [gW.dat,sJ.dat,List.cons_append,List.nil_append,aO] at h
 obtain ⟨v1,_,rfl,h1,p,_,rfl,hp,v5,_,rfl,h5,v6,_,rfl,h6,d,_,rfl,hd,l,_,rfl,hl,f,_,rfl,hf,rfl⟩:=h
 obtain ⟨pA,pn,pc,rfl⟩:=hp.form
 obtain ⟨dA,dn,dc,rfl⟩:=hd.form
 obtain ⟨lA,ln,lc,rfl⟩:=hl.form
 obtain ⟨fA,fn,fc,rfl⟩:=hf.form
 simp only [ah] at h1 h5 h6
 obtain ⟨rfl,-⟩:=h1;obtain ⟨rfl,-⟩:=h5;obtain ⟨rfl,-⟩:=h6
 exact ⟨pA,pn,pc,dA,dn,dc,lA,ln,lc,fA,fn,fc,rfl,⟨hp,hd,hl⟩,hf⟩
theorem ah.one {G:GH}:∀ {d:Dat} {v:Value},ah G d v→Value.oneCell' v=true
 | .lf u,v,h=>by simp only [ah] at h;rw [h.1];exact h.2
 | .sl sz rows,v,h=>by obtain ⟨A,n,c,rfl⟩:=h.form;rfl
theorem aO.one {G:GH}:∀ {ds:List Dat} {cs:List Value},aO G ds cs→cs.all Value.oneCell'=true
 | [],cs,h=>by simp only [aO] at h;subst h;rfl
 | d :: ds,cs,h=>by
  simp only [aO] at h
  obtain ⟨v,vs,rfl,h1,h2⟩:=h
  simp only [List.all_cons,h1.one,h2.one,Bool.and_self]
theorem aO.length {G:GH}:∀ {ds:List Dat} {cs:List Value},aO G ds cs→cs.length=ds.length
 | [],cs,h=>by simp only [aO] at h;subst h;rfl
 | d :: ds,cs,h=>by
  simp only [aO] at h
  obtain ⟨v,vs,rfl,h1,h2⟩:=h
  simp [h2.length]
/-- And back: what reads as an item. -/
theorem aO.mkItem {G:GH} {x:aj} {p d l f r:Value} (hh:jq G x.head p d l) (hf:ah G (.sl 11 (x.flow.map aj.dat)) f) (hr:ah G (.sl 6 (x.rows.map aN.dat)) r) :
  aO G x.dat [vi x.kind,vi x.code,vi x.id,.string x.text,p,vi x.head.marks.ins,vi x.head.marks.move,d,l,f,r]:=by
 rw [aj.tN]
 simp only [gW.dat,sJ.dat,List.cons_append,List.nil_append,aO]
 exact ⟨_,_,rfl,by simp [ah,Value.oneCell'],_,_,rfl,by simp [ah,Value.oneCell'],_,_,rfl,by simp [ah,Value.oneCell'],_,_,rfl,by simp [ah,Value.oneCell'],_,_,rfl,hh.props,_,_,rfl,by simp [ah,Value.oneCell'],_,_,rfl,by simp [ah,Value.oneCell'],_,_,rfl,hh.bK,_,_,rfl,hh.layers,_,_,rfl,hf,_,_,rfl,hr,rfl⟩
theorem aO.SF {G:GH} {x:aN} {p d l c:Value} (hh:jq G x.head p d l) (hc:ah G (.sl 7 (x.cells.map aJ.dat)) c) :
  aO G x.dat [p,vi x.head.marks.ins,vi x.head.marks.move,d,l,c]:=by
 rw [aN.tN]
 simp only [gW.dat,sJ.dat,List.cons_append,List.nil_append,aO]
 exact ⟨_,_,rfl,hh.props,_,_,rfl,by simp [ah,Value.oneCell'],_,_,rfl,by simp [ah,Value.oneCell'],_,_,rfl,hh.bK,_,_,rfl,hh.layers,_,_,rfl,hc,rfl⟩
theorem aO.MV {G:GH} {x:aJ} {p d l f:Value} (hh:jq G x.head p d l) (hf:ah G (.sl 11 (x.flow.map aj.dat)) f) :
  aO G x.dat [vi x.id,p,vi x.head.marks.ins,vi x.head.marks.move,d,l,f]:=by
 rw [aJ.tN]
 simp only [gW.dat,sJ.dat,List.cons_append,List.nil_append,aO]
 exact ⟨_,_,rfl,by simp [ah,Value.oneCell'],_,_,rfl,hh.props,_,_,rfl,by simp [ah,Value.oneCell'],_,_,rfl,by simp [ah,Value.oneCell'],_,_,rfl,hh.bK,_,_,rfl,hh.layers,_,_,rfl,hf,rfl⟩
/-! ## How much there is -/
mutual
def mG:Dat→Nat
 | .lf v=>(match v with|.string s=>s.size|_=>0)+1
 | .sl _ rows=>1+dw rows
def dw:List (List Dat)→Nat
 | []=>0
 | r :: rs=>1+bP r+dw rs
def bP:List Dat→Nat
 | []=>0
 | d :: ds=>mG d+bP ds
end
theorem aeR (a b:List (List Dat)):dw (a++b)=dw a+dw b:=by
 induction a with
 | nil=>simp [dw]
 | cons x a ih=>simp only [List.cons_append,dw,ih];omega
theorem ND (a b:List Dat):bP (a++b)=bP a+bP b:=by
 induction a with
 | nil=>simp [bP]
 | cons x a ih=>simp only [List.cons_append,bP,ih];omega
theorem pq:∀ rows:List (List Dat),rows.length≤dw rows
 | []=>Nat.le_refl _
 | r :: rs=>by have:=pq rs;simp only [List.length_cons,dw];omega
theorem IL:∀ {rows:List (List Dat)} {k:Nat} {r:List Dat},rows[k]?=some r→bP r < dw rows
 | [],_,_,h=>by simp at h
 | q :: rs,0,r,h=>by simp only [List.getElem?_cons_zero,Option.some.injEq] at h;subst h;simp only [dw];omega
 | q :: rs,k+1,r,h=>by have:=IL (rows:=rs) (k:=k) (r:=r) (by simpa using h);simp only [dw];omega
abbrev aS (l:List aj):Nat:=dw (l.map aj.dat)
abbrev fI (l:List aN):Nat:=dw (l.map aN.dat)
abbrev jg (l:List aJ):Nat:=dw (l.map aJ.dat)
abbrev nC (h:gW):Nat:=bP h.dat
theorem Fe (h:gW):nC h=dw (h.props.map iC.dat)+dw (h.marks.bK.map jm.dat)+dw (h.marks.layers.map iW.dat)+5:=by
 simp only [nC,gW.dat,sJ.dat,bP,mG];omega
theorem lF (x:aj):bP x.dat=x.text.size+nC x.head+aS x.flow+fI x.rows+6:=by
 rw [aj.tN];simp only [bP,mG,ND,nC,aS,fI,jg];omega
theorem tF (x:aN):bP x.dat=nC x.head+jg x.cells+1:=by
 rw [aN.tN];simp only [bP,mG,ND,nC,aS,fI,jg];omega
theorem u6 (x:aJ):bP x.dat=nC x.head+aS x.flow+2:=by
 rw [aJ.tN];simp only [bP,mG,ND,nC,aS,fI,jg];omega
theorem afH {l:List aj} {k:Nat} (h:k < l.length):l[k].text.size+nC l[k].head+aS l[k].flow+fI l[k].rows+6 < aS l:=by
 rw [← lF];exact IL (k:=k) (by simp [h])
theorem Fg {l:List aN} {k:Nat} (h:k < l.length):nC l[k].head+jg l[k].cells+1 < fI l:=by
 rw [← tF];exact IL (k:=k) (by simp [h])
theorem Fb {l:List aJ} {k:Nat} (h:k < l.length):nC l[k].head+aS l[k].flow+2 < jg l:=by
 rw [← u6];exact IL (k:=k) (by simp [h])
theorem CW (l:List aj):l.length≤aS l:=by have:=pq (l.map aj.dat);simpa using this
theorem CX (l:List aN):l.length≤fI l:=by have:=pq (l.map aN.dat);simpa using this
theorem AL (l:List aJ):l.length≤jg l:=by have:=pq (l.map aJ.dat);simpa using this
theorem IQ {r:List Dat}:∀ {rows:List (List Dat)},r∈rows→bP r < dw rows
 | [],h=>by cases h
 | q :: rs,h=>by
  rcases List.mem_cons.1 h with rfl|h
  ·simp only [dw];omega
  ·have:=IQ h;simp only [dw];omega
theorem Ja {x:aj} {l:List aj} (h:x∈l):bP x.dat < aS l:=IQ (List.mem_map_of_mem h)
theorem U7 {x:aN} {l:List aN} (h:x∈l):bP x.dat < fI l:=IQ (List.mem_map_of_mem h)
theorem U6 {x:aJ} {l:List aJ} (h:x∈l):bP x.dat < jg l:=IQ (List.mem_map_of_mem h)
end
section
open Go.RowKit
def qX (l:List Oper) (i:Nat):List Nat:=match l[i]? with|some o=>(o.after.toList.filter (Region.binds .any)).map (·.on)|none=>[]
def dO (l:List Oper) (i:Nat):Option Nat:=(l[i]?).bind (·.dst)
/-- clo: what comes ahead of each operation, in whatever order. -/
def zO (l:List Oper) (bM:List (List Nat)):Bool :=
 (List.range l.length).all fun i=>(qX l i).all (fun j=>Nat.blt j i) && (bM.getD i []).all fun j=>(qX l i).contains j || (qX l i).any fun k=>Nat.blt k i && (bM.getD k []).contains j
def eu (S:Nat→Bool) (i:Nat):Nat→Bool:=fun j=>if j=i then true else S j
section
variable {r:Option Nat} {P:Program} {Q:Exit→Act→World→Prop} {l:List Oper} {bM:List (List Nat)} {a:Act} {w:World}
theorem Po (hk:zO l bM=true) {S:Nat→Bool} (hd:∀ i,S i=true→∀ j∈qX l i,S j=true):∀ i,i < l.length→(∀ j∈qX l i,S j=true)→∀ j∈bM.getD i [],S j=true:=by
 intro i
 induction i using Nat.strongRecOn with
 | _ i ih =>
  intro hi hdi j hj
  have h1:=List.all_eq_true.1 hk i (List.mem_range.2 hi)
  simp only [Bool.and_eq_true,List.all_eq_true] at h1
  have h2:=h1.2 j hj
  simp only [Bool.or_eq_true,List.contains_iff_mem,List.any_eq_true,Bool.and_eq_true] at h2
  rcases h2 with h2|⟨k,hk1,hk2,hk3⟩
  ·exact hdi j h2
  ·have hlt:k < i:=Eq.mp Nat.blt_eq hk2
   exact ih k hlt (by omega) (hd k (hdi k hk1)) j hk3
theorem afC {ops:Array Oper} {i:Nat} {o:Oper} {K:Act→World→Prop} (ho:ops[i]?=some o) (h:WL r P ops (fun e a' w'=>e=.normal∧K a' w') [o] a w):wpOpIn (FW r) 0 P ops Q i K a w:=by
 unfold wpOpIn
 simp only [ho]
 have h':wpListIn (FW r) 0 P ops (fun e a' w'=>e=.normal∧K a' w') [o] a w:=h
 unfold wpListIn at h'
 by_cases hw:Region.wanted o (yielded ops a.tmps)=true
 ·rw [if_pos hw] at h' ⊢
  refine ⟨fun _ _=>trivial,?_⟩
  have h2:=h'.2
  generalize (o.semAt (FW r).round a.eval).run P w=res at h2 ⊢
  cases res with
  | ok x w1 =>
   cases x with
   | value v=>exact h2.2
   | skip=>exact h2.2
   | defer d=>exact h2.2
   | enter f args=>exact ⟨h2.1,h2.2.mono fun e w2 he=>by
     cases e with
     | returned v=>exact he.2
     | panicked ch=>exact absurd he.1 (by simp)
     | outgrown=>obtain ⟨_,_,h3,_⟩:=he;exact absurd h3 (by simp)⟩
   | row Nl args=>exact ⟨h2.1,h2.2.mono fun v w2 he=>he.2⟩
   | round l f t JA b=>exact ⟨h2.1,h2.2.mono fun e w2 he=>by
     cases e with
     | returned v=>exact he.2
     | panicked ch=>exact absurd he.1 (by simp)
     | outgrown=>obtain ⟨_,_,h3,_⟩:=he;exact absurd h3 (by simp)⟩
   | _=>exact h2.elim
  | halt x w1 =>
   cases x with
   | panic v=>exact absurd h2.1 (by simp)
   | _=>exact h2.elim
 ·rw [if_neg hw] at h' ⊢
  exact ⟨fun _ _=>trivial,h'.2.2⟩
theorem count_set {L:List Bool}:∀ {i:Nat},L[i]?=some false→(L.set i true).count false+1=L.count false:=by
 induction L with
 | nil=>intro i h;simp at h
 | cons b L ih =>
  intro i h
  cases i with
  | zero=>simp at h;subst h;simp
  | succ i =>
   simp only [List.getElem?_cons_succ] at h
   have:=ih h
   simp only [List.set_cons_succ,List.count_cons]
   omega
/-- The rule. -/
theorem O5 {id:Nat} (hm:P.follows .mixedOrders=true) (bM:List (List Nat)) (hk:zO l bM=true) (X:(Nat→Bool)→Act→World→Prop) (h0:X (fun _=>false) a w.drew)
  (hstep:∀ i o S a w,l[i]?=some o→X S a w→S i=false→(∀ j∈bM.getD i [],S j=true)→(∀ j,j < l.length→i∈bM.getD j []→S j=false)→WL r P l.toArray (fun e a' w'=>e=.normal∧X (eu S i) a' w') [o] a w)
  (hend:∀ S a w,(∀ i,i < l.length→S i=true)→X S a w→Q .normal a w):WP r P (.region id l.toArray true) Q a w:=by
 have key:∀ (fuel:Nat) (listed:Array Bool) (S:Nat→Bool) (a:Act) (w:World),listed.size=l.length→(∀ i,i < l.length→listed[i]?=some (S i))→listed.toList.count false≤fuel→(∀ i,i < l.length→S i=true→∀ j∈qX l i,S j=true)→(∀ i,l.length≤i→S i=false)→X S a w →
   wpAnyIn (FW r) 0 P .any l.toArray Q fuel listed a w:=by
  intro fuel
  induction fuel with
  | zero =>
   intro listed S a w hsz hS hc hdn hbig hX
   have hall:∀ i,i < l.length→S i=true:=by
    intro i hi
    cases aZ:S i with
    | true=>rfl
    | false =>
     have h1:=hS i hi
     rw [aZ] at h1
     have:false∈listed.toList:=List.mem_of_getElem? (by simpa using h1)
     have:=List.count_pos_iff.2 this
     omega
   refine ⟨?_,hend S a w hall hX⟩
   apply List.eq_nil_iff_forall_not_mem.2
   intro i hi
   obtain ⟨h1,o,ho,-⟩:=mem_ready.1 hi
   have hil:i < l.length:=by simpa using (Array.getElem?_eq_some_iff.1 ho).1
   have h2:=hS i hil
   rw [hall i hil] at h2
   rw [Array.getD_eq_getD_getElem?,h2] at h1
   cases h1
  | succ fuel ih =>
   intro listed S a w hsz hS hc hdn hbig hX
   have hget:∀ i d,i < l.length→listed.getD i d=S i:=fun i d hi=>by rw [Array.getD_eq_getD_getElem?,hS i hi];rfl
   refine ⟨fun hnil=>?_,fun i hi=>?_⟩
   ·by_cases hall:∀ i,i < l.length→S i=true
    ·exact hend S a w hall hX
    ·exfalso
     have hex:∃ i,i < l.length∧S i=false:=by
      apply Classical.byContradiction
      intro hno
      apply hall
      intro i hi
      cases aZ:S i with
      | true=>rfl
      | false=>exact absurd ⟨i,hi,aZ⟩ hno
     obtain ⟨i,hi,aZ,hmin⟩:∃ i,i < l.length∧S i=false∧∀ j,j < i→S j=true:=by
      obtain ⟨i0,hi0,hs0⟩:=hex
      clear hall
      induction i0 using Nat.strongRecOn with
      | _ i0 ihh =>
       by_cases hlt:∃ j,j < i0∧S j=false
       ·obtain ⟨j,hj,hsj⟩:=hlt
        exact ihh j hj (by omega) hsj
       ·refine ⟨i0,hi0,hs0,fun j hj=>?_⟩
        cases hSj:S j with
        | true=>rfl
        | false=>exact absurd ⟨j,hj,hSj⟩ hlt
     have hr:i∈Region.ready .any l.toArray listed:=by
      rw [mem_ready]
      refine ⟨by rw [hget i true hi,aZ],l[i],by simp [hi],fun e he hb=>?_⟩
      have hk1:=List.all_eq_true.1 hk i (List.mem_range.2 hi)
      simp only [Bool.and_eq_true,List.all_eq_true] at hk1
      have hin:e.on∈qX l i:=by
       simp only [qX,List.getElem?_eq_getElem hi,List.mem_map,List.mem_filter]
       exact ⟨e,⟨by simpa using he,hb⟩,rfl⟩
      have hlt:e.on < i:=Eq.mp Nat.blt_eq (hk1.1 _ hin)
      rw [hget _ _ (by omega)]
      exact hmin _ hlt
     rw [hnil] at hr
     cases hr
   ·obtain ⟨h1,o,ho,aa5⟩:=mem_ready.1 hi
    have hil:i < l.length:=by simpa using (Array.getElem?_eq_some_iff.1 ho).1
    have ho':l[i]?=some o:=by simpa using ho
    have aZ:S i=false:=by rw [← hget i true hil];exact h1
    have hdi:∀ j∈qX l i,S j=true:=by
     intro j hj
     simp only [qX,ho',List.mem_map,List.mem_filter] at hj
     obtain ⟨e,⟨he,hb⟩,rfl⟩:=hj
     have h2:=aa5 e (by simpa using he) hb
     by_cases hjl:e.on < l.length
     ·rwa [hget _ _ hjl] at h2
     ·have hk1:=List.all_eq_true.1 hk i (List.mem_range.2 hil)
      simp only [Bool.and_eq_true,List.all_eq_true] at hk1
      have hin:e.on∈qX l i:=by
       simp only [qX,ho',List.mem_map,List.mem_filter]
       exact ⟨e,⟨he,hb⟩,rfl⟩
      have hlt:e.on < i:=Eq.mp Nat.blt_eq (hk1.1 _ hin)
      omega
    have QX:∀ i,S i=true→∀ j∈qX l i,S j=true:=by
     intro k hk' j hj
     by_cases hkl:k < l.length
     ·exact hdn k hkl hk' j hj
     ·rw [hbig k (by omega)] at hk';cases hk'
    refine afC ho ?_
    have hs:=hstep i o S a w ho' hX aZ (Po hk QX i hil hdi) (fun j hjl hj=>by
     cases hSj:S j with
     | false=>rfl
     | true=>have:=Po hk QX j hjl (hdn j hjl hSj) i hj;rw [this] at aZ;cases aZ)
    have hmono:∀ e a' w',(e=Exit.normal∧X (eu S i) a' w')→(e=Exit.normal∧wpAnyIn (FW r) 0 P .any l.toArray Q fuel (listed.setIfInBounds i true) a' w'):=by
     rintro e a' w' ⟨he,hX'⟩
     refine ⟨he,ih _ (eu S i) a' w' (by simpa using hsz) (fun j hj=>?_) ?_ (fun j hj hSj q hq=>?_) (fun j hj=>?_) hX'⟩
     ·rw [Array.getElem?_setIfInBounds]
      unfold eu
      by_cases e:i=j
      ·subst e;simp [hsz,hil]
      ·rw [if_neg e,if_neg (Ne.symm e)];exact hS j hj
     ·have h3:listed.toList[i]?=some false:=by have:=hS i hil;rw [aZ] at this;simpa using this
      have:=count_set h3
      simp only [Array.toList_setIfInBounds]
      omega
     ·unfold eu at hSj ⊢
      split
      ·rfl
      ·split at hSj
       ·rename_i e;subst e;exact hdi q hq
       ·exact hdn j hj hSj q hq
     ·unfold eu
      rw [if_neg (by omega)]
      exact hbig j hj
    have hs':wpListIn (FW r) 0 P l.toArray (fun e a' w'=>e=.normal∧X (eu S i) a' w') [o] a w:=hs
    show wpListIn (FW r) 0 P l.toArray _ [o] a w
    unfold wpListIn at hs' ⊢
    split
    ·rename_i hw
     rw [if_pos hw] at hs'
     refine ⟨fun _ _=>trivial,?_⟩
     have h2:=hs'.2
     generalize (o.semAt (FW r).round a.eval).run P w=res at h2 ⊢
     cases res with
     | ok x w1 =>
      cases x with
      | value v=>exact hmono _ _ _ h2
      | skip=>exact hmono _ _ _ h2
      | defer d=>exact hmono _ _ _ h2
      | enter f args=>exact ⟨h2.1,h2.2.mono fun e w2 he=>by
        cases e with
        | returned v=>exact hmono _ _ _ he
        | panicked ch=>exact absurd he.1 (by simp)
        | outgrown=>obtain ⟨_,_,h3,_⟩:=he;exact absurd h3 (by simp)⟩
      | row Nl args=>exact ⟨h2.1,h2.2.mono fun v w2 he=>hmono _ _ _ he⟩
      | round l f t JA b=>exact ⟨h2.1,h2.2.mono fun e w2 he=>by
        cases e with
        | returned v=>exact hmono _ _ _ he
        | panicked ch=>exact absurd he.1 (by simp)
        | outgrown=>obtain ⟨_,_,h3,_⟩:=he;exact absurd h3 (by simp)⟩
      | _=>exact h2.elim
     | halt x w1 =>
      cases x with
      | panic v=>exact absurd h2.1 (by simp)
      | _=>exact h2.elim
    ·rename_i hw
     rw [if_neg hw] at hs'
     exact ⟨fun _ _=>trivial,hmono _ _ _ hs'.2⟩
 refine wpIn_region_any hm (key _ _ (fun _=>false) a w.drew (by simp) (fun i hi=>by simp [hi]) ?_ (fun _ _ h=>by cases h) (fun _ _=>rfl) h0)
 simp
end
/-! ## The rule over states: values in any order, then a tail in the text's order -/
def full (N:Nat) (a:Act):List (Nat × Value):=(List.range N).map fun t=>(t,a.tmps.getD t undef)
theorem HY (T U:List (Nat × Value)) (t:Nat):lk (T++U) t=match lk T t with|some v=>some v|none=>lk U t:=by
 induction T with
 | nil=>rfl
 | cons p T ih =>
  obtain ⟨s,v⟩:=p
  by_cases e:s=t
  ·subst e;rw [List.cons_append,rW,rW]
  ·rw [List.cons_append,pY e,pY e,ih]
theorem Sn (f:Nat→Value):∀ (L:List Nat) (t:Nat),t∈L→lk (L.map fun t=>(t,f t)) t=some (f t)
 | [],_,h=>by cases h
 | s :: L,t,h=>by
  simp only [List.map_cons]
  by_cases e:s=t
  ·subst e;rw [rW]
  ·rw [pY e]
   exact Sn f L t ((List.mem_cons.1 h).resolve_left (Ne.symm e))
theorem HZ {N t:Nat} (a:Act) (h:t < N):lk (full N a) t=some (a.tmps.getD t undef):=Sn (fun t=>a.tmps.getD t undef) _ t (List.mem_range.2 h)
section
variable {N:Nat} {D:List Deferred} {w0:World} {F:Nat→Prop} {G0 G G1 G2:GH} {L L1 L2:OL} {T Xs:List (Nat × Value)}
variable {r:Option Nat} {P:Program} {Q:Exit→Act→World→Prop} {l:List Oper} {a a':Act} {w w':World}
theorem St.full (H:St N D w0 F G0 G L T a w):St N D w0 F G0 G L (T++full N a) a w:=by
 refine ⟨H.jP,fun t v ht=>?_,H.nQ,H.hp⟩
 rw [HY] at ht
 cases hT:lk T t with
 | some u=>rw [hT] at ht;simp only [Option.some.injEq] at ht;subst ht;exact H.get t u hT
 | none =>
  rw [hT] at ht
  by_cases hlt:t < N
  ·rw [HZ a hlt] at ht
   simp only [Option.some.injEq] at ht
   have h2:t < a.tmps.size:=by rw [H.jP];exact hlt
   rw [← ht,Array.getD_eq_getD_getElem?,Array.getElem?_eq_getElem h2]
   rfl
  ·exfalso
   have:∀ (L:List Nat),t∉L→lk (L.map fun t=>(t,a.tmps.getD t undef)) t=none:=by
    intro L
    induction L with
    | nil=>intro _;rfl
    | cons s L ih=>intro h;simp only [List.map_cons];rw [pY (fun e=>h (by simp [e])),ih (fun h'=>h (by simp [h']))]
   rw [show lk (Proofs.YthichnnlceeofaaGreat.full N a) t=none from this _ (by simp;omega)] at ht
   cases ht
theorem St.kr (H:St N D w0 F G0 G L T a w) {t:Nat} {v:Value} (h:a.tmps[t]?=some v):St N D w0 F G0 G L ((t,v) :: T) a w :=
 ⟨H.jP,fun s u hs=>by
  by_cases e:t=s
  ·subst e;rw [rW] at hs;simp only [Option.some.injEq] at hs;subst hs;exact h
  ·rw [pY e] at hs;exact H.get s u hs,H.nQ,H.hp⟩
/-- What holds when the operations S are done. -/
def DX (N:Nat) (D:List Deferred) (w0:World) (F:Nat→Prop) (G0 G:GH) (L:OL) (T:List (Nat × Value)) (l:List Oper) (pr:Nat→Value→GH→Prop) (S:Nat→Bool) (a:Act) (w:World):Prop :=
 ∃ G1,(∀ k o,G k=some o→G1 k=some o)∧St N D w0 F G0 G1 L T a w∧∀ i d,S i=true→dO l i=some d→∃ v,a.tmps[d]?=some v∧pr i v G1
/-- The slot that operation i of l fills is new, and no other one fills it. -/
def kX (l:List Oper) (T:List (Nat × Value)) (i:Nat):Bool :=
 match dO l i with|none=>true|some d=>(lk T d).isNone && (List.range l.length).all fun j=>bif Nat.beq i j then true else !(dO l j == some d)
def XR (l:List Oper) (T:List (Nat × Value)):Bool :=
 (List.range l.length).all (kX l T)
theorem iH {pr:Nat→Value→GH→Prop} {S:Nat→Bool} {i d:Nat} {v:Value} (hok:kX l T i=true) (iN:∀ i v (G G':GH),(∀ k o,G k=some o→G' k=some o)→pr i v G→pr i v G') (hi:dO l i=some d) (hdl:Nat.blt i l.length=true)
  (HT:St N D w0 F G0 G1 L T a w) (Hb:St N D w0 F G0 G1 L (Xs++full N a) a w) (hG:∀ k o,G k=some o→G1 k=some o) (hv:∀ i d,S i=true→dO l i=some d→∃ v,a.tmps[d]?=some v∧pr i v G1)
  (hG2:∀ k o,G1 k=some o→G2 k=some o) (hp:pr i v G2) (H:St N D w0 F G0 G2 L ((d,v) :: (Xs++full N a)) a' w'):DX N D w0 F G0 G L T l pr (eu S i) a' w':=by
 have hil:i < l.length:=Eq.mp Nat.blt_eq hdl
 have hok1:=hok
 rw [kX,hi] at hok1
 simp only [Bool.and_eq_true,Option.isNone_iff_eq_none,List.all_eq_true,List.mem_range] at hok1
 have hsame:∀ t,t≠d→a'.tmps[t]?=a.tmps[t]?:=by
  intro t ht
  by_cases hlt:t < N
  ·have h1:∃ u,lk (Xs++full N a) t=some u:=by
    rw [HY]
    cases lk Xs t with
    | some u=>exact ⟨u,rfl⟩
    | none=>exact ⟨_,HZ a hlt⟩
   obtain ⟨u,hu⟩:=h1
   rw [Hb.get t u hu,H.get t u (by rw [pY (Ne.symm ht)];exact hu)]
  ·rw [Array.getElem?_eq_none (by rw [H.jP];omega),Array.getElem?_eq_none (by rw [Hb.jP];omega)]
 refine ⟨G2,fun k o hk=>hG2 k o (hG k o hk),⟨H.jP,fun t u ht=>?_,H.nQ,H.hp⟩,fun j e hj he=>?_⟩
 ·rw [hsame t (fun e=>by rw [e,hok1.1] at ht;cases ht)]
  exact HT.get t u ht
 ·by_cases hji:j=i
  ·subst hji
   rw [hi] at he
   simp only [Option.some.injEq] at he
   subst he
   exact ⟨v,H.get d v (rW _ _ _),hp⟩
  ·have hSj:S j=true:=by unfold eu at hj;rwa [if_neg hji] at hj
   obtain ⟨u,hu1,hu2⟩:=hv j e hSj he
   have hjl:j < l.length:=by
    unfold dO at he
    by_cases hl:j < l.length
    ·exact hl
    ·rw [List.getElem?_eq_none (by omega)] at he;cases he
   have hne:e≠d:=by
    intro e'
    subst e'
    have h2:=hok1.2 j hjl
    have hb:Nat.beq i j=false:=by
     cases h:Nat.beq i j with
     | false=>rfl
     | true=>exact absurd (Nat.eq_of_beq_eq_true h).symm hji
    rw [hb,he] at h2
    simp at h2
   exact ⟨u,by rw [hsame e hne];exact hu1,iN j u _ _ hG2 hu2⟩
/-- B: the tail, each of which comes behind all that are not in B and behind those of B that stand ahead of it. -/
def xW (l:List Oper) (bM:List (List Nat)) (B:List Nat):Bool :=
 (List.range B.length).all (fun p=>match B[p]? with|none=>false|some b=>Nat.blt b l.length && (List.range l.length).all fun i=>B.contains i && !(B.take p).contains i || (bM.getD b []).contains i) &&
 (List.range l.length).all fun i=>B.contains i || (bM.getD i []).all fun j=>!B.contains j
def ou (l:List Oper):List Nat→List Oper
 | []=>[]
 | b :: B=>match l[b]? with|some o=>o :: ou l B|none=>ou l B
theorem pF {ops:Array Oper} {Q':Exit→Act→World→Prop} (hq:∀ e a w,Q e a w→Q' e a w):∀ {L:List Oper} {a:Act} {w:World},WL r P ops Q L a w→WL r P ops Q' L a w
 | [],a,w,h=>hq _ _ _ h
 | o :: L,a,w,h=>by
  have h':wpListIn (FW r) 0 P ops Q (o :: L) a w:=h
  show wpListIn (FW r) 0 P ops Q' (o :: L) a w
  unfold wpListIn at h' ⊢
  split
  ·rename_i hw
   rw [if_pos hw] at h'
   refine ⟨h'.1,?_⟩
   have h2:=h'.2
   generalize (o.semAt (FW r).round a.eval).run P w=res at h2 ⊢
   cases res with
   | ok x w1 =>
    cases x with
    | value v=>exact pF hq h2
    | skip=>exact pF hq h2
    | defer d=>exact pF hq h2
    | enter f args=>exact ⟨h2.1,h2.2.mono fun e w2 he=>by
      cases e with
      | returned v=>exact pF hq he
      | panicked ch=>exact hq _ _ _ he
      | outgrown=>obtain ⟨x,y,h3⟩:=he;exact ⟨x,y,hq _ _ _ h3⟩⟩
    | row Nl args=>exact ⟨h2.1,h2.2.mono fun v w2 he=>pF hq he⟩
    | round l f t JA b=>exact ⟨h2.1,h2.2.mono fun e w2 he=>by
      cases e with
      | returned v=>exact pF hq he
      | panicked ch=>exact hq _ _ _ he
      | outgrown=>obtain ⟨x,y,h3⟩:=he;exact ⟨x,y,hq _ _ _ h3⟩⟩
    | _=>exact h2.elim
   | halt x w1 =>
    cases x with
    | panic v=>exact hq _ _ _ h2
    | _=>exact h2.elim
  ·rename_i hw
   rw [if_neg hw] at h'
   exact ⟨h'.1,pF hq h'.2⟩
theorem U3 {ops:Array Oper} {o:Oper} {L:List Oper} {K:Act→World→Prop} (hK:∀ a w,WL r P ops (fun e a w=>e=.normal∧Q .normal a w) L a w→K a w) (h:WL r P ops (fun e a w=>e=.normal∧Q .normal a w) (o :: L) a w):WL r P ops (fun e a' w'=>e=.normal∧K a' w') [o] a w:=by
 have h':wpListIn (FW r) 0 P ops (fun e a w=>e=.normal∧Q .normal a w) (o :: L) a w:=h
 show wpListIn (FW r) 0 P ops _ [o] a w
 unfold wpListIn at h' ⊢
 split
 ·rename_i hw
  rw [if_pos hw] at h'
  refine ⟨h'.1,?_⟩
  have h2:=h'.2
  generalize (o.semAt (FW r).round a.eval).run P w=res at h2 ⊢
  cases res with
  | ok x w1 =>
   cases x with
   | value v=>exact ⟨rfl,hK _ _ h2⟩
   | skip=>exact ⟨rfl,hK _ _ h2⟩
   | defer d=>exact ⟨rfl,hK _ _ h2⟩
   | enter f args=>exact ⟨h2.1,h2.2.mono fun e w2 he=>by
     cases e with
     | returned v=>exact ⟨rfl,hK _ _ he⟩
     | panicked ch=>exact absurd he.1 (by simp)
     | outgrown=>obtain ⟨_,_,h3,_⟩:=he;exact absurd h3 (by simp)⟩
   | row Nl args=>exact ⟨h2.1,h2.2.mono fun v w2 he=>⟨rfl,hK _ _ he⟩⟩
   | round l f t JA b=>exact ⟨h2.1,h2.2.mono fun e w2 he=>by
     cases e with
     | returned v=>exact ⟨rfl,hK _ _ he⟩
     | panicked ch=>exact absurd he.1 (by simp)
     | outgrown=>obtain ⟨_,_,h3,_⟩:=he;exact absurd h3 (by simp)⟩
   | _=>exact h2.elim
  | halt x w1 =>
   cases x with
   | panic v=>exact absurd h2.1 (by simp)
   | _=>exact h2.elim
 ·rename_i hw
  rw [if_neg hw] at h'
  exact ⟨h'.1,rfl,hK _ _ h'.2⟩
theorem Wq {id:Nat} (hm:P.follows .mixedOrders=true) (bM:List (List Nat)) (B:List Nat) (hk:zO l bM=true) (hB:xW l bM B=true) (pr:Nat→Value→GH→Prop) (iN:∀ i v (G G':GH),(∀ k o,G k=some o→G' k=some o)→pr i v G→pr i v G')
  (H:St N D w0 F G0 G L T a w)
  (hstep:∀ i o S a w G1,l[i]?=some o→B.contains i=false→S i=false→(∀ j∈bM.getD i [],S j=true)→(∀ k o,G k=some o→G1 k=some o)→St N D w0 F G0 G1 L T a w→(∀ i d,S i=true→dO l i=some d→∃ v,a.tmps[d]?=some v∧pr i v G1) →
   WL r P l.toArray (fun e a' w'=>e=.normal∧DX N D w0 F G0 G L T l pr (eu S i) a' w') [o] a w)
  (hend:∀ a w G1,(∀ k o,G k=some o→G1 k=some o)→St N D w0 F G0 G1 L T a w→(∀ i d,B.contains i=false→dO l i=some d→∃ v,a.tmps[d]?=some v∧pr i v G1)→WL r P l.toArray (fun e a w=>e=.normal∧Q .normal a w) (ou l B) a w):WP r P (.region id l.toArray true) Q a w:=by
 have hB1:∀ p b,B[p]?=some b→b < l.length∧∀ i,i < l.length→(B.contains i=false∨(B.take p).contains i=true)→i∈bM.getD b []:=by
  intro p b hp
  simp only [xW,Bool.and_eq_true] at hB
  have h1:=List.all_eq_true.1 hB.1 p (List.mem_range.2 (List.getElem?_eq_some_iff.1 hp).1)
  rw [hp] at h1
  simp only [Bool.and_eq_true,List.all_eq_true,List.mem_range] at h1
  refine ⟨Eq.mp Nat.blt_eq h1.1,fun i hi hor=>?_⟩
  have h2:=h1.2 i hi
  rcases hor with h3|h3
  ·have h4:i∉B:=by simpa using h3
   simpa [h4] using h2
  ·have h4:i∈B.take p:=by simpa using h3
   simpa [h4] using h2
 have hB2:∀ i,i < l.length→B.contains i=false→∀ j∈bM.getD i [],B.contains j=false:=by
  intro i hi hb j hj
  simp only [xW,Bool.and_eq_true] at hB
  have h1:=List.all_eq_true.1 hB.2 i (List.mem_range.2 hi)
  rw [hb] at h1
  simp only [Bool.false_or,List.all_eq_true] at h1
  simpa using h1 j hj
 refine O5 hm bM hk (fun S a w=>((∀ i,B.contains i=true→S i=false)∧DX N D w0 F G0 G L T l pr S a w) ∨
   ∃ p,(∀ i,i < l.length→B.contains i=false→S i=true)∧(∀ i,(B.take p).contains i=true→S i=true)∧(∀ q b,B[q]?=some b→p≤q→S b=false)∧WL r P l.toArray (fun e a w=>e=.normal∧Q .normal a w) (ou l (B.drop p)) a w)
  (.inl ⟨fun _ _=>rfl,G,fun _ _ h=>h,H.move H.hp.drew,fun _ _ h=>by cases h⟩) ?_ ?_
 ·intro i o S a w ho hX aZ lN hdesc
  have hil:i < l.length:=(List.getElem?_eq_some_iff.1 ho).1
  by_cases hbi:B.contains i=true
  ·-- an operation of the tail: all that stands ahead of it is done
   obtain ⟨p0,hp0⟩:=List.getElem?_of_mem (by simpa using hbi:i∈B)
   have hall:∀ j,j < l.length→B.contains j=false→S j=true:=fun j hj hb=>lN j ((hB1 p0 i hp0).2 j hj (.inl hb))
   have Mk:∃ p,(∀ i,(B.take p).contains i=true→S i=true)∧(∀ q b,B[q]?=some b→p≤q→S b=false)∧WL r P l.toArray (fun e a w=>e=.normal∧Q .normal a w) (ou l (B.drop p)) a w:=by
    rcases hX with ⟨h1,G1,hG,HS,hv⟩|⟨p,_,h2,h3,h4⟩
    ·refine ⟨0,by simp,fun q b hq _=>h1 b (by simpa using List.mem_of_getElem? hq),?_⟩
     refine hend a w G1 hG HS fun j e hb he=>?_
     have hjl:j < l.length:=by
      unfold dO at he
      by_cases hl:j < l.length
      ·exact hl
      ·rw [List.getElem?_eq_none (by omega)] at he;cases he
     exact hv j e (hall j hjl hb) he
    ·exact ⟨p,h2,h3,h4⟩
   obtain ⟨p,h2,h3,h4⟩:=Mk
   -- i is the next one
   have hpp:p≤p0:=by
    rcases Nat.lt_or_ge p0 p with hlt|hge
    ·have:(B.take p).contains i=true:=by
      simp only [List.contains_iff_mem]
      exact List.mem_of_getElem? (i:=p0) (by rw [List.getElem?_take,if_pos hlt];exact hp0)
     rw [h2 i this] at aZ;cases aZ
    ·exact hge
   have z8:p < B.length:=by have:=(List.getElem?_eq_some_iff.1 hp0).1;omega
   have hbp:B[p]?=some B[p]:=List.getElem?_eq_getElem z8
   have heq:B[p]=i:=by
    rcases Nat.lt_or_ge p p0 with hlt|hge
    ·exfalso
     have hin:B[p]∈bM.getD i []:=(hB1 p0 i hp0).2 _ (hB1 p _ hbp).1 (.inr (by
      simp only [List.contains_iff_mem]
      exact List.mem_of_getElem? (i:=p) (by rw [List.getElem?_take,if_pos hlt];exact hbp)))
     have:=lN _ hin
     rw [h3 p _ hbp (Nat.le_refl _)] at this;cases this
    ·have:p=p0:=by omega
     subst this
     rw [hbp] at hp0;simpa using hp0
   have hdrop:B.drop p=i :: B.drop (p+1):=by rw [List.drop_eq_getElem_cons z8,heq]
   have hops:ou l (B.drop p)=o :: ou l (B.drop (p+1)):=by rw [hdrop];simp [ou,ho]
   rw [hops] at h4
   refine U3 (fun a' w' h5=>.inr ⟨p+1,fun j hj hb=>?_,fun j hj=>?_,fun q b hq hpq=>?_,h5⟩) h4
   ·unfold eu;split
    ·rfl
    ·exact hall j hj hb
   ·unfold eu;split
    ·rfl
    ·rename_i hne
     refine h2 j ?_
     simp only [List.contains_iff_mem] at hj ⊢
     rw [List.take_succ_eq_append_getElem z8,List.mem_append] at hj
     rcases hj with hj|hj
     ·exact hj
     ·simp only [List.mem_singleton] at hj;exact absurd (hj.trans heq) hne
   ·unfold eu
    rw [if_neg ?_]
    ·exact h3 q b hq (by omega)
    ·rintro rfl
     -- i would stand twice in B: it would come ahead of itself
     have h6:=(hB1 q b hq).2 b (hB1 q b hq).1 (.inr (by
      simp only [List.contains_iff_mem]
      exact List.mem_of_getElem? (i:=p) (by rw [List.getElem?_take,if_pos (by omega)];rw [hbp,heq])))
     rw [lN _ h6] at aZ;cases aZ
  ·have zZ:B.contains i=false:=by cases h:B.contains i with|false=>rfl|true=>exact absurd h hbi
   rcases hX with ⟨h1,G1,hG,HS,hv⟩|⟨p,h0,_,_,_⟩
   ·refine pF (fun e a' w' ⟨he,hD⟩=>⟨he,.inl ⟨fun j hj=>?_,hD⟩⟩) (hstep i o S a w G1 ho zZ aZ lN hG HS hv)
    unfold eu
    rw [if_neg (by rintro rfl;rw [zZ] at hj;cases hj)]
    exact h1 j hj
   ·rw [h0 i hil zZ] at aZ;cases aZ
 ·intro S a w hall hX
  rcases hX with ⟨h1,G1,hG,HS,hv⟩|⟨p,_,_,h3,h4⟩
  ·have hnil:B=[]:=by
    cases B with
    | nil=>rfl
    | cons b B=>have h5:=h1 b (by simp);rw [hall b (hB1 0 b rfl).1] at h5;cases h5
   subst hnil
   have h6:=hend a w G1 hG HS fun j e _ he=>by
    have hjl:j < l.length:=by
     unfold dO at he
     by_cases hl:j < l.length
     ·exact hl
     ·rw [List.getElem?_eq_none (by omega)] at he;cases he
    exact hv j e (hall j hjl) he
   exact h6.2
  ·have hnil:B.drop p=[]:=by
    cases hd:B.drop p with
    | nil=>rfl
    | cons b B' =>
     have hb:B[p]?=some b:=by
      have:=congrArg (fun x:List Nat=>x[0]?) hd
      simpa using this
     have h5:=h3 p b hb (Nat.le_refl _)
     rw [hall b (hB1 p b hb).1] at h5;cases h5
   rw [hnil] at h4
   exact h4.2
def allI (φ:Nat→Oper→Prop):Nat→List Oper→Prop
 | _,[]=>True
 | i,o :: r=>φ i o∧allI φ (i+1) r
theorem dh {φ:Nat→Oper→Prop} {i:Nat}:allI φ i []:=trivial
theorem bq {φ:Nat→Oper→Prop} {i:Nat} {o:Oper} {r:List Oper} (h:φ i o) (t:allI φ (i+1) r):allI φ i (o :: r):=⟨h,t⟩
theorem Dt {φ:Nat→Oper→Prop}:∀ {l:List Oper} {s:Nat},allI φ s l→∀ i o,l[i]?=some o→φ (s+i) o
 | [],s,_,i,o,h=>by simp at h
 | x :: l,s,h,0,o,ho=>by simp at ho;subst ho;exact h.1
 | x :: l,s,h,i+1,o,ho=>by
  have:=Dt h.2 i o (by simpa using ho)
  rwa [show s+1+i=s+(i+1) by omega] at this
theorem dz {id:Nat} (hm:P.follows .mixedOrders=true) (bM:List (List Nat)) (B:List Nat) (hk:zO l bM=true) (hB:xW l bM B=true) (pr:Nat→Value→GH→Prop) (iN:∀ i v (G G':GH),(∀ k o,G k=some o→G' k=some o)→pr i v G→pr i v G')
  (H:St N D w0 F G0 G L T a w)
  (hstep:allI (fun i o=>∀ S a w G1,B.contains i=false→S i=false→(∀ j∈bM.getD i [],S j=true)→(∀ k o,G k=some o→G1 k=some o)→St N D w0 F G0 G1 L T a w→(∀ i d,S i=true→dO l i=some d→∃ v,a.tmps[d]?=some v∧pr i v G1) →
   WL r P l.toArray (fun e a' w'=>e=.normal∧DX N D w0 F G0 G L T l pr (eu S i) a' w') [o] a w) 0 l)
  (hend:∀ a w G1,(∀ k o,G k=some o→G1 k=some o)→St N D w0 F G0 G1 L T a w→(∀ i d,B.contains i=false→dO l i=some d→∃ v,a.tmps[d]?=some v∧pr i v G1)→WL r P l.toArray (fun e a w=>e=.normal∧Q .normal a w) (ou l B) a w):WP r P (.region id l.toArray true) Q a w :=
 Wq hm bM B hk hB pr iN H (fun i o S a w G1 ho hb hs hc hg HS hv=>by
  have:=Dt hstep i o ho
  rw [Nat.zero_add] at this
  exact this S a w G1 hb hs hc hg HS hv) hend
/-- An operation of a drawn region that its guard leaves out. -/
theorem aV {pr:Nat→Value→GH→Prop} {i d j t:Nat} {op:Op} {ty:TypeId} {pos:String} {aG:Array Edge} {want b:Bool} {bM:List (List Nat)} {B:List Nat} (hok:kX l T i=true) (iN:∀ i v (G G':GH),(∀ k o,G k=some o→G' k=some o)→pr i v G→pr i v G')
  (hi:dO l i=some d) (hdl:Nat.blt i l.length=true) (hjd:dO l j=some t) (hjc:(bM.getD i []).contains j=true) (hd:Nat.blt d N=true) (hb:∀ v G,pr j v G→v=.bool b) (hbw:b=!want) (hu:∀ G,pr i undef G) :
  ∀ S a w G1,B.contains i=false→S i=false→(∀ j∈bM.getD i [],S j=true)→(∀ k o,G k=some o→G1 k=some o)→St N D w0 F G0 G1 L T a w→(∀ i d,S i=true→dO l i=some d→∃ v,a.tmps[d]?=some v∧pr i v G1) →
   WL r P l.toArray (fun e a' w'=>e=.normal∧DX N D w0 F G0 G L T l pr (eu S i) a' w') [⟨some d,op,ty,pos,aG,some (j,want)⟩] a w:=by
 intro S a w G1 _ _ hc hG HT hv
 obtain ⟨u,hu1,hu2⟩:=hv j t (hc j (List.contains_iff_mem.1 hjc)) hjd
 obtain rfl:=hb _ _ hu2
 have H:=(HT.kr hu1).full
 refine T9 H (by unfold dO at hjd;simpa using hjd) (show lk ((t,Value.bool b) :: (T++full N a)) t=_ by simp [lk]) hbw hd ?_
 intro a' H'
 refine au ⟨rfl,?_⟩
 exact iH (Xs:=(t,.bool b) :: T) hok iN hi hdl HT H hG hv (fun _ _ h=>h) (hu G1) H'
/-- What the slots that an operation reads hold. -/
def Jz (pr:Nat→Value→GH→Prop):List (Nat × Nat × Value)→Prop
 | []=>True
 | (j,_,u) :: r=>(∀ v G,pr j v G→v=u)∧Jz pr r
def wm (us:List (Nat × Nat × Value)) (T:List (Nat × Value)):List (Nat × Value):=us.foldl (fun T x=>(x.2.1,x.2.2) :: T) T
theorem OU {pr:Nat→Value→GH→Prop} {S:Nat→Bool} {ds:List Nat}:∀ {us:List (Nat × Nat × Value)} {T:List (Nat × Value)},us.all (fun x=>ds.contains x.1 && (dO l x.1 == some x.2.1))=true→Jz pr us→(∀ j∈ds,S j=true)→(∀ i d,S i=true→dO l i=some d→∃ v,a.tmps[d]?=some v∧pr i v G1)→St N D w0 F G0 G1 L T a w→St N D w0 F G0 G1 L (wm us T) a w
 | [],_,_,_,_,_,H=>H
 | (j,t,u) :: r,T,h,hu,hc,hv,H=>by
  simp only [List.all_cons,Bool.and_eq_true,beq_iff_eq] at h
  obtain ⟨v,hv1,hv2⟩:=hv j t (hc j (List.contains_iff_mem.1 h.1.1)) h.1.2
  obtain rfl:=hu.1 v _ hv2
  exact OU (us:=r) h.2 hu.2 hc hv (H.kr hv1)
theorem dx {pr:Nat→Value→GH→Prop} {i d:Nat} {o:Oper} {bM:List (List Nat)} {B:List Nat} (us:List (Nat × Nat × Value)) (Hl:us.all (fun x=>(bM.getD i []).contains x.1 && (dO l x.1 == some x.2.1))=true) (hu:Jz pr us) (hok:kX l T i=true) (iN:∀ i v (G G':GH),(∀ k o,G k=some o→G' k=some o)→pr i v G→pr i v G')
  (hi:dO l i=some d) (hdl:Nat.blt i l.length=true)
  (k:∀ S a w G1,(∀ k o,G k=some o→G1 k=some o)→St N D w0 F G0 G1 L T a w→St N D w0 F G0 G1 L (wm us T++full N a) a w →
   (∀ {a' w' G2 v},St N D w0 F G0 G2 L ((d,v) :: (wm us T++full N a)) a' w'→(∀ k o,G1 k=some o→G2 k=some o)→pr i v G2→WL r P l.toArray (fun e a' w'=>e=.normal∧DX N D w0 F G0 G L T l pr (eu S i) a' w') [] a' w')→WL r P l.toArray (fun e a' w'=>e=.normal∧DX N D w0 F G0 G L T l pr (eu S i) a' w') [o] a w) :
  ∀ S a w G1,B.contains i=false→S i=false→(∀ j∈bM.getD i [],S j=true)→(∀ k o,G k=some o→G1 k=some o)→St N D w0 F G0 G1 L T a w→(∀ i d,S i=true→dO l i=some d→∃ v,a.tmps[d]?=some v∧pr i v G1) →
   WL r P l.toArray (fun e a' w'=>e=.normal∧DX N D w0 F G0 G L T l pr (eu S i) a' w') [o] a w:=by
 intro S a w G1 _ _ hc hG HT hv
 have H:=OU Hl hu hc hv HT
 exact k S a w G1 hG HT H.full fun H' hG2 hp=>au ⟨rfl,iH (Xs:=wm us T) hok iN hi hdl HT H.full hG hv hG2 hp H'⟩
end
end
section
open Go.RowKit
section
variable {N:Nat} {D:List Deferred} {w0:World} {F:Nat→Prop} {G0 G:GH} {L:List (Nat × Obj)} {T:List (Nat × Value)}
variable {r:Option Nat} {P:Program} {ops:Array Oper} {Q:Exit→Act→World→Prop} {rest:List Oper} {w:World}
variable {d:Nat} {ty:TypeId} {pos:String} {aG:Array Edge}
theorem kH {a:Act} {l:List Oper} (H:St N D w0 F G0 G L T a w) (k:∀ a,St N D w0 F G0 G L T a w→WL r P ops Q l a w):WL r P ops Q l a w:=k a H
theorem Rm {x:Operand} {v:Value} (h:(ev T x,Nat.blt d N)=(some v,true)) (k:∀ a',St N D w0 F G0 G L ((d,v) :: T) a' w→WL r P ops Q rest a' w) :
  ∀ a,St N D w0 F G0 G L T a w→WL r P ops Q (⟨some d,.move x,ty,pos,aG,none⟩ :: rest) a w:=fun _ H=>by
 simp only [Prod.mk.injEq] at h
 exact IC H wn h.1 h.2 k
theorem Ra {x:Operand} {v:Value} (h:(ev T x,Nat.blt d N)=(some v,true)) (k:∀ a',St N D w0 F G0 G L ((d,v) :: T) a' w→WL r P ops Q rest a' w) :
  ∀ a,St N D w0 F G0 G L T a w→WL r P ops Q (⟨some d,.assign x,ty,pos,aG,none⟩ :: rest) a w:=fun _ H=>by
 simp only [Prod.mk.injEq] at h
 exact ad2 H wn h.1 h.2 k
theorem Rc {op:BinOp} {x y:Operand} {t yt:TypeId} {kd:IntKind} {p q:Int} {b:Bool} (h:(ev T x,ev T y,DF op p q,Nat.blt d N)=(some (.int kd p),some (.int kd q),some b,true)) (k:∀ a',St N D w0 F G0 G L ((d,.bool b) :: T) a' w→WL r P ops Q rest a' w) :
  ∀ a,St N D w0 F G0 G L T a w→WL r P ops Q (⟨some d,.binOp op t x y yt,ty,pos,aG,none⟩ :: rest) a w:=fun _ H=>by
 simp only [Prod.mk.injEq] at h
 exact Iw H wn h.1 h.2.1 h.2.2.1 h.2.2.2 k
theorem Rf {s:TypeId} {x:Operand} {n b o off:Nat} (hs:bO P s n off) (h:(ev T x,Nat.blt d N)=(some (.pointer (some ⟨b,o,none⟩)),true)) (k:∀ a',St N D w0 F G0 G L ((d,.pointer (some ⟨b,o+off,none⟩)) :: T) a' w→WL r P ops Q rest a' w) :
  ∀ a,St N D w0 F G0 G L T a w→WL r P ops Q (⟨some d,.fieldAddr s x n,ty,pos,aG,none⟩ :: rest) a w:=fun _ H=>by
 simp only [Prod.mk.injEq] at h
 exact Iy hs H wn h.1 h.2 k
theorem Rn {x:Operand} {t:TypeId} {b:Bool} (h:(ev T x,Nat.blt d N)=(some (.bool b),true)) (k:∀ a',St N D w0 F G0 G L ((d,.bool (!b)) :: T) a' w→WL r P ops Q rest a' w) :
  ∀ a,St N D w0 F G0 G L T a w→WL r P ops Q (⟨some d,.unOp .not t x,ty,pos,aG,none⟩ :: rest) a w:=fun _ H=>by
 simp only [Prod.mk.injEq] at h
 exact TW H wn h.1 h.2 k
theorem Rk {x:Operand} {p:Addr} (h:(ev T x,Nat.blt d N)=(some (.pointer (some p)),true)) (k:∀ a',St N D w0 F G0 G L ((d,.pointer (some p)) :: T) a' w→WL r P ops Q rest a' w) :
  ∀ a,St N D w0 F G0 G L T a w→WL r P ops Q (⟨some d,.nilCheck x,ty,pos,aG,none⟩ :: rest) a w:=fun _ H=>by
 simp only [Prod.mk.injEq] at h
 exact o8 H wn h.1 h.2 k
theorem Rl {x:Operand} {t e:TypeId} {A:Option Addr} {n c:Nat} (hs:P.underlying t=some (.slice e)) (h:(ev T x,Nat.blt d N)=(some (.slice A n c),true)) (k:∀ a',St N D w0 F G0 G L ((d,.int .i64 n) :: T) a' w→WL r P ops Q rest a' w) :
  ∀ a,St N D w0 F G0 G L T a w→WL r P ops Q (⟨some d,.call { callee:=.builtin .len,args:=#[x],argTypes:=#[t] },ty,pos,aG,none⟩ :: rest) a w:=fun _ H=>by
 simp only [Prod.mk.injEq] at h
 exact TU hs H wn h.1 h.2 k
theorem Ro {t:TypeId} {sz bytes:Nat} {zero:List Value} (ht:Ty P t sz bytes zero false) (i:Nat) {x:Operand} {b o:Nat} {v:Value} {c:Array Value} {e:TypeId} {fz:Nat × Nat} (h:(ev T x,L[i]?,Nat.blt d N)=(some (.pointer (some ⟨b,o,none⟩)),some (b,.cells c e fz),true)) (hv:c[o]?=some v)
  (k:∀ a',St N D w0 F G0 G L ((d,v) :: T) a' w→WL r P ops Q rest a' w) :
  ∀ a,St N D w0 F G0 G L T a w→WL r P ops Q (⟨some d,.load t x,ty,pos,aG,none⟩ :: rest) a w:=fun _ H=>by
 simp only [Prod.mk.injEq] at h
 exact xR ht H wn h.1 (H.hp.jE i h.2.1 hv) h.2.2 k
theorem lv {a:Act} {fn:Func} {t:Nat} {v:Value} {R:Ending→World→Prop} (H:St N [] w0 F G0 G L T a w) (hr:fn.results=#[.tmp t]) (h:lk T t=some v) (hR:R (.returned v) w):bodyPostM (FW none) 0 P fn R .ret a w :=
 (leave1 H (rs:=[.tmp t]) hr (.cons (aF H h) .nil) hR).1
theorem iJ {H:GH}:∀ k o,H k=some o→H k=some o:=fun _ _ h=>h
end
theorem eN {N:Nat} {w:World} {G:GH} {P:Program} (T:List (Nat × Value)) {f:FuncId} {fn:Func} {c:Code} {vs:List Value} {R:Ending→World→Prop} (hf:P.funcs[f]?=some fn) (hb:fn.body=some c) (hN:fn.ntmps=N) (hle:Nat.ble vs.length N=true)
  (hT:zL 0 vs=T) (hG:Hold G w) (h:∀ a,St N [] w (fun k=>k < w.heap.size) G G [] T a w→WP none P c (bodyPostM (FW none) 0 P fn R) a w):Calls P f vs.toArray w R :=
 enter hf hb hN hle hT hG (fun _ h=>h) (fun _ h=>by cases h) (fun _ h=>by cases h) (fun _ h=>by cases h) List.Pairwise.nil h
section
variable {N:Nat} {D:List Deferred} {w0:World} {F:Nat→Prop} {G0 G:GH} {L:OL} {T:List (Nat × Value)}
variable {P:Program} {l:List Oper} {r:Option Nat}
abbrev Dr (N:Nat) (D:List Deferred) (w0:World) (F:Nat→Prop) (G0 G:GH) (L:OL) (T:List (Nat × Value)) (r:Option Nat) (P:Program) (l:List Oper) (pr:Nat→Value→GH→Prop) (i d:Nat) (o:Oper) (us:List (Nat × Nat × Value)):Prop :=
 ∀ S a w G1,(∀ k o,G k=some o→G1 k=some o)→St N D w0 F G0 G1 L T a w→St N D w0 F G0 G1 L (wm us T++full N a) a w →
   (∀ {a' w' G2 v},St N D w0 F G0 G2 L ((d,v) :: (wm us T++full N a)) a' w'→(∀ k o,G1 k=some o→G2 k=some o)→pr i v G2→WL r P l.toArray (fun e a' w'=>e=.normal∧DX N D w0 F G0 G L T l pr (eu S i) a' w') [] a' w')→WL r P l.toArray (fun e a' w'=>e=.normal∧DX N D w0 F G0 G L T l pr (eu S i) a' w') [o] a w
abbrev sK (N:Nat) (D:List Deferred) (w0:World) (F:Nat→Prop) (G0 G:GH) (L:OL) (T:List (Nat × Value)) (r:Option Nat) (P:Program) (l:List Oper) (bM:List (List Nat)) (B:List Nat) (pr:Nat→Value→GH→Prop) (i:Nat) (o:Oper):Prop :=
 ∀ S a w G1,B.contains i=false→S i=false→(∀ j∈bM.getD i [],S j=true)→(∀ k o,G k=some o→G1 k=some o)→St N D w0 F G0 G1 L T a w→(∀ i d,S i=true→dO l i=some d→∃ v,a.tmps[d]?=some v∧pr i v G1) →
   WL r P l.toArray (fun e a' w'=>e=.normal∧DX N D w0 F G0 G L T l pr (eu S i) a' w') [o] a w
variable {pr:Nat→Value→GH→Prop} {i d:Nat} {o:Oper} {bM:List (List Nat)} {B:List Nat}
theorem wJ (h:(dO l i,Nat.blt i l.length)=(some d,true)) (k:Dr N D w0 F G0 G L T r P l pr i d o [])
  (hok:kX l T i=true:=by kernel_rfl) (iN:∀ i v (G G':GH),(∀ k o,G k=some o→G' k=some o)→pr i v G→pr i v G':=by exact fun _ _ _ _ _ h=>h):sK N D w0 F G0 G L T r P l bM B pr i o:=by
 simp only [Prod.mk.injEq] at h
 exact dx [] rfl trivial hok iN h.1 h.2 k
theorem dS (j t:Nat) {x:Value} (h:(dO l i,Nat.blt i l.length,[(j,t,x)].all (fun x=>(bM.getD i []).contains x.1 && (dO l x.1 == some x.2.1)))=(some d,true,true)) (hu:pr j=fun v _=>v=x) (k:Dr N D w0 F G0 G L T r P l pr i d o [(j,t,x)])
  (hok:kX l T i=true:=by kernel_rfl) (iN:∀ i v (G G':GH),(∀ k o,G k=some o→G' k=some o)→pr i v G→pr i v G':=by exact fun _ _ _ _ _ h=>h):sK N D w0 F G0 G L T r P l bM B pr i o:=by
 simp only [Prod.mk.injEq] at h
 exact dx _ h.2.2 ⟨fun v G h=>by rw [hu] at h;exact h,trivial⟩ hok iN h.1 h.2.1 k
theorem dK (j t j' t':Nat) {x x':Value} (h:(dO l i,Nat.blt i l.length,[(j,t,x),(j',t',x')].all (fun x=>(bM.getD i []).contains x.1 && (dO l x.1 == some x.2.1)))=(some d,true,true)) (hu:(pr j,pr j')=(fun v _=>v=x,fun v _=>v=x')) (k:Dr N D w0 F G0 G L T r P l pr i d o [(j,t,x),(j',t',x')])
  (hok:kX l T i=true:=by kernel_rfl) (iN:∀ i v (G G':GH),(∀ k o,G k=some o→G' k=some o)→pr i v G→pr i v G':=by exact fun _ _ _ _ _ h=>h):sK N D w0 F G0 G L T r P l bM B pr i o:=by
 simp only [Prod.mk.injEq] at h hu
 exact dx _ h.2.2 ⟨fun v G h=>by rw [hu.1] at h;exact h,fun v G h=>by rw [hu.2] at h;exact h,trivial⟩ hok iN h.1 h.2.1 k
theorem wK (j t j' t' j2 t2:Nat) {x x' x2:Value} (h:(dO l i,Nat.blt i l.length,[(j,t,x),(j',t',x'),(j2,t2,x2)].all (fun x=>(bM.getD i []).contains x.1 && (dO l x.1 == some x.2.1)))=(some d,true,true)) (hu:(pr j,pr j',pr j2)=(fun v _=>v=x,fun v _=>v=x',fun v _=>v=x2)) (k:Dr N D w0 F G0 G L T r P l pr i d o [(j,t,x),(j',t',x'),(j2,t2,x2)])
  (hok:kX l T i=true:=by kernel_rfl) (iN:∀ i v (G G':GH),(∀ k o,G k=some o→G' k=some o)→pr i v G→pr i v G':=by exact fun _ _ _ _ _ h=>h):sK N D w0 F G0 G L T r P l bM B pr i o:=by
 simp only [Prod.mk.injEq] at h hu
 exact dx _ h.2.2 ⟨fun v G h=>by rw [hu.1] at h;exact h,fun v G h=>by rw [hu.2.1] at h;exact h,fun v G h=>by rw [hu.2.2] at h;exact h,trivial⟩ hok iN h.1 h.2.1 k
theorem aT {X:(Nat→Bool)→Act→World→GH→Prop} {b:Bool} (h:b=true):∀ S a w G1,b=false→X S a w G1:=fun _ _ _ _ hB=>by rw [h] at hB;cases hB
theorem av {φ:Nat→Oper→Prop} {i:Nat} {o1 o2 o3 o4:Oper} {r:List Oper} (h1:φ i o1) (h2:φ (i+1) o2) (h3:φ (i+1+1) o3) (h4:φ (i+1+1+1) o4) (t:allI φ (i+1+1+1+1) r):allI φ i (o1 :: o2 :: o3 :: o4 :: r):=⟨h1,h2,h3,h4,t⟩
end
section
variable {N:Nat} {D:List Deferred} {w0:World} {F:Nat→Prop} {G0 G:GH} {L:List (Nat × Obj)} {T:List (Nat × Value)}
variable {r:Option Nat} {P:Program} {ops:Array Oper} {Q:Exit→Act→World→Prop} {rest:List Oper} {w:World}
variable {d:Nat} {ty:TypeId} {pos:String} {aG:Array Edge} {j t:Nat} {want b:Bool}
theorem YM {x:Operand} {v:Value} (hb:b=want) (h:((ops[j]?).bind (·.dst),lk T t,ev T x,Nat.blt d N)=(some t,some (.bool b),some v,true)) (k:∀ a',St N D w0 F G0 G L ((d,v) :: T) a' w→WL r P ops Q rest a' w) :
  ∀ a,St N D w0 F G0 G L T a w→WL r P ops Q (⟨some d,.move x,ty,pos,aG,some (j,want)⟩ :: rest) a w:=fun _ H=>by
 simp only [Prod.mk.injEq] at h
 exact IC H (wg H h.1 h.2.1 hb) h.2.2.1 h.2.2.2 k
theorem YN {x:Operand} {y:TypeId} {v:Bool} (hb:b=want) (h:((ops[j]?).bind (·.dst),lk T t,ev T x,Nat.blt d N)=(some t,some (.bool b),some (.bool v),true)) (k:∀ a',St N D w0 F G0 G L ((d,.bool (!v)) :: T) a' w→WL r P ops Q rest a' w) :
  ∀ a,St N D w0 F G0 G L T a w→WL r P ops Q (⟨some d,.unOp .not y x,ty,pos,aG,some (j,want)⟩ :: rest) a w:=fun _ H=>by
 simp only [Prod.mk.injEq] at h
 exact TW H (wg H h.1 h.2.1 hb) h.2.2.1 h.2.2.2 k
theorem YC {op:BinOp} {x y:Operand} {u yt:TypeId} {kd:IntKind} {p q:Int} {c:Bool} (hb:b=want) (h:((ops[j]?).bind (·.dst),lk T t,ev T x,ev T y,DF op p q,Nat.blt d N)=(some t,some (.bool b),some (.int kd p),some (.int kd q),some c,true)) (k:∀ a',St N D w0 F G0 G L ((d,.bool c) :: T) a' w→WL r P ops Q rest a' w) :
  ∀ a,St N D w0 F G0 G L T a w→WL r P ops Q (⟨some d,.binOp op u x y yt,ty,pos,aG,some (j,want)⟩ :: rest) a w:=fun _ H=>by
 simp only [Prod.mk.injEq] at h
 exact Iw H (wg H h.1 h.2.1 hb) h.2.2.1 h.2.2.2.1 h.2.2.2.2.1 h.2.2.2.2.2 k
theorem YF {s:TypeId} {x:Operand} {n e o off:Nat} (hs:bO P s n off) (hb:b=want) (h:((ops[j]?).bind (·.dst),lk T t,ev T x,Nat.blt d N)=(some t,some (.bool b),some (.pointer (some ⟨e,o,none⟩)),true)) (k:∀ a',St N D w0 F G0 G L ((d,.pointer (some ⟨e,o+off,none⟩)) :: T) a' w→WL r P ops Q rest a' w) :
  ∀ a,St N D w0 F G0 G L T a w→WL r P ops Q (⟨some d,.fieldAddr s x n,ty,pos,aG,some (j,want)⟩ :: rest) a w:=fun _ H=>by
 simp only [Prod.mk.injEq] at h
 exact Iy hs H (wg H h.1 h.2.1 hb) h.2.2.1 h.2.2.2 k
theorem YO {u:TypeId} {sz bytes:Nat} {zero:List Value} (ht:Ty P u sz bytes zero false) (i:Nat) {x:Operand} {e o:Nat} {v:Value} {c:Array Value} {y:TypeId} {fz:Nat × Nat} (hb:b=want) (h:((ops[j]?).bind (·.dst),lk T t,ev T x,L[i]?,Nat.blt d N)=(some t,some (.bool b),some (.pointer (some ⟨e,o,none⟩)),some (e,.cells c y fz),true)) (hv:c[o]?=some v)
  (k:∀ a',St N D w0 F G0 G L ((d,v) :: T) a' w→WL r P ops Q rest a' w) :
  ∀ a,St N D w0 F G0 G L T a w→WL r P ops Q (⟨some d,.load u x,ty,pos,aG,some (j,want)⟩ :: rest) a w:=fun _ H=>by
 simp only [Prod.mk.injEq] at h
 exact xR ht H (wg H h.1 h.2.1 hb) h.2.2.1 (H.hp.jE i h.2.2.2.1 hv) h.2.2.2.2 k
theorem YR {u:TypeId} {sz bytes:Nat} {zero:List Value} (ht:Ty P u sz bytes zero false) {x:Operand} {e o:Nat} {v:Value} (hb:b=want) (h:((ops[j]?).bind (·.dst),lk T t,ev T x,Nat.blt d N)=(some t,some (.bool b),some (.pointer (some ⟨e,o,none⟩)),true)) (hv:aB G e o=some v)
  (k:∀ a',St N D w0 F G0 G L ((d,v) :: T) a' w→WL r P ops Q rest a' w) :
  ∀ a,St N D w0 F G0 G L T a w→WL r P ops Q (⟨some d,.load u x,ty,pos,aG,some (j,want)⟩ :: rest) a w:=fun _ H=>by
 simp only [Prod.mk.injEq] at h
 exact xR ht H (wg H h.1 h.2.1 hb) h.2.2.1 (H.hp.aB hv) h.2.2.2 k
theorem Rg {u:TypeId} {sz bytes:Nat} {zero:List Value} (ht:Ty P u sz bytes zero false) {x:Operand} {e o:Nat} {v:Value} (h:(ev T x,Nat.blt d N)=(some (.pointer (some ⟨e,o,none⟩)),true)) (hv:aB G e o=some v)
  (k:∀ a',St N D w0 F G0 G L ((d,v) :: T) a' w→WL r P ops Q rest a' w) :
  ∀ a,St N D w0 F G0 G L T a w→WL r P ops Q (⟨some d,.load u x,ty,pos,aG,none⟩ :: rest) a w:=fun _ H=>by
 simp only [Prod.mk.injEq] at h
 exact xR ht H wn h.1 (H.hp.aB hv) h.2 k
theorem YL {x:Operand} {u e:TypeId} {A:Option Addr} {n c:Nat} (hs:P.underlying u=some (.slice e)) (hb:b=want) (h:((ops[j]?).bind (·.dst),lk T t,ev T x,Nat.blt d N)=(some t,some (.bool b),some (.slice A n c),true)) (k:∀ a',St N D w0 F G0 G L ((d,.int .i64 n) :: T) a' w→WL r P ops Q rest a' w) :
  ∀ a,St N D w0 F G0 G L T a w→WL r P ops Q (⟨some d,.call { callee:=.builtin .len,args:=#[x],argTypes:=#[u] },ty,pos,aG,some (j,want)⟩ :: rest) a w:=fun _ H=>by
 simp only [Prod.mk.injEq] at h
 exact TU hs H (wg H h.1 h.2.1 hb) h.2.2.1 h.2.2.2 k
theorem Ks {op:Op} (hb:b=!want) (h:((ops[j]?).bind (·.dst),lk T t,Nat.blt d N)=(some t,some (.bool b),true)) (k:∀ a',St N D w0 F G0 G L ((d,undef) :: T) a' w→WL r P ops Q rest a' w) :
  ∀ a,St N D w0 F G0 G L T a w→WL r P ops Q (⟨some d,op,ty,pos,aG,some (j,want)⟩ :: rest) a w:=fun _ H=>by
 simp only [Prod.mk.injEq] at h
 exact T9 H h.1 h.2.1 hb h.2.2 k
theorem Ku {op:Op} (h:((ops[j]?).bind (·.dst),lk T t,Nat.blt d N)=(some t,some undef,true)) (k:∀ a',St N D w0 F G0 G L ((d,undef) :: T) a' w→WL r P ops Q rest a' w) :
  ∀ a,St N D w0 F G0 G L T a w→WL r P ops Q (⟨some d,op,ty,pos,aG,some (j,want)⟩ :: rest) a w:=fun _ H=>by
 simp only [Prod.mk.injEq] at h
 exact aed H h.1 h.2.1 h.2.2 k
theorem Pt {c x y:Operand} {v:Value} (hb:b=true) (h:(ev T c,ev T x,Nat.blt d N)=(some (.bool b),some v,true)) (k:∀ a',St N D w0 F G0 G L ((d,v) :: T) a' w→WL r P ops Q rest a' w) :
  ∀ a,St N D w0 F G0 G L T a w→WL r P ops Q (⟨some d,.pick c x y,ty,pos,aG,none⟩ :: rest) a w:=fun _ H=>by
 simp only [Prod.mk.injEq] at h
 exact IE H wn h.1 hb h.2.1 h.2.2 k
theorem Pf {c x y:Operand} {v:Value} (hb:b=false) (h:(ev T c,ev T y,Nat.blt d N)=(some (.bool b),some v,true)) (k:∀ a',St N D w0 F G0 G L ((d,v) :: T) a' w→WL r P ops Q rest a' w) :
  ∀ a,St N D w0 F G0 G L T a w→WL r P ops Q (⟨some d,.pick c x y,ty,pos,aG,none⟩ :: rest) a w:=fun _ H=>by
 simp only [Prod.mk.injEq] at h
 exact Nt H wn h.1 hb h.2.1 h.2.2 k
theorem PT {c x y:Operand} {v:Value} {b':Bool} (hb:b=want) (hb':b'=true) (h:((ops[j]?).bind (·.dst),lk T t,ev T c,ev T x,Nat.blt d N)=(some t,some (.bool b),some (.bool b'),some v,true)) (k:∀ a',St N D w0 F G0 G L ((d,v) :: T) a' w→WL r P ops Q rest a' w) :
  ∀ a,St N D w0 F G0 G L T a w→WL r P ops Q (⟨some d,.pick c x y,ty,pos,aG,some (j,want)⟩ :: rest) a w:=fun _ H=>by
 simp only [Prod.mk.injEq] at h
 exact IE H (wg H h.1 h.2.1 hb) h.2.2.1 hb' h.2.2.2.1 h.2.2.2.2 k
theorem PF {c x y:Operand} {v:Value} {b':Bool} (hb:b=want) (hb':b'=false) (h:((ops[j]?).bind (·.dst),lk T t,ev T c,ev T y,Nat.blt d N)=(some t,some (.bool b),some (.bool b'),some v,true)) (k:∀ a',St N D w0 F G0 G L ((d,v) :: T) a' w→WL r P ops Q rest a' w) :
  ∀ a,St N D w0 F G0 G L T a w→WL r P ops Q (⟨some d,.pick c x y,ty,pos,aG,some (j,want)⟩ :: rest) a w:=fun _ H=>by
 simp only [Prod.mk.injEq] at h
 exact Nt H (wg H h.1 h.2.1 hb) h.2.2.1 hb' h.2.2.2.1 h.2.2.2.2 k
theorem Ri {s e:TypeId} {sz bytes:Nat} {zero:List Value} {agg:Bool} (hs:P.underlying s=some (.slice e)) (ht:Ty P e sz bytes zero agg) {x y:Operand} {q o n c:Nat} {kd:IntKind} {z:Int} {i:Nat}
  (h:(ev T x,ev T y,Nat.blt d N)=(some (.slice (some ⟨q,o,none⟩) n c),some (.int kd z),true)) (hz:z=(i:Int)) (k:∀ a',St N D w0 F G0 G L ((d,.pointer (some ⟨q,o+i*sz,none⟩)) :: T) a' w→WL r P ops Q rest a' w) (hn:i < n:=by first|assumption|omega) :
  ∀ a,St N D w0 F G0 G L T a w→WL r P ops Q (⟨some d,.indexAddr s x y,ty,pos,aG,none⟩ :: rest) a w:=fun _ H=>by
 simp only [Prod.mk.injEq] at h
 exact Ns hs ht i H wn h.1 h.2.1 hz hn h.2.2 k
theorem YI {s e:TypeId} {sz bytes:Nat} {zero:List Value} {agg:Bool} (hs:P.underlying s=some (.slice e)) (ht:Ty P e sz bytes zero agg) {x y:Operand} {q o n c:Nat} {kd:IntKind} {z:Int} {i:Nat} (hb:b=want)
  (h:((ops[j]?).bind (·.dst),lk T t,ev T x,ev T y,Nat.blt d N)=(some t,some (.bool b),some (.slice (some ⟨q,o,none⟩) n c),some (.int kd z),true)) (hz:z=(i:Int)) (k:∀ a',St N D w0 F G0 G L ((d,.pointer (some ⟨q,o+i*sz,none⟩)) :: T) a' w→WL r P ops Q rest a' w) (hn:i < n:=by first|assumption|omega) :
  ∀ a,St N D w0 F G0 G L T a w→WL r P ops Q (⟨some d,.indexAddr s x y,ty,pos,aG,some (j,want)⟩ :: rest) a w:=fun _ H=>by
 simp only [Prod.mk.injEq] at h
 exact Ns hs ht i H (wg H h.1 h.2.1 hb) h.2.2.1 h.2.2.2.1 hz hn h.2.2.2.2 k
theorem Rd {x y:Operand} {u yt:TypeId} {p q z:Int} (h:(ev T x,ev T y,p+q,Nat.blt d N)=(some (.int .i64 p),some (.int .i64 q),z,true)) (k:∀ a',St N D w0 F G0 G L ((d,.int .i64 z) :: T) a' w→WL r P ops Q rest a' w) (h1:-9223372036854775808≤z:=by omega) (h2:z < 9223372036854775808:=by omega) :
  ∀ a,St N D w0 F G0 G L T a w→WL r P ops Q (⟨some d,.binOp .add u x y yt,ty,pos,aG,none⟩ :: rest) a w:=fun _ H=>by
 simp only [Prod.mk.injEq] at h
 exact Iq z H wn h.1 h.2.1 h.2.2.1 h1 h2 h.2.2.2 k
theorem Rs {x y:Operand} {u yt:TypeId} {p q z:Int} (h:(ev T x,ev T y,p - q,Nat.blt d N)=(some (.int .i64 p),some (.int .i64 q),z,true)) (k:∀ a',St N D w0 F G0 G L ((d,.int .i64 z) :: T) a' w→WL r P ops Q rest a' w) (h1:-9223372036854775808≤z:=by omega) (h2:z < 9223372036854775808:=by omega) :
  ∀ a,St N D w0 F G0 G L T a w→WL r P ops Q (⟨some d,.binOp .sub u x y yt,ty,pos,aG,none⟩ :: rest) a w:=fun _ H=>by
 simp only [Prod.mk.injEq] at h
 exact nk z H wn h.1 h.2.1 h.2.2.1 h1 h2 h.2.2.2 k
theorem Rv {x:Operand} {u:TypeId} {s:ByteArray} (hs:P.underlying u=some .string) (h:(ev T x,Nat.blt d N)=(some (.string s),true)) (k:∀ a',St N D w0 F G0 G L ((d,.int .i64 s.size) :: T) a' w→WL r P ops Q rest a' w) :
  ∀ a,St N D w0 F G0 G L T a w→WL r P ops Q (⟨some d,.call { callee:=.builtin .len,args:=#[x],argTypes:=#[u] },ty,pos,aG,none⟩ :: rest) a w:=fun _ H=>by
 simp only [Prod.mk.injEq] at h
 exact Au hs H wn h.1 h.2 k
/-! Ways between regions -/
theorem Kz {X:Act→World→Prop} (hK:∀ a w,X a w→WL r P ops Q [] a w) (k:∀ a,St N D w0 F G0 G L T a w→X a w):∀ a,St N D w0 F G0 G L T a w→WL r P ops Q [] a w:=fun a H=>hK a w (k a H)
theorem Kn {X:Act→World→Prop} (hK:∀ a w,X a w→Q .normal a w) (k:∀ a,St N D w0 F G0 G L T a w→X a w):∀ a,St N D w0 F G0 G L T a w→WL r P ops Q [] a w:=fun a H=>au (hK a w (k a H))
theorem Kc {X:Act→World→Prop} (hK:∀ a w,X a w→Q .normal a w) (k:∀ a,St N D w0 F G0 G L T a w→X a w):∀ a,St N D w0 F G0 G L T a w→WP r P .skip Q a w:=fun a H=>eX (hK a w (k a H))
theorem SR {id:Nat} {l:List Oper} {y:Code} (h:∀ K:Act→World→Prop,(∀ a w,WP r P y Q a w→WL r P l.toArray (Exit.then K Q) [] a w)→∀ a,St N D w0 F G0 G L T a w→WL r P l.toArray (Exit.then K Q) l a w):∀ a,St N D w0 F G0 G L T a w→WP r P (.seq (.region id l.toArray false) y) Q a w:=fun a H=>aY fun K hK=>h K hK a H
theorem SQ {x y:Code} (h:∀ K:Act→World→Prop,(∀ a w,WP r P y Q a w→K a w)→∀ a,St N D w0 F G0 G L T a w→WP r P x (Exit.then K Q) a w):∀ a,St N D w0 F G0 G L T a w→WP r P (.seq x y) Q a w:=fun a H=>aQ fun K hK=>h K hK a H
theorem SC {id:Nat} {l:List Oper} (h:∀ a,St N D w0 F G0 G L T a w→WL r P l.toArray Q l a w):∀ a,St N D w0 F G0 G L T a w→WP r P (.region id l.toArray false) Q a w:=fun a H=>mP (h a H)
theorem SB {id:Nat} {c:Code} (h:∀ a,St N D w0 F G0 G L T a w→WP r P c (Exit.inBlock id Q) a w):∀ a,St N D w0 F G0 G L T a w→WP r P (.block id c) Q a w:=fun a H=>lZ (h a H)
theorem kP {a:Act} {c:Code} (H:St N D w0 F G0 G L T a w) (k:∀ a,St N D w0 F G0 G L T a w→WP r P c Q a w):WP r P c Q a w:=k a H
theorem lr {a:Act} {fn:Func} {v:Value} {R:Ending→World→Prop} (H:St N [] w0 F G0 G L T a w) (hr:fn.results=#[.tmp t]) (hQ:(lk T t,Q .ret a w)=(some v,bodyPostM (FW none) 0 P fn R .ret a w)) (hR:R (.returned v) w):WP none P .ret Q a w:=by
 simp only [Prod.mk.injEq] at hQ
 exact aR (by rw [hQ.2];exact lv H hr hQ.1 hR)
theorem dT {p:Prop} [Decidable p] (h:decide p=true):p:=of_decide_eq_true h
theorem dF {p:Prop} [Decidable p] (h:decide p=false):¬p:=of_decide_eq_false h
end
section
variable {N:Nat} {D:List Deferred} {w0:World} {F:Nat→Prop} {G0 G:GH} {L:OL} {T:List (Nat × Value)}
variable {P:Program} {l:List Oper} {r:Option Nat} {pr:Nat→Value→GH→Prop} {i d:Nat} {o:Oper} {bM:List (List Nat)} {B:List Nat} {v:Value}
/-! Items of a drawn region: Z of operations that look at slots alone, X of others too; the number says how many values of the region they use. -/
abbrev vB (N:Nat) (D:List Deferred) (w0:World) (F:Nat→Prop) (G0 G:GH) (L:OL) (T:List (Nat × Value)) (r:Option Nat) (P:Program) (l:List Oper) (d:Nat) (v:Value) (o:Oper) (us:List (Nat × Nat × Value)):Prop :=
 ∀ {Q:Exit→Act→World→Prop} {a:Act} {w:World} {G1:GH} (_:∀ k o,G k=some o→G1 k=some o),(∀ a',St N D w0 F G0 G1 L ((d,v) :: (wm us T++full N a)) a' w→WL r P l.toArray Q [] a' w)→∀ a',St N D w0 F G0 G1 L (wm us T++full N a) a' w→WL r P l.toArray Q [o] a' w
abbrev FB (N:Nat) (D:List Deferred) (w0:World) (F:Nat→Prop) (G0 G:GH) (L:OL) (T:List (Nat × Value)) (r:Option Nat) (P:Program) (l:List Oper) (d:Nat) (v:Value) (o:Oper) (us:List (Nat × Nat × Value)):Prop :=
 ∀ {Q:Exit→Act→World→Prop} {a:Act} {w:World} {G1:GH},(∀ a',St N D w0 F G0 G1 L ((d,v) :: (wm us T++full N a)) a' w→WL r P l.toArray Q [] a' w)→∀ a',St N D w0 F G0 G1 L (wm us T++full N a) a' w→WL r P l.toArray Q [o] a' w
theorem vB.k {us:List (Nat × Nat × Value)} (hv:pr i=fun u _=>u=v) (k:vB N D w0 F G0 G L T r P l d v o us):Dr N D w0 F G0 G L T r P l pr i d o us :=
 fun _ a w G1 hG _ H fin=>k hG (fun _ H=>fin H (fun _ _ h=>h) (by rw [hv])) a H
theorem X0 (h:(dO l i,Nat.blt i l.length,pr i)=(some d,true,fun u _=>u=v)) (k:vB N D w0 F G0 G L T r P l d v o [])
  (hok:kX l T i=true:=by kernel_rfl) (iN:∀ i v (G G':GH),(∀ k o,G k=some o→G' k=some o)→pr i v G→pr i v G':=by exact fun _ _ _ _ _ h=>h):sK N D w0 F G0 G L T r P l bM B pr i o:=by
 simp only [Prod.mk.injEq] at h
 exact wJ (by rw [h.1,h.2.1]) (vB.k h.2.2 k) hok iN
theorem X1 (j t:Nat) {x:Value} (h:(dO l i,Nat.blt i l.length,pr j,pr i,[(j,t,x)].all (fun x=>(bM.getD i []).contains x.1 && (dO l x.1 == some x.2.1)))=(some d,true,fun v _=>v=x,fun u _=>u=v,true)) (k:vB N D w0 F G0 G L T r P l d v o [(j,t,x)])
  (hok:kX l T i=true:=by kernel_rfl) (iN:∀ i v (G G':GH),(∀ k o,G k=some o→G' k=some o)→pr i v G→pr i v G':=by exact fun _ _ _ _ _ h=>h):sK N D w0 F G0 G L T r P l bM B pr i o:=by
 simp only [Prod.mk.injEq] at h
 exact dS j t (by rw [h.1,h.2.1,h.2.2.2.2]) h.2.2.1 (vB.k h.2.2.2.1 k) hok iN
theorem X2 (j t j' t':Nat) {x x':Value} (h:(dO l i,Nat.blt i l.length,pr j,pr j',pr i,[(j,t,x),(j',t',x')].all (fun x=>(bM.getD i []).contains x.1 && (dO l x.1 == some x.2.1)))=(some d,true,fun v _=>v=x,fun v _=>v=x',fun u _=>u=v,true)) (k:vB N D w0 F G0 G L T r P l d v o [(j,t,x),(j',t',x')])
  (hok:kX l T i=true:=by kernel_rfl) (iN:∀ i v (G G':GH),(∀ k o,G k=some o→G' k=some o)→pr i v G→pr i v G':=by exact fun _ _ _ _ _ h=>h):sK N D w0 F G0 G L T r P l bM B pr i o:=by
 simp only [Prod.mk.injEq] at h
 exact dK j t j' t' (by rw [h.1,h.2.1,h.2.2.2.2.2]) (by rw [h.2.2.1,h.2.2.2.1]) (vB.k h.2.2.2.2.1 k) hok iN
theorem X3 (j t j' t' j2 t2:Nat) {x x' x2:Value} (h:(dO l i,Nat.blt i l.length,pr j,pr j',pr j2,pr i,[(j,t,x),(j',t',x'),(j2,t2,x2)].all (fun x=>(bM.getD i []).contains x.1 && (dO l x.1 == some x.2.1)))=(some d,true,fun v _=>v=x,fun v _=>v=x',fun v _=>v=x2,fun u _=>u=v,true)) (k:vB N D w0 F G0 G L T r P l d v o [(j,t,x),(j',t',x'),(j2,t2,x2)])
  (hok:kX l T i=true:=by kernel_rfl) (iN:∀ i v (G G':GH),(∀ k o,G k=some o→G' k=some o)→pr i v G→pr i v G':=by exact fun _ _ _ _ _ h=>h):sK N D w0 F G0 G L T r P l bM B pr i o:=by
 simp only [Prod.mk.injEq] at h
 exact wK j t j' t' j2 t2 (by rw [h.1,h.2.1,h.2.2.2.2.2.2]) (by rw [h.2.2.1,h.2.2.2.1,h.2.2.2.2.1]) (vB.k h.2.2.2.2.2.1 k) hok iN
theorem Z0 (h:(dO l i,Nat.blt i l.length,pr i)=(some d,true,fun u _=>u=v)) (k:FB N D w0 F G0 G L T r P l d v o [])
  (hok:kX l T i=true:=by kernel_rfl) (iN:∀ i v (G G':GH),(∀ k o,G k=some o→G' k=some o)→pr i v G→pr i v G':=by exact fun _ _ _ _ _ h=>h):sK N D w0 F G0 G L T r P l bM B pr i o:=X0 h (fun _=>k) hok iN
theorem Z1 (j t:Nat) {x:Value} (h:(dO l i,Nat.blt i l.length,pr j,pr i,[(j,t,x)].all (fun x=>(bM.getD i []).contains x.1 && (dO l x.1 == some x.2.1)))=(some d,true,fun v _=>v=x,fun u _=>u=v,true)) (k:FB N D w0 F G0 G L T r P l d v o [(j,t,x)])
  (hok:kX l T i=true:=by kernel_rfl) (iN:∀ i v (G G':GH),(∀ k o,G k=some o→G' k=some o)→pr i v G→pr i v G':=by exact fun _ _ _ _ _ h=>h):sK N D w0 F G0 G L T r P l bM B pr i o:=X1 j t h (fun _=>k) hok iN
theorem Z2 (j t j' t':Nat) {x x':Value} (h:(dO l i,Nat.blt i l.length,pr j,pr j',pr i,[(j,t,x),(j',t',x')].all (fun x=>(bM.getD i []).contains x.1 && (dO l x.1 == some x.2.1)))=(some d,true,fun v _=>v=x,fun v _=>v=x',fun u _=>u=v,true)) (k:FB N D w0 F G0 G L T r P l d v o [(j,t,x),(j',t',x')])
  (hok:kX l T i=true:=by kernel_rfl) (iN:∀ i v (G G':GH),(∀ k o,G k=some o→G' k=some o)→pr i v G→pr i v G':=by exact fun _ _ _ _ _ h=>h):sK N D w0 F G0 G L T r P l bM B pr i o:=X2 j t j' t' h (fun _=>k) hok iN
theorem Z3 (j t j' t' j2 t2:Nat) {x x' x2:Value} (h:(dO l i,Nat.blt i l.length,pr j,pr j',pr j2,pr i,[(j,t,x),(j',t',x'),(j2,t2,x2)].all (fun x=>(bM.getD i []).contains x.1 && (dO l x.1 == some x.2.1)))=(some d,true,fun v _=>v=x,fun v _=>v=x',fun v _=>v=x2,fun u _=>u=v,true)) (k:FB N D w0 F G0 G L T r P l d v o [(j,t,x),(j',t',x'),(j2,t2,x2)])
  (hok:kX l T i=true:=by kernel_rfl) (iN:∀ i v (G G':GH),(∀ k o,G k=some o→G' k=some o)→pr i v G→pr i v G':=by exact fun _ _ _ _ _ h=>h):sK N D w0 F G0 G L T r P l bM B pr i o:=X3 j t j' t' j2 t2 h (fun _=>k) hok iN
/-! Ends of chains -/
theorem St.aM {a:Act} {w:World} {p:Value→Prop} (H:St N D w0 F G0 G L T a w) (h:∃ u,a.tmps[d]?=some u∧p u) (he:p=fun u=>u=v):St N D w0 F G0 G L ((d,v) :: T) a w:=by
 subst he
 obtain ⟨u,h1,h2⟩:=h
 exact H.kr (h2 ▸ h1)
variable {w:World} {ops:Array Oper} {Q:Exit→Act→World→Prop} {b:Bool} {t:Nat} {x:Operand} {c1 c2:Code}
theorem Cd (h:ev T x=some (.bool b)) (k1:b=true→∀ a,St N D w0 F G0 G L T a w→WP r P c1 Q a w) (k2:b=false→∀ a,St N D w0 F G0 G L T a w→WP r P c2 Q a w):∀ a,St N D w0 F G0 G L T a w→WP r P (.cond x c1 c2) Q a w:=fun a H=>l6 H h (fun h=>k1 h a H) (fun h=>k2 h a H)
theorem Ct (h:ev T x=some (.bool b)) (hb:b=true) (k:∀ a,St N D w0 F G0 G L T a w→WP r P c1 Q a w):∀ a,St N D w0 F G0 G L T a w→WP r P (.cond x c1 c2) Q a w:=fun a H=>vG H h hb (k a H)
theorem Cf (h:ev T x=some (.bool b)) (hb:b=false) (k:∀ a,St N D w0 F G0 G L T a w→WP r P c2 Q a w):∀ a,St N D w0 F G0 G L T a w→WP r P (.cond x c1 c2) Q a w:=fun a H=>mO H h hb (k a H)
theorem Sp {X:Act→Prop} (t:Nat) (h:lk T t=some (.bool b)) (k1:b=true→∀ a,St N D w0 F G0 G L T a w→X a) (k2:b=false→∀ a,St N D w0 F G0 G L T a w→X a):∀ a,St N D w0 F G0 G L T a w→X a:=fun a H=>Ub H t h (fun h=>k1 h a H) (fun h=>k2 h a H)
theorem LR {fn:Func} {R:Ending→World→Prop} (hr:fn.results=#[.tmp t]) (hQ:(lk T t,Q .ret)=(some v,fun a w=>bodyPostM (FW none) 0 P fn R .ret a w)) (hR:∀ {a},St N [] w0 F G0 G L T a w→R (.returned v) w):∀ a,St N [] w0 F G0 G L T a w→WP none P .ret Q a w:=fun a H=>by
 simp only [Prod.mk.injEq] at hQ
 exact lr H hr (by rw [hQ.1,hQ.2]) (hR H)
end
theorem ay {p:Prop} [Decidable p] (h:p):decide p=true:=decide_eq_true h
theorem aL {p:Prop} [Decidable p] (h:¬p):decide p=false:=decide_eq_false h
end
section
open Go.RowKit
/-- The slice value v of n elements of type e (sz cells each) has the cells xs, in a block of the call's own (or is nil). -/
def eB (e sz:Nat) (v:Value) (n:Nat) (xs:List Value) (Lo:OL):Prop :=
 xs.length=n*sz∧((v=.slice none 0 0∧n=0∧Lo=[])∨∃ b cap cur,v=.slice (some ⟨b,0,none⟩) n cap∧Lo=[(b,.cells cur e (0,0))]∧n≤cap∧cap≤maxLen∧cur.size=cap*sz∧cur.toList.take (n*sz)=xs)
theorem eB.nil {e sz:Nat}:eB e sz (.slice none 0 0) 0 [] []:=⟨by simp,.inl ⟨rfl,rfl,rfl⟩⟩
/-- The value's shape. -/
theorem eB.shape {e sz n:Nat} {v:Value} {xs:List Value} {Lo:OL} (h:eB e sz v n xs Lo):∃ A c,v=.slice A n c∧n≤c∧c≤maxLen:=by
 rcases h.2 with ⟨rfl,rfl,_⟩|⟨b,cap,cur,rfl,_,h1,h2,_,_⟩
 ·exact ⟨none,0,rfl,Nat.le_refl _,by simp [maxLen]⟩
 ·exact ⟨_,cap,rfl,h1,h2⟩
section
variable {N:Nat} {D:List Deferred} {w0:World} {F:Nat→Prop} {G0 G:GH} {L Li Lo:OL} {T:List (Nat × Value)}
variable {r:Option Nat} {P:Program} {ops:Array Oper} {Q:Exit→Act→World→Prop} {rest:List Oper} {a:Act} {w w':World}
variable {d:Nat} {ty:TypeId} {pos:String} {aG:Array Edge} {g:Option (Nat × Bool)}
theorem eB.owns {e sz n:Nat} {v:Value} {xs:List Value} (h:eB e sz v n xs Lo) (H:Hp w0 F G0 G (Li++Lo) w):w.ownsRow 0 e sz v n xs:=by
 refine ⟨h.1,?_⟩
 rcases h.2 with ⟨h1,h2,_⟩|⟨b,cap,cur,h1,h2,h3,h4,h5,h6⟩
 ·exact .inl ⟨h1,h2⟩
 ·exact .inr ⟨b,cap,cur,h1,Nat.zero_le _,H.own (b,.cells cur e (0,0)) (by simp [h2]),h3,h4,h5,h6⟩
theorem WV {e sz n n':Nat} {v v':Value} {xs xs':List Value} (h:eB e sz v n xs Lo) (ho:gT G Lo w) (hown:w'.ownsRow 0 e sz v' n' xs') (hg:w.grownBy w' v.ownBlock) (hb:v'.ownBlock=v.ownBlock∨v'.ownBlock=some w.heap.size) :
  ∃ iB,eB e sz v' n' xs' iB∧Change w w' G G Lo iB:=by
 have hrow:∀ k,v.ownBlock=some k→∃ p∈Lo,p.1=k:=by
  intro k hk
  rcases h.2 with ⟨h1,_,_⟩|⟨b,cap,cur,h1,h2,_⟩
  ·rw [h1] at hk;cases hk
  ·rw [h1] at hk;simp only [Value.ownBlock,Option.some.injEq] at hk;exact ⟨_,by rw [h2];exact List.mem_singleton_self _,hk⟩
 have hro:∀ k o,G k=some o→w'.heap[k]?=some o:=by
  intro k o hk
  rw [hg.block k (lt_of_heap (ho.ro k o hk)) (fun e'=>by
   obtain ⟨p,hp,e2⟩:=hrow k e'.symm
   have:=ho.sep p hp
   rw [e2,hk] at this;cases this)]
  exact ho.ro k o hk
 have hfr:∀ k,k < w.heap.size→(∀ p∈Lo,p.1≠k)→w'.heap[k]?=w.heap[k]?:=fun k hk hn=>hg.block k hk fun e'=>by
  obtain ⟨p,hp,e2⟩:=hrow k e'.symm
  exact hn p hp e2
 rcases hown.2 with ⟨h1,h2⟩|⟨b,cap,cur,h1,_,h3,h4,h5,h6,h7⟩
 ·exact ⟨[],⟨hown.1,.inl ⟨h1,h2,rfl⟩⟩,⟨hg.os,hg.tape,hg.output,hg.size,hfr,fun _ _ h=>h,fun _ _ h=>.inl h,⟨hro,fun _ h=>(by cases h),fun _ h=>(by cases h),List.Pairwise.nil⟩,fun _ h=>(by cases h)⟩⟩
 ·refine ⟨[(b,.cells cur e (0,0))],⟨hown.1,.inr ⟨b,cap,cur,h1,rfl,h4,h5,h6,h7⟩⟩,⟨hg.os,hg.tape,hg.output,hg.size,hfr,fun _ _ h=>h,fun _ _ h=>.inl h,⟨hro,fun p hp=>?_,fun p hp=>?_,by simp⟩,fun p hp=>?_⟩⟩
  ·rw [List.mem_singleton.1 hp];exact h3
  ·rw [List.mem_singleton.1 hp]
   cases hgb:G b with
   | none=>rfl
   | some o =>
    exfalso
    rw [h1] at hb
    rcases hb with hb|hb
    ·obtain ⟨p',hp',e2⟩:=hrow b (by rw [← hb];rfl)
     have:=ho.sep p' hp'
     rw [e2,hgb] at this;cases this
    ·simp only [Value.ownBlock,Option.some.injEq] at hb
     have:=lt_of_heap (ho.ro b o hgb)
     omega
  ·rw [List.mem_singleton.1 hp]
   rw [h1] at hb
   rcases hb with hb|hb
   ·obtain ⟨p',hp',e2⟩:=hrow b (by rw [← hb];rfl)
    exact .inr ⟨p',hp',e2⟩
   ·simp only [Value.ownBlock,Option.some.injEq] at hb
    exact .inl (by simp only;omega)
theorem sF {t e:TypeId} {sz bytes:Nat} {zero:List Value} {agg:Bool} (hs:P.underlying t=some (.slice e)) (ht:Ty P e sz bytes zero agg) (hz:Nat.beq zero.length sz=true) (hsz:Nat.blt 0 sz=true) {x y:Operand} {v:Value} {n m c b2 o2:Nat} {xs news:List Value} (H:St N D w0 F G0 G (Li++Lo) T a w)
  (hw:Region.wanted ⟨some d,.call { callee:=.builtin .append,args:=#[x,y],argTypes:=#[t,t] },ty,pos,aG,g⟩ (yielded ops a.tmps)=true) (hx:ev T x=some v) (hy:ev T y=some (.slice (some ⟨b2,o2,none⟩) m c)) (hrow:eB e sz v n xs Lo)
  (hn:news.length=m*sz) (hc:∀ j u,news[j]?=some u→w.cell? ⟨b2,o2+j,none⟩=some u) (h1:news.all Value.oneCell'=true) (h63:n+m≤maxLen) (hb:(n+m)*bytes≤140737488355328) (hd:Nat.blt d N=true)
  (k:∀ v' iB a' w',eB e sz v' (n+m) (xs++news) iB→St N D w0 F G0 G (Li++iB) ((d,v') :: T) a' w'→WL r P ops Q rest a' w') :
  WL r P ops Q (⟨some d,.call { callee:=.builtin .append,args:=#[x,y],argTypes:=#[t,t] },ty,pos,aG,g⟩ :: rest) a w:=by
 obtain ⟨i,z,hi,hi1,hi2,hi3,hi4⟩:=ht.parts
 obtain ⟨v',w2,hrun,r1,r2,_,r4⟩:=run_append_own_at (P:=P) w 0 t ty e i z sz bytes hs hi hi3 hi1 hi2 (by rw [hi4];simpa using Nat.eq_of_beq_eq_true hz) (Eq.mp Nat.blt_eq hsz) v n xs (hrow.owns H.hp) ⟨b2,o2,none⟩ m c news hn (fun j u hj=>by rw [add_lit];exact hc j u hj) (fun u hu=>List.all_eq_true.1 h1 u hu) h63 hb (Nat.zero_le _)
 obtain ⟨iB,hr,hch⟩:=WV hrow H.hp.owns r1 r2 r4
 refine eT (v:=v') (w':=w2) hw rfl ?_ (k v' iB _ w2 hr (H.put hd v' (H.hp.change hch)))
 simp [execOp,resolve,invoke,builtin,H.ev hx,H.ev hy,Sem.run_bind,hrun]
/-- An append of nothing. -/
theorem Ir {t e:TypeId} {sz bytes:Nat} {zero:List Value} {agg:Bool} (hs:P.underlying t=some (.slice e)) (ht:Ty P e sz bytes zero agg) {x y:Operand} {A B:Option Addr} {n c c':Nat} (H:St N D w0 F G0 G L T a w)
  (hw:Region.wanted ⟨some d,.call { callee:=.builtin .append,args:=#[x,y],argTypes:=#[t,t] },ty,pos,aG,g⟩ (yielded ops a.tmps)=true) (hx:ev T x=some (.slice A n c)) (hy:ev T y=some (.slice B 0 c')) (hnc:n≤c) (hd:Nat.blt d N=true)
  (k:∀ a',St N D w0 F G0 G L ((d,.slice A n c) :: T) a' w→WL r P ops Q rest a' w) :
  WL r P ops Q (⟨some d,.call { callee:=.builtin .append,args:=#[x,y],argTypes:=#[t,t] },ty,pos,aG,g⟩ :: rest) a w:=by
 refine eT (v:=.slice A n c) (w':=w) hw rfl ?_ (k _ (H.put hd _ H.hp))
 have h1:∀ w,(Builtin.firstCells sz 0 (.slice B 0 c')).run P w=.ok #[] w:=by intro w;cases B <;> simp [Builtin.firstCells,loadCells,loadCellsFrom]
 have hle:n+0≤c:=by omega
 cases A <;> simp [execOp,resolve,invoke,builtin,H.ev hx,H.ev hy,Sem.run_bind,Builtin.append_,mE hs,ht.ze,Builtin.lenOf,hnc,h1,storeCells]
theorem Nr {t u:TypeId} {e:TypeId} (hs:P.underlying t=some (.slice e)) {x:Operand} {A:Option Addr} {n c:Nat} (H:St N D w0 F G0 G L T a w) (hw:Region.wanted ⟨some d,.binOp .eql t x (.const (.slice none 0 0)) u,ty,pos,aG,g⟩ (yielded ops a.tmps)=true) (hx:ev T x=some (.slice A n c)) (hd:Nat.blt d N=true)
  (k:∀ a',St N D w0 F G0 G L ((d,.bool A.isNone) :: T) a' w→WL r P ops Q rest a' w):WL r P ops Q (⟨some d,.binOp .eql t x (.const (.slice none 0 0)) u,ty,pos,aG,g⟩ :: rest) a w:=by
 refine eT (v:=.bool A.isNone) (w':=w) hw rfl ?_ (k _ (H.put hd _ H.hp))
 have h1:(Op.equal t (.slice A n c) (.slice none 0 0)).run P w=.ok A.isNone w:=by
  show (Op.equalIn (9999+1) t (.slice A n c) (.slice none 0 0)).run P w=_
  rw [Op.equalIn.eq_2,Sem.run_bind,mE hs]
  cases A <;> rfl
 have h2:(do eqGuard .eql t x (.const (.slice none 0 0)) (.slice A n c) (.slice none 0 0);binOp .eql t (.slice A n c) (.slice none 0 0):Sem Value).run P w=.ok (.bool A.isNone) w:=by
  have e:(do eqGuard .eql t x (.const (.slice none 0 0)) (.slice A n c) (.slice none 0 0);binOp .eql t (.slice A n c) (.slice none 0 0):Sem Value)=(do pure (.bool (← Op.equal t (.slice A n c) (.slice none 0 0))):Sem Value):=rfl
  rw [e,Sem.run_bind,h1];rfl
 have e0:execOp a.eval ⟨some d,.binOp .eql t x (.const (.slice none 0 0)) u,ty,pos,aG,g⟩=(do pure (.value (← (do eqGuard .eql t x (.const (.slice none 0 0)) (.slice A n c) (.slice none 0 0);binOp .eql t (.slice A n c) (.slice none 0 0):Sem Value))):Sem Next):=by
  simp only [execOp,H.ev hx];rfl
 rw [e0,Sem.run_bind,h2]
 rfl
theorem Np {t e:TypeId} {sz bytes:Nat} {zero:List Value} {agg:Bool} (hs:P.underlying t=some (.slice e)) (ht:Ty P e sz bytes zero agg) (H:St N D w0 F G0 G L T a w) (hw:Region.wanted ⟨some d,.buildSlice t 0 #[],ty,pos,aG,g⟩ (yielded ops a.tmps)=true) (hd:Nat.blt d N=true)
  (k:∀ b a' w',w0.heap.size≤b→St N D w0 F G0 G ((b,.cells #[] e (0,0)) :: L) ((d,.slice (some ⟨b,0,none⟩) 0 0) :: T) a' w'→WL r P ops Q rest a' w'):WL r P ops Q (⟨some d,.buildSlice t 0 #[],ty,pos,aG,g⟩ :: rest) a w:=by
 refine eT (v:=.slice (some ⟨w.heap.size,0,none⟩) 0 0) (w':=w.alloc (.cells #[] e (0,0))) hw rfl ?_ (k _ _ _ H.hp.size (H.put hd _ (H.hp.alloc _)))
 have h0:¬ (0*sz > 2 ^ 24):=by simp
 simp [execOp,Instr.buildSlice,Sem.run_bind,mE hs,ht.ze,Instr.fill,newRow,newObj,Sem.run]
 congr 2
 apply Array.eq_empty_of_size_eq_zero
 simp
theorem eB.empty {e sz b:Nat}:eB e sz (.slice (some ⟨b,0,none⟩) 0 0) 0 [] [(b,.cells #[] e (0,0))] :=
 ⟨by simp,.inr ⟨b,0,#[],rfl,rfl,Nat.le_refl _,by simp [maxLen],by simp,by simp⟩⟩
/-- A call of a function value that takes no block over. -/
theorem ng {x:Operand} {fv:Value} {xs:List Operand} {vs:List Value} {ts:Array TypeId} {R:Value→GH→Prop} (H:St N D w0 F G0 G L T a w) (hw:Region.wanted ⟨some d,.call { callee:=.value x,args:=xs.toArray,argTypes:=ts },ty,pos,aG,g⟩ (yielded ops a.tmps)=true)
  (hf:ev T x=some fv) (hx:evs T xs=some vs) (hc:qU P fv vs w (aU w G R)) (hd:Nat.blt d N=true)
  (k:∀ v G' a' w',R v G'→(∀ k o,G k=some o→G' k=some o)→St N D w0 F G0 G' L ((d,v) :: T) a' w'→WL r P ops Q rest a' w'):WL r P ops Q (⟨some d,.call { callee:=.value x,args:=xs.toArray,argTypes:=ts },ty,pos,aG,g⟩ :: rest) a w:=by
 refine NP (nx:=_) (R:=aU w G R) hw rfl rfl ?_ ?_
 ·have h1:=H.evs hx
  have e:(execOp a.eval ⟨some d,.call { callee:=.value x,args:=xs.toArray,argTypes:=ts },ty,pos,aG,g⟩)=(do let d ← Deferred.ofValue fv vs.toArray;invoke d.target d.args:Sem Next):=by
   simp only [execOp,resolve,H.ev hf,List.map_toArray,h1]
  rw [e]
  exact hc.go
 ·rintro e w' ⟨v,G',rfl,hb,hx,hR⟩
  exact ⟨v,rfl,k v G' _ w' hR hx.1 (H.put hd v (H.hp.OY hb hx))⟩
end
/-- The cells of a row, element by element. -/
def eU (G:GH) (sz:Nat) (rows:List (List Dat)) (xs:List Value):Prop :=
 ∃ css:List (List Value),xs=css.flatten∧css.length=rows.length∧∀ (j:Nat) (r:List Dat) (cs:List Value),rows[j]?=some r→css[j]?=some cs→aO G r cs∧cs.length=sz
theorem eU.nil {G:GH} {sz:Nat}:eU G sz [] []:=⟨[],rfl,rfl,fun j r cs h=>by simp at h⟩
theorem eU.mono {G G':GH} (hm:∀ k o,G k=some o→G' k=some o) {sz:Nat} {rows:List (List Dat)} {xs:List Value} (h:eU G sz rows xs):eU G' sz rows xs:=by
 obtain ⟨css,h1,h2,h3⟩:=h
 exact ⟨css,h1,h2,fun j r cs hr hc=>⟨(h3 j r cs hr hc).1.mono hm,(h3 j r cs hr hc).2⟩⟩
theorem eU.snoc {G:GH} {sz:Nat} {rows:List (List Dat)} {xs:List Value} (h:eU G sz rows xs) {q:List Dat} {cs:List Value} (hr:aO G q cs) (hl:cs.length=sz):eU G sz (rows++[q]) (xs++cs):=by
 obtain ⟨css,h1,h2,h3⟩:=h
 refine ⟨css++[cs],by simp [h1],by simp [h2],fun j r c hj hc=>?_⟩
 by_cases hlt:j < rows.length
 ·rw [List.getElem?_append_left hlt] at hj
  rw [List.getElem?_append_left (by omega)] at hc
  exact h3 j r c hj hc
 ·have hje:j=rows.length:=by
   have:=(List.getElem?_eq_some_iff.1 hj).1
   simp at this;omega
  subst hje
  rw [List.getElem?_append_right (Nat.le_refl _),Nat.sub_self] at hj
  rw [List.getElem?_append_right (by omega),h2,Nat.sub_self] at hc
  simp only [List.getElem?_cons_zero,Option.some.injEq] at hj hc
  subst hj;subst hc
  exact ⟨hr,hl⟩
theorem QG {sz:Nat}:∀ {css:List (List Value)} {j:Nat} {cs:List Value},(∀ (j:Nat) (cs:List Value),css[j]?=some cs→cs.length=sz)→css[j]?=some cs→∀ i,i < sz→css.flatten[j*sz+i]?=cs[i]?
 | [],_,_,_,h,_,_=>by simp at h
 | c :: css,0,cs,hl,h,i,hi=>by
  simp only [List.getElem?_cons_zero,Option.some.injEq] at h
  subst h
  have:=hl 0 c rfl
  simp only [List.flatten_cons,Nat.zero_mul,Nat.zero_add]
  rw [List.getElem?_append_left (by omega)]
 | c :: css,j+1,cs,hl,h,i,hi=>by
  have hc:=hl 0 c rfl
  have ih:=QG (css:=css) (j:=j) (cs:=cs) (fun j cs hj=>hl (j+1) cs (by simpa using hj)) (by simpa using h) i hi
  simp only [List.flatten_cons]
  rw [List.getElem?_append_right (by rw [hc,Nat.succ_mul];omega),← ih]
  congr 1
  rw [hc,Nat.succ_mul];omega
/-- All cells of rows that lie in memory. -/
theorem jH.cat {G:GH} {sz b:Nat}:∀ {rows:List (List Dat)} {o:Nat},jH G sz b o rows→∃ xs:List Value,xs.length=rows.length*sz∧(∀ j u,xs[j]?=some u→aB G b (o+j)=some u)∧xs.all Value.oneCell'=true∧eU G sz rows xs
 | [],o,_=>⟨[],by simp,fun j u h=>by simp at h,rfl,eU.nil⟩
 | r :: rs,o,h=>by
  simp only [jH] at h
  obtain ⟨⟨cs,h1,h2,h3⟩,h4⟩:=h
  obtain ⟨xs,g1,g2,g3,css,g4,g5,g6⟩:=jH.cat h4
  refine ⟨cs++xs,by simp [h1,g1,Nat.succ_mul,Nat.add_comm],fun j u hj=>?_,by simp [h3.one,g3],cs :: css,by simp [g4],by simp [g5],fun j q c hj hc=>?_⟩
  ·by_cases hlt:j < cs.length
   ·rw [List.getElem?_append_left hlt] at hj;exact h2 j u hj
   ·rw [List.getElem?_append_right (by omega)] at hj
    rw [← g2 _ u hj];congr 1;omega
  ·cases j with
   | zero=>simp only [List.getElem?_cons_zero,Option.some.injEq] at hj hc;subst hj;subst hc;exact ⟨h3,h1⟩
   | succ j=>exact g6 j q c (by simpa using hj) (by simpa using hc)
/-- A slice that reads as rows: nil or not; all its cells. -/
theorem ah.cells {G:GH} {sz:Nat} {rows:List (List Dat)} {A:Option Addr} {n c:Nat} (h:ah G (.sl sz rows) (.slice A n c)):n=rows.length∧n≤c∧c≤maxLen∧(A=none→rows=[]) ∧
  (rows≠[]→∃ b o xs,A=some ⟨b,o,none⟩∧xs.length=n*sz∧(∀ j u,xs[j]?=some u→aB G b (o+j)=some u)∧xs.all Value.oneCell'=true∧eU G sz rows xs):=by
 simp only [ah] at h
 obtain ⟨A',c',h1,h2,h3,h4⟩:=h
 injection h1 with e1 e2 e3
 subst e1;subst e2;subst e3
 refine ⟨rfl,h2,h3,fun hn=>?_,fun hne=>?_⟩
 ·apply Classical.byContradiction
  intro hne
  obtain ⟨b,o,e,_⟩:=h4 hne
  rw [hn] at e;cases e
 ·obtain ⟨b,o,e,hr⟩:=h4 hne
  obtain ⟨xs,g1,g2,g3,g4⟩:=hr.cat
  exact ⟨b,o,xs,e,g1,g2,g3,g4⟩
theorem ah.gq {G:GH} {sz:Nat} {A:Option Addr} {n c:Nat} (h:n=0) (hc:c≤maxLen):ah G (.sl sz []) (.slice A n c):=by
 subst h
 simp only [ah]
 exact ⟨A,c,rfl,Nat.zero_le _,hc,fun h=>absurd rfl h⟩
/-- A row whose block is read alone reads as its elements. -/
theorem ah.dG {G:GH} {e sz n b cap:Nat} {cur:Array Value} {xs:List Value} {rows:List (List Dat)} (hb:G b=some (.cells cur e (0,0))) (hl:rows.length=n) (hc:n≤cap) (hm:cap≤maxLen) (ht:cur.toList.take (n*sz)=xs) (gI:eU G sz rows xs) :
  ah G (.sl sz rows) (.slice (some ⟨b,0,none⟩) n cap):=by
 obtain ⟨css,h1,h2,h3⟩:=gI
 simp only [ah]
 refine ⟨_,cap,by rw [hl],by omega,hm,fun _=>⟨b,0,rfl,jH.mk fun k q hk=>?_⟩⟩
 have hkl:k < css.length:=by rw [h2];exact (List.getElem?_eq_some_iff.1 hk).1
 have hcs:css[k]?=some css[k]:=List.getElem?_eq_getElem hkl
 obtain ⟨g1,g2⟩:=h3 k q _ hk hcs
 refine ⟨css[k],g2,fun j u hj=>?_,g1⟩
 have hjs:j < sz:=by rw [← g2];exact (List.getElem?_eq_some_iff.1 hj).1
 have hlen:∀ (j:Nat) (cs:List Value),css[j]?=some cs→cs.length=sz:=by
  intro j cs hj
  have hjl:j < rows.length:=by rw [← h2];exact (List.getElem?_eq_some_iff.1 hj).1
  exact (h3 j _ cs (List.getElem?_eq_getElem hjl) hj).2
 have hf:=QG hlen hcs j hjs
 rw [← h1,← ht,hj] at hf
 unfold aB
 rw [hb]
 simp only
 have hlt:k*sz+j < n*sz:=by
  have:(k+1)*sz≤n*sz:=Nat.mul_le_mul_right _ (by omega)
  rw [Nat.succ_mul] at this;omega
 rw [List.getElem?_take,if_pos hlt] at hf
 simpa using hf
/-- What the call built is given up. -/
theorem St.rz {N:Nat} {D:List Deferred} {w0:World} {F:Nat→Prop} {G0 G:GH} {Li Lo:OL} {T:List (Nat × Value)} {a:Act} {w:World} {e sz n:Nat} {v:Value} {xs:List Value} {rows:List (List Dat)} (H:St N D w0 F G0 G (Li++Lo) T a w)
  (hrow:eB e sz v n xs Lo) (hl:rows.length=n) (gI:eU G sz rows xs):∃ G',(∀ k o,G k=some o→G' k=some o)∧ah G' (.sl sz rows) v∧St N D w0 F G0 G' Li T a w:=by
 rcases hrow.2 with ⟨rfl,h2,rfl⟩|⟨b,cap,cur,rfl,rfl,h3,h4,h5,h6⟩
 ·refine ⟨G,fun _ _ h=>h,?_,by simpa using H⟩
  have:rows=[]:=List.eq_nil_of_length_eq_zero (by omega)
  subst this
  simp only [ah]
  exact ⟨none,0,by simp,by simp,by simp [maxLen],fun h=>absurd rfl h⟩
 ·have hi:(Li++[(b,Obj.cells cur e (0,0))])[Li.length]?=some (b,.cells cur e (0,0)):=by simp
  have hn:=H.QJ _ hi
  have hm:∀ k o,G k=some o→(G.add b (.cells cur e (0,0))) k=some o:=fun k o h=>GH.FC G hn k o h
  refine ⟨_,hm,ah.dG (GH.Jy G b _) hl h3 h4 h6 (gI.mono hm),?_⟩
  have:=H.giveUp _ hi
  rwa [List.eraseIdx_append_of_length_le (Nat.le_refl _),Nat.sub_self,List.eraseIdx_zero,List.tail_cons,List.append_nil] at this
/-- The block at the head is given up: it is read, and never turned again. -/
theorem St.dB {N:Nat} {D:List Deferred} {w0:World} {F:Nat→Prop} {G0 G:GH} {L:OL} {T:List (Nat × Value)} {a:Act} {w:World} {b:Nat} {o:Obj} (H:St N D w0 F G0 G ((b,o) :: L) T a w) :
  ∃ G',(∀ k o,G k=some o→G' k=some o)∧G' b=some o∧St N D w0 F G0 G' L T a w :=
 ⟨G.add b o,GH.FC G (H.QJ 0 rfl),GH.Jy G b o,H.giveUp 0 rfl⟩
/-- A slice of one element is given up. -/
theorem St.KE {N:Nat} {D:List Deferred} {w0:World} {F:Nat→Prop} {G0 G:GH} {L:OL} {T:List (Nat × Value)} {a:Act} {w:World} {b e sz:Nat} {cs:List Value} {d:List Dat} (H:St N D w0 F G0 G ((b,.cells cs.toArray e (0,0)) :: L) T a w) (hl:cs.length=sz) (hr:aO G d cs) :
  ∃ G',(∀ k o,G k=some o→G' k=some o)∧ah G' (.sl sz [d]) (.slice (some ⟨b,0,none⟩) 1 1)∧St N D w0 F G0 G' L T a w:=by
 obtain ⟨G',hm,hb,H⟩:=H.dB
 exact ⟨G',hm,ah.dG (xs:=cs) hb rfl (Nat.le_refl _) (by decide) (by simp [← hl]) (by simpa using (eU.nil (sz:=sz)).snoc (hr.mono hm) hl),H⟩
/-- How far a walk over a list of calls has come: it stands at j, A is left, je is the end. -/
structure Now {α:Type} (xs:List AP) (P:α→AP) (J:Nat→GH→OL→Prop) (je j:Nat) (A:List α) (g:GH) (L:OL):Prop where
 now:J j g L
 rem:∀ i a,A[i]?=some a→xs[j+i]?=some (P a)
 len:j+A.length=je
theorem Now.head {α:Type} {xs:List AP} {P:α→AP} {J:Nat→GH→OL→Prop} {je j:Nat} {x:α} {A:List α} {g:GH} {L:OL} (h:Now xs P J je j (x :: A) g L):xs[j]?=some (P x):=h.rem 0 x rfl
theorem Now.step {α:Type} {xs:List AP} {P:α→AP} {J:Nat→GH→OL→Prop} {je j:Nat} {x:α} {A:List α} {g g':GH} {L L':OL} (h:Now xs P J je j (x :: A) g L) (hJ:J (j+1) g' L'):Now xs P J je (j+1) A g' L' :=
 ⟨hJ,fun i a hi=>by rw [show j+1+i=j+(i+1) by omega];exact h.rem (i+1) a (by simpa using hi),by have:=h.len;simp only [List.length_cons] at this;omega⟩
theorem Now.part {α:Type} {xs:List AP} {P:α→AP} {J:Nat→GH→OL→Prop} {je j:Nat} {A B:List α} {g:GH} {L:OL} (h:Now xs P J je j (A++B) g L):∀ i a,A[i]?=some a→xs[j+i]?=some (P a):=fun i a hi=>h.rem i a (by rw [List.getElem?_append_left (List.getElem?_eq_some_iff.1 hi).1];exact hi)
theorem Now.jump {α:Type} {xs:List AP} {P:α→AP} {J:Nat→GH→OL→Prop} {je j:Nat} {A B:List α} {g g':GH} {L L':OL} (h:Now xs P J je j (A++B) g L) (hJ:J (j+A.length) g' L'):Now xs P J je (j+A.length) B g' L' :=
 ⟨hJ,fun i a hi=>by rw [Nat.add_assoc];exact h.rem (A.length+i) a (by rw [List.getElem?_append_right (Nat.le_add_right _ _),Nat.add_sub_cancel_left];exact hi),by have:=h.len;simp only [List.length_append] at this;omega⟩
theorem Hp.bR {R:Value→GH→OL→Prop} {v:Value} {w0 w:World} {G0 G:GH} {L0 L L':OL} (h:Hp w0 (Fr w0 L0) G0 G L w) (hs:L'.Sublist L) (hR:R v G L'):fQ w0 G0 L0 R (.returned v) w:=(h.drop hs).eG hR
section
variable {N:Nat} {D:List Deferred} {w0:World} {F:Nat→Prop} {G0 G:GH} {L Li Lo:OL} {T:List (Nat × Value)}
variable {r:Option Nat} {P:Program} {ops:Array Oper} {Q:Exit→Act→World→Prop} {rest:List Oper} {a:Act} {w:World}
variable {d:Nat} {ty:TypeId} {pos:String} {aG:Array Edge} {g:Option (Nat × Bool)}
/-- An append of what reads as rows. -/
theorem Nn {t e:TypeId} {sz bytes:Nat} {zero:List Value} {agg:Bool} (hs:P.underlying t=some (.slice e)) (ht:Ty P e sz bytes zero agg) (hz:Nat.beq zero.length sz=true) (hsz:Nat.blt 0 sz=true) {x y:Operand} {v:Value} {n m c:Nat} {A:Option Addr} {xs:List Value} {rows:List (List Dat)} (H:St N D w0 F G0 G (Li++Lo) T a w)
  (hw:Region.wanted ⟨some d,.call { callee:=.builtin .append,args:=#[x,y],argTypes:=#[t,t] },ty,pos,aG,g⟩ (yielded ops a.tmps)=true) (hx:ev T x=some v) (hy:ev T y=some (.slice A m c)) (hrow:eB e sz v n xs Lo)
  (hrep:ah G (.sl sz rows) (.slice A m c)) (h63:n+m≤maxLen) (hb:(n+m)*bytes≤140737488355328) (hd:Nat.blt d N=true)
  (k:∀ v' iB news a' w',eB e sz v' (n+m) (xs++news) iB→eU G sz rows news→St N D w0 F G0 G (Li++iB) ((d,v') :: T) a' w'→WL r P ops Q rest a' w') :
  WL r P ops Q (⟨some d,.call { callee:=.builtin .append,args:=#[x,y],argTypes:=#[t,t] },ty,pos,aG,g⟩ :: rest) a w:=by
 obtain ⟨hn,hc1,hc2,hnil,hxx⟩:=hrep.cells
 by_cases hr0:rows=[]
 ·have hm0:m=0:=by rw [hn,hr0];rfl
  subst hm0
  obtain ⟨A',c',rfl,h1,h2⟩:=hrow.shape
  refine Ir hs ht H hw hx hy h1 hd fun a' H'=>?_
  exact k _ Lo [] a' w (by simpa using hrow) (by rw [hr0];exact eU.nil) H'
 ·obtain ⟨b,o,news,rfl,hxl,hxc,hx1,gI⟩:=hxx hr0
  exact sF hs ht hz hsz H hw hx hy hrow hxl (fun j u hj=>H.hp.aB (hxc j u hj)) hx1 h63 hb hd fun v' iB a' w' hr' H'=>k v' iB news a' w' hr' gI H'
end
/-- A part of a slice that reads as rows. -/
theorem ah.part {G:GH} {sz:Nat} {rows:List (List Dat)} {A:Option Addr} {n c:Nat} (h:ah G (.sl sz rows) (.slice A n c)) (lo hi:Nat) (h1:lo≤hi) (h2:hi≤rows.length) :
  ah G (.sl sz ((rows.drop lo).take (hi - lo))) (.slice (if c=lo then A else A.map (·.add (lo*sz))) (hi - lo) (c - lo)):=by
 obtain ⟨A',c',he,hc1,hc2,hg⟩:=h.slice
 injection he with e1 e2 e3
 subst e1;subst e3
 have hl:((rows.drop lo).take (hi - lo)).length=hi - lo:=by simp;omega
 simp only [ah]
 refine ⟨_,_,by rw [hl],by rw [hl];omega,by omega,fun hn=>?_⟩
 have hlt:lo < hi:=by
  rcases Nat.lt_or_ge lo hi with h|h
  ·exact h
  ·exact absurd (List.eq_nil_of_length_eq_zero (by rw [hl];omega)) hn
 obtain ⟨b,o,cs,hA,-⟩:=hg lo rows[lo] (by simp)
 subst hA
 refine ⟨b,o+lo*sz,by rw [if_neg (by omega),Option.map_some,add_lit],jH.mk fun k r hk=>?_⟩
 rw [List.getElem?_take] at hk
 split at hk
 ·rw [List.getElem?_drop] at hk
  obtain ⟨b',o',cs,hA,g1,g2,g3⟩:=hg (lo+k) r hk
  obtain ⟨rfl,rfl⟩:b=b'∧o=o':=by simpa using hA
  exact ⟨cs,g1,fun j u hj=>by rw [← g2 j u hj];congr 1;rw [Nat.add_mul];omega,g3⟩
 ·cases hk
theorem eU.append {G:GH} {sz:Nat} {r1 r2:List (List Dat)} {x1 x2:List Value} (h1:eU G sz r1 x1) (h2:eU G sz r2 x2):eU G sz (r1++r2) (x1++x2):=by
 obtain ⟨c1,rfl,e1,f1⟩:=h1
 obtain ⟨c2,rfl,e2,f2⟩:=h2
 refine ⟨c1++c2,by simp,by simp [e1,e2],fun j r cs hr hc=>?_⟩
 by_cases hj:j < r1.length
 ·exact f1 j r cs (by rwa [List.getElem?_append_left hj] at hr) (by rwa [List.getElem?_append_left (by omega)] at hc)
 ·exact f2 (j - r1.length) r cs (by rwa [List.getElem?_append_right (by omega)] at hr) (by rwa [List.getElem?_append_right (by omega),e1] at hc)
end
section
open Go.RowKit
section
variable {N:Nat} {D:List Deferred} {w0:World} {F:Nat→Prop} {G0 G G1 G2:GH} {L L1 L2:OL} {T Xs:List (Nat × Value)}
variable {r:Option Nat} {P:Program} {Q:Exit→Act→World→Prop} {l:List Oper} {a a':Act} {w w':World}
theorem vE {x y:Nat} (h:x≠y):Nat.beq x y=false:=by
 cases h':Nat.beq x y with
 | false=>rfl
 | true=>exact absurd (Nat.eq_of_beq_eq_true h') h
theorem wO {i e:Nat} (h:dO l i=some e):i < l.length:=by
 unfold dO at h
 by_cases hl:i < l.length
 ·exact hl
 ·rw [List.getElem?_eq_none (by omega)] at h;cases h
theorem II:∀ (vs c:List Value) (o:Nat),o+vs.length≤c.length→setRow c o vs=c.take o++vs++c.drop (o+vs.length)
 | [],c,o,_=>by simp [setRow]
 | v :: vs,c,o,h=>by
  simp only [List.length_cons] at h
  rw [setRow,II vs (c.set o v) (o+1) (by simp;omega),List.take_set,List.drop_set,if_pos (by omega),List.take_succ_eq_append_getElem (by omega)]
  have e:((c.take o++[c[o]]).set o v)=c.take o++[v]:=by
   have hl:(c.take o).length=o:=by simp;omega
   rw [List.set_append,if_neg (by omega),hl,Nat.sub_self];rfl
  rw [e,List.length_cons,show o+1+vs.length=o+(vs.length+1) by omega]
  simp
/-- The last element of a row is written over. -/
theorem eB.over {e sz n b cap:Nat} {cur:Array Value} {xs zc news:List Value} (h:eB e sz (.slice (some ⟨b,0,none⟩) (n+1) cap) (n+1) (xs++zc) [(b,.cells cur e (0,0))]) (hx:xs.length=n*sz) (hn:news.length=sz) :
  n*sz+news.length≤cur.toList.length∧eB e sz (.slice (some ⟨b,0,none⟩) (n+1) cap) (n+1) (xs++news) [(b,.cells (setRow cur.toList (n*sz) news).toArray e (0,0))]:=by
 rcases h.2 with ⟨h1,_⟩|⟨b',cap',cur',h1,h2,h3,h4,h5,h6⟩
 ·cases h1
 ·cases h1
  cases h2
  have e1:(n+1)*sz=n*sz+sz:=Nat.succ_mul n sz
  have hle:n*sz+news.length≤cur.toList.length:=by
   rw [hn,← e1,Array.length_toList,h5];exact Nat.mul_le_mul_right _ h3
  have hlz:(xs++zc).length=(n+1)*sz:=h.1
  refine ⟨hle,by simp [hx,hn,e1],.inr ⟨b,cap,_,rfl,rfl,h3,h4,by simp [Cv,h5],?_⟩⟩
  have h7:cur.toList.take (n*sz)=xs:=by
   have:=congrArg (List.take (n*sz)) h6
   rw [List.take_take,Nat.min_eq_left (by omega),List.take_left' hx] at this
   exact this
  rw [List.toList_toArray,II _ _ _ hle,e1,h7,hn]
  exact List.take_left' (by simp [hx,hn])
end
end
section
open Go.RowKit
structure A9 (P:Program) (t:TypeId):Prop where
 h:(P.info? t).map (fun j=>j.size == 0)=some false
theorem A9.parts {P:Program} {t:TypeId} (h:A9 P t):∃ j,P.info? t=some j∧j.size≠0:=by
 obtain ⟨j,h1,h2⟩:=Option.map_eq_some_iff.1 h.h
 exact ⟨j,h1,by simpa using h2⟩
section
variable {N:Nat} {D:List Deferred} {w0:World} {F:Nat→Prop} {G0 G:GH} {L Li Lo:OL} {T:List (Nat × Value)}
variable {r:Option Nat} {P:Program} {ops:Array Oper} {Q:Exit→Act→World→Prop} {rest:List Oper} {a:Act} {w:World}
variable {d:Nat} {ty:TypeId} {pos:String} {aG:Array Edge} {g:Option (Nat × Bool)}
theorem Hp.shape (h:Hp w0 F G0 G L w) {i b:Nat} {c:Array Value} {e:TypeId} {fz:Nat × Nat} (hi:L[i]?=some (b,.cells c e fz)):w.shape? b=some (e,c.size):=by
 have:=h.own _ (List.mem_of_getElem? hi)
 simp only at this
 simp [World.shape?,this]
theorem aeh {t u te e:TypeId} {x:Operand} {b o:Nat} {c:Array Value} {fz:Nat × Nat} (hs:P.underlying t=some (.pointer te)) (hu:P.underlying u=some .unsafePointer) (hj:A9 P te) (H:St N D w0 F G0 G L T a w) (hw:Region.wanted ⟨some d,.convert t u x,ty,pos,aG,g⟩ (yielded ops a.tmps)=true)
  (hx:ev T x=some (.pointer (some ⟨b,o,none⟩))) (i:Nat) (hi:L[i]?=some (b,.cells c e fz)) (ho:Nat.blt o c.size=true) (hd:Nat.blt d N=true)
  (k:∀ a',St N D w0 F G0 G L ((d,.pointer (some ⟨b,o,none⟩)) :: T) a' w→WL r P ops Q rest a' w):WL r P ops Q (⟨some d,.convert t u x,ty,pos,aG,g⟩ :: rest) a w:=by
 obtain ⟨j,h1,h2⟩:=hj.parts
 refine eT (v:=.pointer (some ⟨b,o,none⟩)) (w':=w) hw rfl ?_ (k _ (H.put hd _ H.hp))
 have h:=Lib.run_to_unsafe (P:=P) w ⟨b,o,none⟩ hs hu h1 h2 (H.hp.shape hi) (Eq.mp Nat.blt_eq ho)
 simp only [execOp,H.ev hx,Sem.run_bind,h,Result.andThen_ok,Sem.run_pure]
theorem ad6 {t u te e:TypeId} {x:Operand} {b o:Nat} {c:Array Value} {fz:Nat × Nat} (hs:P.underlying t=some .unsafePointer) (hu:P.underlying u=some (.pointer te)) (hj:A9 P te) (H:St N D w0 F G0 G L T a w) (hw:Region.wanted ⟨some d,.convert t u x,ty,pos,aG,g⟩ (yielded ops a.tmps)=true)
  (hx:ev T x=some (.pointer (some ⟨b,o,none⟩))) (i:Nat) (hi:L[i]?=some (b,.cells c e fz)) (hl:liesAt P P.depth e (c.size / P.cellsOf e) o te 1=true) (hd:Nat.blt d N=true)
  (k:∀ a',St N D w0 F G0 G L ((d,.pointer (some ⟨b,o,none⟩)) :: T) a' w→WL r P ops Q rest a' w):WL r P ops Q (⟨some d,.convert t u x,ty,pos,aG,g⟩ :: rest) a w:=by
 obtain ⟨j,h1,h2⟩:=hj.parts
 refine eT (v:=.pointer (some ⟨b,o,none⟩)) (w':=w) hw rfl ?_ (k _ (H.put hd _ H.hp))
 have h:=Lib.run_from_unsafe (P:=P) w ⟨b,o,none⟩ hs hu h1 (H.hp.shape hi) hl
 simp only [execOp,H.ev hx,Sem.run_bind,h,Result.andThen_ok,Sem.run_pure]
/-- A function that the model runs in place, and that hands back its argument. -/
theorem aeb {f:FuncId} {xs:List Operand} {v:Value} {ts:Array TypeId} (hcf:∀ (w:World),(callFunc f #[v]).run P w=.ok (.value v) w) (H:St N D w0 F G0 G L T a w) (hw:Region.wanted ⟨some d,.call { callee:=.value (.func f),args:=xs.toArray,argTypes:=ts },ty,pos,aG,g⟩ (yielded ops a.tmps)=true)
  (hx:evs T xs=some [v]) (hd:Nat.blt d N=true)
  (k:∀ a',St N D w0 F G0 G L ((d,v) :: T) a' w→WL r P ops Q rest a' w):WL r P ops Q (⟨some d,.call { callee:=.value (.func f),args:=xs.toArray,argTypes:=ts },ty,pos,aG,g⟩ :: rest) a w:=by
 refine eT (v:=v) (w':=w) hw rfl ?_ (k _ (H.put hd _ H.hp))
 have h1:=H.evs hx
 simp [execOp,resolve,Act.eval,Deferred.ofValue,invoke,Sem.run_bind,h1,hcf]
theorem adT {f:FuncId} {fn:Func} (hf:P.funcs[f]?=some fn) (hname:(fn.name == "runtime.NumGoroutine")=false) (hb:fn.body.isNone=true) (hn:Extern.findNext fn=none) (he:Extern.find fn=some Extern.AbiNoEscape.same) (v:Value) (w:World):(callFunc f #[v]).run P w=.ok (.value v) w:=by
 rw [run_callFunc_extern hf hname hb hn he,Lib.run_noEscape]
 rfl
theorem TT {t u te:TypeId} (hs:P.underlying t=some (.pointer te)) {x:Operand} {p:Option Addr} (H:St N D w0 F G0 G L T a w) (hw:Region.wanted ⟨some d,.binOp .eql t x (.const (.pointer none)) u,ty,pos,aG,g⟩ (yielded ops a.tmps)=true) (hx:ev T x=some (.pointer p)) (hd:Nat.blt d N=true)
  (k:∀ a',St N D w0 F G0 G L ((d,.bool p.isNone) :: T) a' w→WL r P ops Q rest a' w):WL r P ops Q (⟨some d,.binOp .eql t x (.const (.pointer none)) u,ty,pos,aG,g⟩ :: rest) a w:=by
 refine eT (v:=.bool p.isNone) (w':=w) hw rfl ?_ (k _ (H.put hd _ H.hp))
 have h1:(Op.equal t (.pointer p) (.pointer none)).run P w=.ok p.isNone w:=by
  show (Op.equalIn (9999+1) t (.pointer p) (.pointer none)).run P w=_
  rw [Op.equalIn.eq_2,Sem.run_bind,mE hs]
  cases p <;> simp
 have h2:(do eqGuard .eql t x (.const (.pointer none)) (.pointer p) (.pointer none);binOp .eql t (.pointer p) (.pointer none):Sem Value).run P w=.ok (.bool p.isNone) w:=by
  have e:(do eqGuard .eql t x (.const (.pointer none)) (.pointer p) (.pointer none);binOp .eql t (.pointer p) (.pointer none):Sem Value)=(do pure (.bool (← Op.equal t (.pointer p) (.pointer none))):Sem Value):=rfl
  rw [e,Sem.run_bind,h1];rfl
 have e0:execOp a.eval ⟨some d,.binOp .eql t x (.const (.pointer none)) u,ty,pos,aG,g⟩=(do pure (.value (← (do eqGuard .eql t x (.const (.pointer none)) (.pointer p) (.pointer none);binOp .eql t (.pointer p) (.pointer none):Sem Value))):Sem Next):=by
  simp only [execOp,H.ev hx];rfl
 rw [e0,Sem.run_bind,h2]
 rfl
theorem ad9 {t u te:TypeId} (hs:P.underlying t=some (.pointer te)) (hj:A9 P te) {x y:Operand} {p:Addr} (H:St N D w0 F G0 G L T a w) (hw:Region.wanted ⟨some d,.binOp .neq t x y u,ty,pos,aG,g⟩ (yielded ops a.tmps)=true) (hx:ev T x=some (.pointer (some p))) (hy:ev T y=some (.pointer (some p))) (hd:Nat.blt d N=true)
  (k:∀ a',St N D w0 F G0 G L ((d,.bool false) :: T) a' w→WL r P ops Q rest a' w):WL r P ops Q (⟨some d,.binOp .neq t x y u,ty,pos,aG,g⟩ :: rest) a w:=by
 obtain ⟨j,h1,h2⟩:=hj.parts
 refine eT (v:=.bool false) (w':=w) hw rfl ?_ (k _ (H.put hd _ H.hp))
 have h:=Lib.run_neq_ptr_same (P:=P) (w:=w) p hs h1
 simp only [execOp,H.ev hx,H.ev hy]
 simp [Sem.run_bind,eqGuard,h]
theorem aee {t:TypeId} {x:Operand} {p:Addr} {n c:Nat} (H:St N D w0 F G0 G L T a w) (hw:Region.wanted ⟨some d,.call { callee:=.builtin .unsafeSliceData,args:=#[x],argTypes:=#[t] },ty,pos,aG,g⟩ (yielded ops a.tmps)=true) (hx:ev T x=some (.slice (some p) n c)) (hc:c≠0) (hd:Nat.blt d N=true)
  (k:∀ a',St N D w0 F G0 G L ((d,.pointer (some p)) :: T) a' w→WL r P ops Q rest a' w):WL r P ops Q (⟨some d,.call { callee:=.builtin .unsafeSliceData,args:=#[x],argTypes:=#[t] },ty,pos,aG,g⟩ :: rest) a w:=by
 refine eT (v:=.pointer (some p)) (w':=w) hw rfl ?_ (k _ (H.put hd _ H.hp))
 have h:=Lib.run_unsafeSliceData_row (P:=P) (w:=w) #[t] ty p n c hc
 simp [execOp,resolve,invoke,builtin,H.ev hx,Sem.run_bind,h]
theorem ae7 {w:World} {b n:Nat} {c:Array Value} {e:TypeId} {fz:Nat × Nat} (h:w.heap[b]?=some (.cells c e fz)) (hn:n≠0):∃ zR,qo b (.cells c e zR) w (w.freeze ⟨b,0,none⟩ n):=by
 unfold World.freeze
 rw [if_neg hn]
 refine ⟨if fz.1 == fz.2 then (0,0+n) else (min fz.1 0,max fz.2 (0+n)),rfl,rfl,rfl,by simp,?_,fun k hk=>?_⟩
 ·simp [Array.getElem?_modify,h]
 ·simp [Array.getElem?_modify,Ne.symm hk]
theorem aei {pt it e:TypeId} {x y:Operand} {b i:Nat} {cur:Array Value} {fz:Nat × Nat} (l:List UInt8) (hp:P.underlying pt=some (.pointer e)) (hc:P.cellsOf e=1) (h0:l≠[]) (h63:l.length≤9223372036854775807) (H:St N D w0 F G0 G L T a w)
  (hw:Region.wanted ⟨some d,.call { callee:=.builtin .unsafeString,args:=#[x,y],argTypes:=#[pt,it] },ty,pos,aG,g⟩ (yielded ops a.tmps)=true) (hx:ev T x=some (.pointer (some ⟨b,0,none⟩))) (hy:ev T y=some (.int .i64 (l.length:Int)))
  (hi:L[i]?=some (b,.cells cur e fz)) (hl:cur.toList.take l.length=Lib.byteCells l) (hd:Nat.blt d N=true)
  (k:∀ zR a' w',St N D w0 F G0 G (L.set i (b,.cells cur e zR)) ((d,.string ⟨l.toArray⟩) :: T) a' w'→WL r P ops Q rest a' w'):WL r P ops Q (⟨some d,.call { callee:=.builtin .unsafeString,args:=#[x,y],argTypes:=#[pt,it] },ty,pos,aG,g⟩ :: rest) a w:=by
 have hb:=H.hp.own _ (List.mem_of_getElem? hi)
 simp only at hb
 have hlen:l.length≤cur.size:=by
  have:=congrArg List.length hl
  simp only [List.length_take,Lib.byteCells_length,Array.length_toList] at this
  omega
 obtain ⟨zR,hu⟩:=ae7 (n:=l.length) hb (by simpa using h0)
 have h:=Lib.run_unsafeString_row (P:=P) w pt it ty e hp hc b cur.size (H.hp.shape hi) l h0 hlen h63 (fun j x hj=>by
  rw [add_lit,Nat.zero_add]
  simp only [World.cell?,hb]
  have h2:(cur.toList.take l.length)[j]?=some (.int .u8 x.toNat):=by rw [hl];simp [Lib.byteCells,hj]
  rw [List.getElem?_take] at h2
  split at h2
  ·simpa using h2
  ·cases h2)
 refine eT (v:=.string ⟨l.toArray⟩) (w':=w.freeze ⟨b,0,none⟩ l.length) hw rfl ?_ (k zR _ _ (H.put hd _ (H.hp.upd hi hu)))
 simp [execOp,resolve,invoke,builtin,H.ev hx,H.ev hy,Sem.run_bind,h]
theorem QD (sz n:Nat):∀ (css:List (List Value)) (k:Nat) (pre z:List Value),pre.length=k*sz→z.length=css.length*sz→(∀ c∈css,c.length=sz)→k+css.length=n →
  vN ((List.range n).map fun i=>(i*sz,sz)) (pre++z) ((css.zipIdx k).map fun p=>(p.2,p.1))=some (pre++css.flatten)
 | [],k,pre,z,_,hz,_,_=>by
  have:z=[]:=List.eq_nil_of_length_eq_zero (by simpa using hz)
  subst this
  simp [vN]
 | c :: css,k,pre,z,hp,hz,hc,hn=>by
  have hcl:=hc c List.mem_cons_self
  simp only [List.length_cons] at hz hn
  have hpl:((List.range n).map fun i=>(i*sz,sz))[k]?=some (k*sz,sz):=by
   rw [List.getElem?_map,List.getElem?_range (by omega)];rfl
  have hz1:z.length=sz+css.length*sz:=by rw [hz,Nat.add_mul,Nat.one_mul,Nat.add_comm]
  have hle:k*sz+c.length≤(pre++z).length:=by rw [List.length_append,hp,hcl];omega
  have e1:Nat.beq c.length sz=true:=by rw [hcl];exact Nat.beq_refl sz
  have e2:Nat.ble (k*sz+c.length) (pre++z).length=true:=Eq.mpr Nat.ble_eq hle
  rw [List.zipIdx_cons,List.map_cons]
  simp only [vN,hpl,e1,e2,Bool.and_self,cond_true]
  have e3:setRow (pre++z) (k*sz) c=(pre++c)++z.drop sz:=by
   rw [II _ _ _ hle,← hp,List.take_left' rfl,List.drop_append,List.drop_of_length_le (by omega),List.nil_append,hcl]
   congr 2;omega
  rw [e3,QD sz n css (k+1) (pre++c) (z.drop sz) (by rw [List.length_append,hp,hcl,Nat.succ_mul]) (by rw [List.length_drop];omega) (fun q hq=>hc q (List.mem_cons_of_mem _ hq)) (by omega)]
  simp
/-- A slice whose elements are all given. -/
theorem ad3 {t e:TypeId} {sz bytes:Nat} {zero:List Value} {agg:Bool} (hs:P.underlying t=some (.slice e)) (ht:Ty P e sz bytes zero agg) {n:Nat} {xs:List (Nat × Operand)} {vs:List (Nat × Value)} (css:List (List Value)) (H:St N D w0 F G0 G L T a w) (hw:Region.wanted ⟨some d,.buildSlice t n xs.toArray,ty,pos,aG,g⟩ (yielded ops a.tmps)=true)
  (hx:pts T xs=some vs) (hv:vs.map (fun x=>(x.1,x.2.cells.toList))=(css.zipIdx 0).map fun p=>(p.2,p.1)) (hl:css.all (fun c=>Nat.beq c.length sz)=true) (hcn:Nat.beq css.length n=true) (hn:Nat.ble (n*sz) 1000=true) (hn0:Nat.beq (n*sz) 0=false) (hd:Nat.blt d N=true)
  (k:∀ b a' w',w0.heap.size≤b→St N D w0 F G0 G ((b,.cells css.flatten.toArray e (0,0)) :: L) ((d,.slice (some ⟨b,0,none⟩) n n) :: T) a' w'→WL r P ops Q rest a' w'):WL r P ops Q (⟨some d,.buildSlice t n xs.toArray,ty,pos,aG,g⟩ :: rest) a w:=by
 have hcn':css.length=n:=Nat.eq_of_beq_eq_true hcn
 refine fM (vs':=(css.zipIdx 0).map fun p=>(p.2,p.1)) hs ht ((List.range (n*sz)).map (fun i=>zero[i % zero.length]!)) css.flatten H hw hx hv hn hn0 rfl (fun i q h=>?_) ?_ hd k
 ·rw [List.getElem?_map] at h
  obtain ⟨j,hj,rfl⟩:=Option.map_eq_some_iff.1 h
  obtain ⟨h1,h2⟩:=List.getElem?_eq_some_iff.1 hj
  rw [List.getElem_range] at h2
  rw [h2]
 ·have h:=QD sz n css 0 [] ((List.range (n*sz)).map (fun i=>zero[i % zero.length]!)) (by simp) (by simp [hcn']) (fun c hc=>Nat.eq_of_beq_eq_true (List.all_eq_true.1 hl c hc)) (by omega)
  simpa using h
end
end
section
open Go.RowKit
theorem kU:Tryz.prog.underlying 3=some (.int .i64):=by kernel_rfl
theorem EX:Tryz.prog.underlying 5=some (.int .u8):=by kernel_rfl
theorem fB:Tryz.prog.underlying 9=some .string:=by kernel_rfl
theorem Yw:∀ args w,(callFunc 134 args).run Tryz.prog w=.ok (.enter 134 args) w:=enters Tryz.func134 rfl (by kernel_rfl)
theorem Yk:∀ args w,(callFunc 123 args).run Tryz.prog w=.ok (.enter 123 args) w:=enters Tryz.func123 rfl (by kernel_rfl)
theorem Yb:∀ args w,(callFunc 112 args).run Tryz.prog w=.ok (.enter 112 args) w:=enters Tryz.func112 rfl (by kernel_rfl)
theorem DN:∀ args w,(callFunc 85 args).run Tryz.prog w=.ok (.enter 85 args) w:=enters Tryz.func85 rfl (by kernel_rfl)
/-- The bounds of the second byte behind a first one, and the number of bytes of the encoding. -/
def fU (b:Int):Int × Int × Int :=
  (if b=224 then 160 else if b=240 then 144 else 128,if b=237 then 159 else if b=244 then 143 else 191,
   if b < 128 then 1 else if b < 194∨244 < b then 0 else if b < 224 then 2 else if b < 240 then 3 else 4)
theorem NG (b:Int):0≤(fU b).2.2∧(fU b).2.2≤4:=by
 simp only [fU];split
 ·omega
 split
 ·omega
 split
 ·omega
 split <;> omega
theorem aeS (G:GH) (w0:World) (hG:Hold G w0) (b:Int) :
  Calls Tryz.prog 134 #[.int .u8 b] w0 (aU w0 G fun v G'=>v=.tuple #[.int .u8 (fU b).1,.int .u8 (fU b).2.1,.int .i64 (fU b).2.2]∧G=G'):=by
 refine eN [(0,_)] Tryz.func134 rfl Tryz.ntmps134 rfl rfl hG ?_;intro a H;refine kP H (SR fun _ K1=>Ra rfl (Ra rfl (Ra rfl (Kz K1 (SR fun _ K2=>Ra rfl (Ra rfl (Kz K2 (SQ fun _ K3=>SB (SR fun _ K4=>Rm rfl (Rc rfl ?_))))))))));clear H K1 K2;intro a H;refine kH H (Ra rfl (Kz K4 (Cd rfl ?_ ?_))) <;> clear H K4
 ·intro h5 a H
  try have p5:=dT h5
  refine kP H (SC (Ra rfl (Kn K3 (SQ fun _ K5=>SR fun _ K6=>Rm rfl (Kz K6 (SB (SR fun _ K7=>Rc rfl (Ra rfl (Kz K7 (Cd rfl ?_ ?_)))))))))) <;> clear H K3 K6 K7
  ·intro h22 a H
   try have gP:=dT h22
   refine kP H (SC (Ra rfl (Kn K5 (SR fun _ K8=>Rm rfl (Rm rfl (Rm rfl (Ra rfl (Ra rfl (Ra rfl (Kz K8 ?_))))))))));clear H K5 K8;intro a H;refine aR ?_;refine (bU H Tryz.results134 (.cons (aF H rfl) (.cons (aF H rfl) (.cons (aF H rfl) .nil))) ?_).1
   first|(exfalso;omega)|exact H.hp.ret ⟨by simp only [fU];repeat (first|rw [if_pos (by omega)]|rw [if_neg (by omega)]),rfl⟩
  intro h22 a H
  try have gP:=dF h22
  refine kP H (SR fun _ K9=>Rc rfl (Ra rfl (Kz K9 (Cd rfl ?_ ?_)))) <;> clear H K9
  ·intro dM a H
   try have jA:=dT dM
   refine kP H (SC (Ra rfl (Kn K5 (SR fun _ aH=>Rm rfl (Rm rfl (Rm rfl (Ra rfl (Ra rfl (Ra rfl (Kz aH ?_))))))))));clear H K5 aH;intro a H;refine aR ?_;refine (bU H Tryz.results134 (.cons (aF H rfl) (.cons (aF H rfl) (.cons (aF H rfl) .nil))) ?_).1
   first|(exfalso;omega)|exact H.hp.ret ⟨by simp only [fU];repeat (first|rw [if_pos (by omega)]|rw [if_neg (by omega)]),rfl⟩
  intro dM a H
  try have jA:=dF dM
  refine kP H (SR fun _ aX=>Rc rfl (Ra rfl (Kz aX (Cd rfl ?_ ?_)))) <;> clear H aX
  ·intro iE a H
   try have p26:=dT iE
   refine kP H (SC (Ra rfl (Kn K5 (SR fun _ bD=>Rm rfl (Rm rfl (Rm rfl (Ra rfl (Ra rfl (Ra rfl (Kz bD ?_))))))))));clear H K5 bD;intro a H;refine aR ?_;refine (bU H Tryz.results134 (.cons (aF H rfl) (.cons (aF H rfl) (.cons (aF H rfl) .nil))) ?_).1
   first|(exfalso;omega)|exact H.hp.ret ⟨by simp only [fU];repeat (first|rw [if_pos (by omega)]|rw [if_neg (by omega)]),rfl⟩
  intro iE a H
  try have p26:=dF iE
  refine kP H (SR fun _ bH=>Rc rfl (Ra rfl (Kz bH (Cd rfl ?_ ?_)))) <;> clear H bH
  ·intro bW a H
   try have p28:=dT bW
   refine kP H (SC (Ra rfl (Kn K5 (SR fun _ bG=>Rm rfl (Rm rfl (Rm rfl (Ra rfl (Ra rfl (Ra rfl (Kz bG ?_))))))))));clear H K5 bG;intro a H;refine aR ?_;refine (bU H Tryz.results134 (.cons (aF H rfl) (.cons (aF H rfl) (.cons (aF H rfl) .nil))) ?_).1
   first|(exfalso;omega)|exact H.hp.ret ⟨by simp only [fU];repeat (first|rw [if_pos (by omega)]|rw [if_neg (by omega)]),rfl⟩
  intro bW a H
  try have p28:=dF bW
  refine kP H (Kc K5 (SR fun _ bV=>Rm rfl (Rm rfl (Rm rfl (Ra rfl (Ra rfl (Ra rfl (Kz bV ?_))))))));clear H K5 bV;intro a H;refine aR ?_;refine (bU H Tryz.results134 (.cons (aF H rfl) (.cons (aF H rfl) (.cons (aF H rfl) .nil))) ?_).1
  first|(exfalso;omega)|exact H.hp.ret ⟨by simp only [fU];repeat (first|rw [if_pos (by omega)]|rw [if_neg (by omega)]),rfl⟩
 intro h5 a H
 try have p5:=dF h5
 refine kP H (SR fun _ bQ=>Rm rfl (Rc rfl (Rm rfl (Sp 11 rfl ?_ ?_)))) <;> clear H
 ·intro h11 a H
  try have ow:=dT h11
  refine kH H (Ks h11 rfl (Ks h11 rfl (Pt h11 rfl (Ra rfl (Kz bQ (Ct rfl rfl (SC (Ra rfl (Kn K3 (SQ fun _ bS=>SR fun _ cO=>Rm rfl (Kz cO (SB ?_))))))))))));clear H bQ K3 cO;intro a H;refine kP H (SR fun _ dV=>Rc rfl (Ra rfl (Kz dV (Cd rfl ?_ ?_)))) <;> clear H dV
  ·intro h22 a H
   try have gP:=dT h22
   refine kP H (SC (Ra rfl (Kn bS (SR fun _ dI=>Rm rfl (Rm rfl (Rm rfl (Ra rfl (Ra rfl (Ra rfl (Kz dI ?_))))))))));clear H bS dI;intro a H;refine aR ?_;refine (bU H Tryz.results134 (.cons (aF H rfl) (.cons (aF H rfl) (.cons (aF H rfl) .nil))) ?_).1
   first|(exfalso;omega)|exact H.hp.ret ⟨by simp only [fU];repeat (first|rw [if_pos (by omega)]|rw [if_neg (by omega)]),rfl⟩
  intro h22 a H
  try have gP:=dF h22
  refine kP H (SR fun _ eH=>Rc rfl (Ra rfl (Kz eH (Cd rfl ?_ ?_)))) <;> clear H eH
  ·intro dM a H
   try have jA:=dT dM
   refine kP H (SC (Ra rfl (Kn bS (SR fun _ fq=>Rm rfl (Rm rfl (Rm rfl (Ra rfl (Ra rfl (Ra rfl (Kz fq ?_))))))))));clear H bS fq;intro a H;refine aR ?_;refine (bU H Tryz.results134 (.cons (aF H rfl) (.cons (aF H rfl) (.cons (aF H rfl) .nil))) ?_).1
   first|(exfalso;omega)|exact H.hp.ret ⟨by simp only [fU];repeat (first|rw [if_pos (by omega)]|rw [if_neg (by omega)]),rfl⟩
  intro dM a H
  try have jA:=dF dM
  refine kP H (SR fun _ gK=>Rc rfl (Ra rfl (Kz gK (Cd rfl ?_ ?_)))) <;> clear H gK
  ·intro iE a H
   try have p26:=dT iE
   refine kP H (SC (Ra rfl (Kn bS (SR fun _ gF=>Rm rfl (Rm rfl (Rm rfl (Ra rfl (Ra rfl (Ra rfl (Kz gF ?_))))))))));clear H bS gF;intro a H;refine aR ?_;refine (bU H Tryz.results134 (.cons (aF H rfl) (.cons (aF H rfl) (.cons (aF H rfl) .nil))) ?_).1
   first|(exfalso;omega)|exact H.hp.ret ⟨by simp only [fU];repeat (first|rw [if_pos (by omega)]|rw [if_neg (by omega)]),rfl⟩
  intro iE a H
  try have p26:=dF iE
  refine kP H (SR fun _ fO=>Rc rfl (Ra rfl (Kz fO (Cd rfl ?_ ?_)))) <;> clear H fO
  ·intro bW a H
   try have p28:=dT bW
   refine kP H (SC (Ra rfl (Kn bS (SR fun _ iF=>Rm rfl (Rm rfl (Rm rfl (Ra rfl (Ra rfl (Ra rfl (Kz iF ?_))))))))));clear H bS iF;intro a H;refine aR ?_;refine (bU H Tryz.results134 (.cons (aF H rfl) (.cons (aF H rfl) (.cons (aF H rfl) .nil))) ?_).1
   first|(exfalso;omega)|exact H.hp.ret ⟨by simp only [fU];repeat (first|rw [if_pos (by omega)]|rw [if_neg (by omega)]),rfl⟩
  intro bW a H
  try have p28:=dF bW
  refine kP H (Kc bS (SR fun _ iT=>Rm rfl (Rm rfl (Rm rfl (Ra rfl (Ra rfl (Ra rfl (Kz iT ?_))))))));clear H bS iT;intro a H;refine aR ?_;refine (bU H Tryz.results134 (.cons (aF H rfl) (.cons (aF H rfl) (.cons (aF H rfl) .nil))) ?_).1
  first|(exfalso;omega)|exact H.hp.ret ⟨by simp only [fU];repeat (first|rw [if_pos (by omega)]|rw [if_neg (by omega)]),rfl⟩
 intro h11 a H
 try have ow:=dF h11
 refine kH H (YM h11 rfl (YC h11 rfl (Pf h11 rfl (Ra rfl (Kz bQ (Cd rfl ?_ ?_)))))) <;> clear H bQ
 ·intro h8 a H
  try have p8:=dT h8
  refine kP H (SC (Ra rfl (Kn K3 (SQ fun _ gL=>SR fun _ jG=>Rm rfl (Kz jG (SB (SR fun _ jV=>Rc rfl (Ra rfl (Kz jV (Cd rfl ?_ ?_)))))))))) <;> clear H K3 jG jV
  ·intro h22 a H
   try have gP:=dT h22
   refine kP H (SC (Ra rfl (Kn gL (SR fun _ kV=>Rm rfl (Rm rfl (Rm rfl (Ra rfl (Ra rfl (Ra rfl (Kz kV ?_))))))))));clear H gL kV;intro a H;refine aR ?_;refine (bU H Tryz.results134 (.cons (aF H rfl) (.cons (aF H rfl) (.cons (aF H rfl) .nil))) ?_).1
   first|(exfalso;omega)|exact H.hp.ret ⟨by simp only [fU];repeat (first|rw [if_pos (by omega)]|rw [if_neg (by omega)]),rfl⟩
  intro h22 a H
  try have gP:=dF h22
  refine kP H (SR fun _ kE=>Rc rfl (Ra rfl (Kz kE (Cd rfl ?_ ?_)))) <;> clear H kE
  ·intro dM a H
   try have jA:=dT dM
   refine kP H (SC (Ra rfl (Kn gL (SR fun _ ko=>Rm rfl (Rm rfl (Rm rfl (Ra rfl (Ra rfl (Ra rfl (Kz ko ?_))))))))));clear H gL ko;intro a H;refine aR ?_;refine (bU H Tryz.results134 (.cons (aF H rfl) (.cons (aF H rfl) (.cons (aF H rfl) .nil))) ?_).1
   first|(exfalso;omega)|exact H.hp.ret ⟨by simp only [fU];repeat (first|rw [if_pos (by omega)]|rw [if_neg (by omega)]),rfl⟩
  intro dM a H
  try have jA:=dF dM
  refine kP H (SR fun _ nD=>Rc rfl (Ra rfl (Kz nD (Cd rfl ?_ ?_)))) <;> clear H nD
  ·intro iE a H
   try have p26:=dT iE
   refine kP H (SC (Ra rfl (Kn gL (SR fun _ oM=>Rm rfl (Rm rfl (Rm rfl (Ra rfl (Ra rfl (Ra rfl (Kz oM ?_))))))))));clear H gL oM;intro a H;refine aR ?_;refine (bU H Tryz.results134 (.cons (aF H rfl) (.cons (aF H rfl) (.cons (aF H rfl) .nil))) ?_).1
   first|(exfalso;omega)|exact H.hp.ret ⟨by simp only [fU];repeat (first|rw [if_pos (by omega)]|rw [if_neg (by omega)]),rfl⟩
  intro iE a H
  try have p26:=dF iE
  refine kP H (SR fun _ mH=>Rc rfl (Ra rfl (Kz mH (Cd rfl ?_ ?_)))) <;> clear H mH
  ·intro bW a H
   try have p28:=dT bW
   refine kP H (SC (Ra rfl (Kn gL (SR fun _ qm=>Rm rfl (Rm rfl (Rm rfl (Ra rfl (Ra rfl (Ra rfl (Kz qm ?_))))))))));clear H gL qm;intro a H;refine aR ?_;refine (bU H Tryz.results134 (.cons (aF H rfl) (.cons (aF H rfl) (.cons (aF H rfl) .nil))) ?_).1
   first|(exfalso;omega)|exact H.hp.ret ⟨by simp only [fU];repeat (first|rw [if_pos (by omega)]|rw [if_neg (by omega)]),rfl⟩
  intro bW a H
  try have p28:=dF bW
  refine kP H (Kc gL (SR fun _ vk=>Rm rfl (Rm rfl (Rm rfl (Ra rfl (Ra rfl (Ra rfl (Kz vk ?_))))))));clear H gL vk;intro a H;refine aR ?_;refine (bU H Tryz.results134 (.cons (aF H rfl) (.cons (aF H rfl) (.cons (aF H rfl) .nil))) ?_).1
  first|(exfalso;omega)|exact H.hp.ret ⟨by simp only [fU];repeat (first|rw [if_pos (by omega)]|rw [if_neg (by omega)]),rfl⟩
 intro h8 a H
 try have p8:=dF h8
 refine kP H (SR fun _ vo=>Rm rfl (Rc rfl (Ra rfl (Kz vo (Cd rfl ?_ ?_))))) <;> clear H vo
 ·intro iM a H
  try have kQ:=dT iM
  refine kP H (SC (Ra rfl (Kn K3 (SQ fun _ kW=>SR fun _ wH=>Rm rfl (Kz wH (SB (SR fun _ yw=>Rc rfl (Ra rfl (Kz yw (Cd rfl ?_ ?_)))))))))) <;> clear H K3 wH yw
  ·intro h22 a H
   try have gP:=dT h22
   refine kP H (SC (Ra rfl (Kn kW (SR fun _ zF=>Rm rfl (Rm rfl (Rm rfl (Ra rfl (Ra rfl (Ra rfl (Kz zF ?_))))))))));clear H kW zF;intro a H;refine aR ?_;refine (bU H Tryz.results134 (.cons (aF H rfl) (.cons (aF H rfl) (.cons (aF H rfl) .nil))) ?_).1
   first|(exfalso;omega)|exact H.hp.ret ⟨by simp only [fU];repeat (first|rw [if_pos (by omega)]|rw [if_neg (by omega)]),rfl⟩
  intro h22 a H
  try have gP:=dF h22
  refine kP H (SR fun _ yx=>Rc rfl (Ra rfl (Kz yx (Cd rfl ?_ ?_)))) <;> clear H yx
  ·intro dM a H
   try have jA:=dT dM
   refine kP H (SC (Ra rfl (Kn kW (SR fun _ zG=>Rm rfl (Rm rfl (Rm rfl (Ra rfl (Ra rfl (Ra rfl (Kz zG ?_))))))))));clear H kW zG;intro a H;refine aR ?_;refine (bU H Tryz.results134 (.cons (aF H rfl) (.cons (aF H rfl) (.cons (aF H rfl) .nil))) ?_).1
   first|(exfalso;omega)|exact H.hp.ret ⟨by simp only [fU];repeat (first|rw [if_pos (by omega)]|rw [if_neg (by omega)]),rfl⟩
  intro dM a H
  try have jA:=dF dM
  refine kP H (SR fun _ Dg=>Rc rfl (Ra rfl (Kz Dg (Cd rfl ?_ ?_)))) <;> clear H Dg
  ·intro iE a H
   try have p26:=dT iE
   refine kP H (SC (Ra rfl (Kn kW (SR fun _ Dh=>Rm rfl (Rm rfl (Rm rfl (Ra rfl (Ra rfl (Ra rfl (Kz Dh ?_))))))))));clear H kW Dh;intro a H;refine aR ?_;refine (bU H Tryz.results134 (.cons (aF H rfl) (.cons (aF H rfl) (.cons (aF H rfl) .nil))) ?_).1
   first|(exfalso;omega)|exact H.hp.ret ⟨by simp only [fU];repeat (first|rw [if_pos (by omega)]|rw [if_neg (by omega)]),rfl⟩
  intro iE a H
  try have p26:=dF iE
  refine kP H (SR fun _ Fw=>Rc rfl (Ra rfl (Kz Fw (Cd rfl ?_ ?_)))) <;> clear H Fw
  ·intro bW a H
   try have p28:=dT bW
   refine kP H (SC (Ra rfl (Kn kW (SR fun _ Fx=>Rm rfl (Rm rfl (Rm rfl (Ra rfl (Ra rfl (Ra rfl (Kz Fx ?_))))))))));clear H kW Fx;intro a H;refine aR ?_;refine (bU H Tryz.results134 (.cons (aF H rfl) (.cons (aF H rfl) (.cons (aF H rfl) .nil))) ?_).1
   first|(exfalso;omega)|exact H.hp.ret ⟨by simp only [fU];repeat (first|rw [if_pos (by omega)]|rw [if_neg (by omega)]),rfl⟩
  intro bW a H
  try have p28:=dF bW
  refine kP H (Kc kW (SR fun _ Oj=>Rm rfl (Rm rfl (Rm rfl (Ra rfl (Ra rfl (Ra rfl (Kz Oj ?_))))))));clear H kW Oj;intro a H;refine aR ?_;refine (bU H Tryz.results134 (.cons (aF H rfl) (.cons (aF H rfl) (.cons (aF H rfl) .nil))) ?_).1
  first|(exfalso;omega)|exact H.hp.ret ⟨by simp only [fU];repeat (first|rw [if_pos (by omega)]|rw [if_neg (by omega)]),rfl⟩
 intro iM a H
 try have kQ:=dF iM
 refine kP H (SR fun _ Ol=>Rm rfl (Rc rfl (Ra rfl (Kz Ol (Cd rfl ?_ ?_))))) <;> clear H Ol
 ·intro h18 a H
  try have oZ:=dT h18
  refine kP H (SC (Ra rfl (Kn K3 (SQ fun _ vv=>SR fun _ Om=>Rm rfl (Kz Om (SB (SR fun _ Oo=>Rc rfl (Ra rfl (Kz Oo (Cd rfl ?_ ?_)))))))))) <;> clear H K3 Om Oo
  ·intro h22 a H
   try have gP:=dT h22
   refine kP H (SC (Ra rfl (Kn vv (SR fun _ Oq=>Rm rfl (Rm rfl (Rm rfl (Ra rfl (Ra rfl (Ra rfl (Kz Oq ?_))))))))));clear H vv Oq;intro a H;refine aR ?_;refine (bU H Tryz.results134 (.cons (aF H rfl) (.cons (aF H rfl) (.cons (aF H rfl) .nil))) ?_).1
   first|(exfalso;omega)|exact H.hp.ret ⟨by simp only [fU];repeat (first|rw [if_pos (by omega)]|rw [if_neg (by omega)]),rfl⟩
  intro h22 a H
  try have gP:=dF h22
  refine kP H (SR fun _ Ot=>Rc rfl (Ra rfl (Kz Ot (Cd rfl ?_ ?_)))) <;> clear H Ot
  ·intro dM a H
   try have jA:=dT dM
   refine kP H (SC (Ra rfl (Kn vv (SR fun _ Ou=>Rm rfl (Rm rfl (Rm rfl (Ra rfl (Ra rfl (Ra rfl (Kz Ou ?_))))))))));clear H vv Ou;intro a H;refine aR ?_;refine (bU H Tryz.results134 (.cons (aF H rfl) (.cons (aF H rfl) (.cons (aF H rfl) .nil))) ?_).1
   first|(exfalso;omega)|exact H.hp.ret ⟨by simp only [fU];repeat (first|rw [if_pos (by omega)]|rw [if_neg (by omega)]),rfl⟩
  intro dM a H
  try have jA:=dF dM
  refine kP H (SR fun _ Ov=>Rc rfl (Ra rfl (Kz Ov (Cd rfl ?_ ?_)))) <;> clear H Ov
  ·intro iE a H
   try have p26:=dT iE
   refine kP H (SC (Ra rfl (Kn vv (SR fun _ Ow=>Rm rfl (Rm rfl (Rm rfl (Ra rfl (Ra rfl (Ra rfl (Kz Ow ?_))))))))));clear H vv Ow;intro a H;refine aR ?_;refine (bU H Tryz.results134 (.cons (aF H rfl) (.cons (aF H rfl) (.cons (aF H rfl) .nil))) ?_).1
   first|(exfalso;omega)|exact H.hp.ret ⟨by simp only [fU];repeat (first|rw [if_pos (by omega)]|rw [if_neg (by omega)]),rfl⟩
  intro iE a H
  try have p26:=dF iE
  refine kP H (SR fun _ Ox=>Rc rfl (Ra rfl (Kz Ox (Cd rfl ?_ ?_)))) <;> clear H Ox
  ·intro bW a H
   try have p28:=dT bW
   refine kP H (SC (Ra rfl (Kn vv (SR fun _ Oy=>Rm rfl (Rm rfl (Rm rfl (Ra rfl (Ra rfl (Ra rfl (Kz Oy ?_))))))))));clear H vv Oy;intro a H;refine aR ?_;refine (bU H Tryz.results134 (.cons (aF H rfl) (.cons (aF H rfl) (.cons (aF H rfl) .nil))) ?_).1
   first|(exfalso;omega)|exact H.hp.ret ⟨by simp only [fU];repeat (first|rw [if_pos (by omega)]|rw [if_neg (by omega)]),rfl⟩
  intro bW a H
  try have p28:=dF bW
  refine kP H (Kc vv (SR fun _ Oz=>Rm rfl (Rm rfl (Rm rfl (Ra rfl (Ra rfl (Ra rfl (Kz Oz ?_))))))));clear H vv Oz;intro a H;refine aR ?_;refine (bU H Tryz.results134 (.cons (aF H rfl) (.cons (aF H rfl) (.cons (aF H rfl) .nil))) ?_).1
  first|(exfalso;omega)|exact H.hp.ret ⟨by simp only [fU];repeat (first|rw [if_pos (by omega)]|rw [if_neg (by omega)]),rfl⟩
 intro h18 a H
 try have oZ:=dF h18
 refine kP H (SC (Ra rfl (Kn K3 (SQ fun _ vw=>SR fun _ OA=>Rm rfl (Kz OA (SB (SR fun _ OB=>Rc rfl (Ra rfl (Kz OB (Cd rfl ?_ ?_)))))))))) <;> clear H K3 OA OB
 ·intro h22 a H
  try have gP:=dT h22
  refine kP H (SC (Ra rfl (Kn vw (SR fun _ OC=>Rm rfl (Rm rfl (Rm rfl (Ra rfl (Ra rfl (Ra rfl (Kz OC ?_))))))))));clear H vw OC;intro a H;refine aR ?_;refine (bU H Tryz.results134 (.cons (aF H rfl) (.cons (aF H rfl) (.cons (aF H rfl) .nil))) ?_).1
  first|(exfalso;omega)|exact H.hp.ret ⟨by simp only [fU];repeat (first|rw [if_pos (by omega)]|rw [if_neg (by omega)]),rfl⟩
 intro h22 a H
 try have gP:=dF h22
 refine kP H (SR fun _ OD=>Rc rfl (Ra rfl (Kz OD (Cd rfl ?_ ?_)))) <;> clear H OD
 ·intro dM a H
  try have jA:=dT dM
  refine kP H (SC (Ra rfl (Kn vw (SR fun _ OE=>Rm rfl (Rm rfl (Rm rfl (Ra rfl (Ra rfl (Ra rfl (Kz OE ?_))))))))));clear H vw OE;intro a H;refine aR ?_;refine (bU H Tryz.results134 (.cons (aF H rfl) (.cons (aF H rfl) (.cons (aF H rfl) .nil))) ?_).1
  first|(exfalso;omega)|exact H.hp.ret ⟨by simp only [fU];repeat (first|rw [if_pos (by omega)]|rw [if_neg (by omega)]),rfl⟩
 intro dM a H
 try have jA:=dF dM
 refine kP H (SR fun _ OG=>Rc rfl (Ra rfl (Kz OG (Cd rfl ?_ ?_)))) <;> clear H OG
 ·intro iE a H
  try have p26:=dT iE
  refine kP H (SC (Ra rfl (Kn vw (SR fun _ OH=>Rm rfl (Rm rfl (Rm rfl (Ra rfl (Ra rfl (Ra rfl (Kz OH ?_))))))))));clear H vw OH;intro a H;refine aR ?_;refine (bU H Tryz.results134 (.cons (aF H rfl) (.cons (aF H rfl) (.cons (aF H rfl) .nil))) ?_).1
  first|(exfalso;omega)|exact H.hp.ret ⟨by simp only [fU];repeat (first|rw [if_pos (by omega)]|rw [if_neg (by omega)]),rfl⟩
 intro iE a H
 try have p26:=dF iE
 refine kP H (SR fun _ OI=>Rc rfl (Ra rfl (Kz OI (Cd rfl ?_ ?_)))) <;> clear H OI
 ·intro bW a H
  try have p28:=dT bW
  refine kP H (SC (Ra rfl (Kn vw (SR fun _ OJ=>Rm rfl (Rm rfl (Rm rfl (Ra rfl (Ra rfl (Ra rfl (Kz OJ ?_))))))))));clear H vw OJ;intro a H;refine aR ?_;refine (bU H Tryz.results134 (.cons (aF H rfl) (.cons (aF H rfl) (.cons (aF H rfl) .nil))) ?_).1
  first|(exfalso;omega)|exact H.hp.ret ⟨by simp only [fU];repeat (first|rw [if_pos (by omega)]|rw [if_neg (by omega)]),rfl⟩
 intro bW a H
 try have p28:=dF bW
 refine kP H (Kc vw (SR fun _ OM=>Rm rfl (Rm rfl (Rm rfl (Ra rfl (Ra rfl (Ra rfl (Kz OM ?_))))))));clear H vw OM;intro a H;refine aR ?_;refine (bU H Tryz.results134 (.cons (aF H rfl) (.cons (aF H rfl) (.cons (aF H rfl) .nil))) ?_).1
 first|(exfalso;omega)|exact H.hp.ret ⟨by simp only [fU];repeat (first|rw [if_pos (by omega)]|rw [if_neg (by omega)]),rfl⟩
def fC (s:ByteArray) (i:Nat):Int:=if h:i < s.size then (s[i].toNat:Int) else 0
theorem jQ {s:ByteArray} {i:Nat} (h:i < s.size):fC s i=(s[i].toNat:Int):=by simp [fC,h]
/-- The bytes behind the first one: how far they are right; the number so far. -/
def qz (s:ByteArray) (at_ n:Nat):(fuel k:Nat)→(low high p:Int)→Int × Nat × Bool
 | 0,k,_,_,p=>(p,k,true)
 | f+1,k,low,high,p =>
  if n≤k then (p,k,true)
  else if s.size≤at_+k∨fC s (at_+k) < low∨high < fC s (at_+k) then (0,k,false)
  else qz s at_ n f (k+1) 128 191 (qx .or .i64 (IntKind.i64.wrap (p*2 ^ 6)) (qx .and .i64 (fC s (at_+k)) 63))
/-- decode: the code point, the bytes that belong to it, whether it is complete. -/
def ku (s:ByteArray) (at_:Nat):Int × Nat × Bool :=
 let b:=fC s at_
 let t:=fU b
 if t.2.2=0 then (0,0,false) else if t.2.2=1 then (b,1,true)
 else qz s at_ t.2.2.toNat 4 1 t.1 t.2.1 (qx .and .i64 b ((127:Int).fdiv (2 ^ t.2.2.toNat)))
theorem NJ (n:UInt8):IntKind.i64.wrap (n.toNat:Int)=(n.toNat:Int):=EF (by omega) (by have:=n.toNat_lt;omega)
set_option maxHeartbeats 1000000 in
theorem XJ (G:GH) (w0:World) (hG:Hold G w0) (s:ByteArray) (i:Nat) (hi:i < s.size) (hs:s.size < 4611686018427387904) :
  Calls Tryz.prog 123 #[.string s,.int .i64 i] w0 (aU w0 G fun v G'=>v=.tuple #[.int .i64 (ku s i).1,.int .i64 (ku s i).2.1,.bool (ku s i).2.2]∧G=G'):=by
 have hb:=jQ hi;obtain ⟨n,hn⟩:∃ n:Nat,(fU (fC s i)).2.2=(n:Int):=⟨(fU (fC s i)).2.2.toNat,by have:=NG (fC s i);omega⟩
 have hn4:n≤4:=by have:=NG (fC s i);omega
 refine eN [(0,_),(1,_)] Tryz.func123 rfl Tryz.ntmps123 rfl rfl hG ?_;intro a H;refine kP H (SR fun _ K1=>Ra rfl (Ra rfl (Ra rfl (Kz K1 (SR fun _ K2=>Rm rfl (Rm rfl ?_))))));clear H K1;intro a H;refine lC _ fB H wn rfl rfl rfl (by first|assumption|omega) rfl ?_;clear H;intro a H;refine kH H (Ra rfl ?_);clear H;intro a H;rw [← hb] at H;refine K2 _ _ ?_;clear K2;refine kP H (SR fun _ K3=>Rm rfl ?_);clear H;intro a H;refine s_call Yw H wn rfl (aeS _ _ H.hp.ro _) rfl ?_;clear H;rintro v16 _ a w ⟨rfl,rfl⟩ - H;refine kH H (Rm rfl ?_);clear H;intro a H;(iterate 3 refine gV H wn rfl rfl rfl ?_;clear H;intro a H);refine kH H (Ra rfl (Ra rfl (Ra rfl (Kz K3 (SQ fun _ K4=>SR fun _ K5=>Rm rfl (Kz K5 (SB (SR fun _ K6=>Rc rfl (Ra rfl (Kz K6 (Cd rfl ?_ ?_))))))))))) <;> clear H K3 K5 K6
 ·intro h21 a H
  try have lS:=dT h21
  refine kP H (SR fun _ K7=>Ra rfl (Ra rfl (Ra rfl (Kz K7 ?_))));clear H K7;intro a H;refine aR ?_;skip;refine (bU H Tryz.results123 (.cons (aF H rfl) (.cons (aF H rfl) (.cons (aF H rfl) .nil))) ?_).1;exact H.hp.ret ⟨by simp [ku,lS],rfl⟩
 intro h21 a H
 try have lS:=dF h21
 refine kP H (SR fun _ K8=>Rc rfl (Ra rfl (Kz K8 (Cd rfl ?_ ?_)))) <;> clear H K8
 ·intro h23 a H
  try have y9:=dT h23
  refine kP H (SR fun _ K9=>Rm rfl ?_);clear H;intro a H;refine Cr (fC s i) kU EX H wn rfl (by rw [hb];exact NJ _) rfl ?_;clear H;intro a H;refine kH H (Ra rfl (Ra rfl (Ra rfl (Kz K9 ?_))));clear H K9;intro a H;refine aR ?_;skip;refine (bU H Tryz.results123 (.cons (aF H rfl) (.cons (aF H rfl) (.cons (aF H rfl) .nil))) ?_).1;exact H.hp.ret ⟨by simp [ku,lS,y9],rfl⟩
 intro h23 a H
 try have y9:=dF h23
 refine kP H (Kc K4 (SR fun _ aH=>Rm rfl ?_));clear H K4;intro a H;refine Cr (fC s i) kU EX H wn rfl (by rw [hb];exact NJ _) rfl ?_;clear H;intro a H;refine kH H (Rm rfl ?_);clear H;intro a H;refine TY n H wn rfl rfl (by rw [hn]) (by show n≤64;omega) rfl ?_;clear H;intro a H;refine Iu rfl H wn rfl rfl rfl ?_;clear H;intro a H;refine kH H (Ra rfl (Kz aH (SQ fun _ aX=>SR fun _ bD=>Ra rfl (Kz bD (SB ?_)))));clear H aH bD;intro a H;skip;refine d9 (ι:=Nat × Int × Int × Int) (Tc:=[(0,_),(1,_),(10,_)]) (Lc:=[]) (fun (gh:Nat × Int × Int × Int)=>[(4,.int .i64 gh.2.2.2),(5,.int .i64 (gh.1:Int)),(8,.int .u8 gh.2.1),(9,.int .u8 gh.2.2.1)]) (fun (gh:Nat × Int × Int × Int)=>[]) (fun (gh:Nat × Int × Int × Int)=>G) (fun (gh:Nat × Int × Int × Int)=>gh.1≤4∧ku s i=qz s i n (5 - gh.1) gh.1 gh.2.1 gh.2.2.1 gh.2.2.2) (fun (gh:Nat × Int × Int × Int)=>5 - gh.1) ((1,_,_,_)) (by exact (H).sub ⟨rfl,rfl,rfl,rfl,rfl,rfl,rfl,trivial⟩) ?_ ?_
 ·refine ⟨by omega,?_⟩;simp only [ku,hn];rw [if_neg (by omega),if_neg (by omega)];rfl
 clear H;intro gh a w hI H;obtain ⟨k,low,high,p⟩:=gh;dsimp only at hI H;obtain ⟨hk,hdec⟩:=hI;dsimp only [List.cons_append,List.nil_append,List.append_nil] at H;refine kP H (SQ fun _ bH=>SR fun _ bG=>Rm rfl (Rm rfl (Rc rfl (Kz bG (Cd rfl ?_ ?_))))) <;> clear H bG
 ·intro cZ a H
  try have p34:=dT cZ
  refine kP H (Kc bH (SQ fun _ bV=>SB (SQ fun _ bQ=>SR fun _ bS=>Rm rfl (Rm rfl (Rd rfl (Rm rfl (Rv fB rfl (Rc rfl (Rm rfl (Sp 43 rfl ?_ ?_)))))))))) <;> clear H bH
  ·intro h43 a H
   try have p43:=dT h43
   refine kH H (Ks h43 rfl (Ks h43 rfl (Ks h43 rfl (Ks h43 rfl (Ks h43 rfl (Ks h43 rfl (Ks h43 rfl (Pt h43 rfl (Rm rfl (Ks rfl rfl (Ks rfl rfl (Ks rfl rfl (Ks rfl rfl (Ks rfl rfl (Ks rfl rfl (Ks rfl rfl ?_))))))))))))))));clear H;intro a H;refine kH H (Pt rfl rfl (Kz bS (Ct rfl rfl (SR fun _ cO=>Rm rfl (Ra rfl (Ra rfl (Ra rfl (Kz cO ?_))))))));clear H bS cO;intro a H;refine aR ?_
   have hfin:ku s i=(if n≤k then (p,k,true) else (0,k,false)):=by
    rw [hdec];have e:5 - k=(4 - k)+1:=by omega
    rw [e,qz]
    by_cases hk2:n≤k
    ·rw [if_pos hk2,if_pos hk2]
    rw [if_neg hk2,if_neg hk2,if_pos (by first|omega|(rw [jQ (by omega)];omega))]
   refine (bU H Tryz.results123 (.cons (aF H rfl) (.cons (aF H rfl) (.cons (aF H rfl) .nil))) ?_).1;exact H.hp.ret ⟨by rw [hfin];first|rw [if_pos (by omega)]|rw [if_neg (by omega)],rfl⟩
  intro h43 a H
  try have p43:=dF h43
  refine kH H (YM h43 rfl (YM h43 rfl (YM h43 rfl ?_)));clear H;intro a H;refine Iq _ H (wg H rfl rfl h43) rfl rfl rfl (by omega) (by omega) rfl ?_;clear H;intro a H;refine lC _ fB H (wg H rfl rfl h43) rfl rfl rfl (by first|assumption|omega) rfl ?_;clear H;intro a H;refine kH H (YM h43 rfl (YC h43 rfl (Pf h43 rfl (Rm rfl (Sp 52 rfl ?_ ?_))))) <;> clear H
  ·intro kJ a H
   try have p52:=dT kJ
   refine kH H (Ks kJ rfl (Ks kJ rfl (Ks kJ rfl (Ks kJ rfl (Ks kJ rfl (Ks kJ rfl (Ks kJ rfl (Pt kJ rfl (Kz bS (Ct rfl rfl (SR fun _ dV=>Rm rfl (Ra rfl (Ra rfl (Ra rfl ?_))))))))))))));clear H bS;intro a H;refine dV _ _ ?_;clear dV;refine aR ?_
   have hfin:ku s i=(if n≤k then (p,k,true) else (0,k,false)):=by
    rw [hdec];have e:5 - k=(4 - k)+1:=by omega
    rw [e,qz]
    by_cases hk2:n≤k
    ·rw [if_pos hk2,if_pos hk2]
    rw [if_neg hk2,if_neg hk2,if_pos (by first|omega|(rw [jQ (by omega)];omega))]
   refine (bU H Tryz.results123 (.cons (aF H rfl) (.cons (aF H rfl) (.cons (aF H rfl) .nil))) ?_).1;exact H.hp.ret ⟨by rw [hfin];first|rw [if_pos (by omega)]|rw [if_neg (by omega)],rfl⟩
  intro kJ a H
  try have p52:=dF kJ
  refine kH H (YM kJ rfl (YM kJ rfl (YM kJ rfl ?_)));clear H;intro a H;refine Iq _ H (wg H rfl rfl kJ) rfl rfl rfl (by omega) (by omega) rfl ?_;clear H;intro a H;refine lC _ fB H (wg H rfl rfl kJ) rfl rfl rfl (by first|assumption|omega) rfl ?_;clear H;intro a H;refine kH H (YM kJ rfl (YC kJ rfl (Pf kJ rfl (Kz bS (Cd rfl ?_ ?_))))) <;> clear H bS
  ·intro fF a H
   try have p60:=dT fF
   refine kP H (SR fun _ dI=>Rm rfl (Ra rfl (Ra rfl (Ra rfl (Kz dI ?_)))));clear H dI;intro a H;refine aR ?_
   have hfin:ku s i=(if n≤k then (p,k,true) else (0,k,false)):=by
    rw [hdec];have e:5 - k=(4 - k)+1:=by omega
    rw [e,qz]
    by_cases hk2:n≤k
    ·rw [if_pos hk2,if_pos hk2]
    rw [if_neg hk2,if_neg hk2,if_pos (by first|omega|(rw [jQ (by omega)];omega))]
   refine (bU H Tryz.results123 (.cons (aF H rfl) (.cons (aF H rfl) (.cons (aF H rfl) .nil))) ?_).1;exact H.hp.ret ⟨by rw [hfin];first|rw [if_pos (by omega)]|rw [if_neg (by omega)],rfl⟩
  intro fF a H
  try have p60:=dF fF
  refine kP H (Kc bQ (SR fun _ eH=>Rm rfl ?_));clear H bQ;intro a H;refine aec _ H wn rfl rfl rfl (by decide) rfl ?_;clear H;intro a H;refine kH H (Rm rfl (Rm rfl (Rm rfl (Rd rfl ?_))));clear H;intro a H;refine lC _ fB H wn rfl rfl rfl (by first|assumption|omega) rfl ?_;clear H;intro a H;refine Cr (fC s (i+k)) kU EX H wn rfl (by rw [jQ (by omega)];exact NJ _) rfl ?_;clear H;intro a H;(iterate 2 refine Iu rfl H wn rfl rfl rfl ?_;clear H;intro a H);refine kH H (Ra rfl (Kz eH (SC (Ra rfl (Ra rfl (Kn bV (SC (Rm rfl (Rd rfl (Ra rfl ?_))))))))));clear H eH bV;intro a H;refine au ?_;refine dD ((k+1,128,191,qx .or .i64 (IntKind.i64.wrap (p*2 ^ 6)) (qx .and .i64 (fC s (i+k)) 63))) (by exact (H).sub ⟨rfl,rfl,rfl,rfl,rfl,rfl,rfl,trivial⟩) ?_ ?_
  ·(try dsimp only);refine ⟨by omega,?_⟩
   have e:5 - k=(5 - (k+1))+1:=by omega
   rw [hdec,e,qz,if_neg (by omega),jQ (by omega),if_neg (by omega)]
  first|omega|(dsimp only;omega)
 intro cZ a H
 try have p34:=dF cZ
 refine dL ?_;refine aX _ _ ?_;clear aX;refine kP H (SR fun _ fq=>Rm rfl (Rm rfl (Ra rfl (Ra rfl (Ra rfl (Kz fq ?_))))));clear H fq;intro a H;refine aR ?_
 have hfin:ku s i=(if n≤k then (p,k,true) else (0,k,false)):=by
  rw [hdec];have e:5 - k=(4 - k)+1:=by omega
  rw [e,qz]
  by_cases hk2:n≤k
  ·rw [if_pos hk2,if_pos hk2]
  rw [if_neg hk2,if_neg hk2,if_pos (by first|omega|(rw [jQ (by omega)];omega))]
 refine (bU H Tryz.results123 (.cons (aF H rfl) (.cons (aF H rfl) (.cons (aF H rfl) .nil))) ?_).1;exact H.hp.ret ⟨by rw [hfin];first|rw [if_pos (by omega)]|rw [if_neg (by omega)],rfl⟩
theorem PD (s:ByteArray) (at_ n:Nat):∀ (f k:Nat) (low high p:Int),n≤k+f→k≤n→k≤(qz s at_ n f k low high p).2.1∧(qz s at_ n f k low high p).2.1≤n∧((qz s at_ n f k low high p).2.2=true→at_+k≤s.size→at_+(qz s at_ n f k low high p).2.1≤s.size)
 | 0,k,low,high,p,h1,h2=>by simp only [qz];omega
 | f+1,k,low,high,p,h1,h2=>by
  unfold qz
  split
  ·simp only [];omega
  split
  ·simp only [];omega
  have ih:=PD s at_ n f (k+1) 128 191 (qx .or .i64 (IntKind.i64.wrap (p*2 ^ 6)) (qx .and .i64 (fC s (at_+k)) 63)) (by omega) (by omega);refine ⟨by have:=ih.1;omega,ih.2.1,fun h3 h4=>ih.2.2 h3 (by omega)⟩
/-- What decode reads lies within the string. -/
theorem PE (s:ByteArray) (i:Nat) (hi:i < s.size):(ku s i).2.1≤4∧((ku s i).2.2=true→1≤(ku s i).2.1∧i+(ku s i).2.1≤s.size):=by
 have ht:=NG (fC s i)
 unfold ku
 simp only []
 split
 ·simp
 split
 ·simp;omega
 have:=PD s i (fU (fC s i)).2.2.toNat 4 1 (fU (fC s i)).1 (fU (fC s i)).2.1 (qx .and .i64 (fC s i) ((127:Int).fdiv (2 ^ (fU (fC s i)).2.2.toNat))) (by omega) (by omega);refine ⟨by omega,fun h=>⟨by omega,this.2.2 h (by omega)⟩⟩
/-- The offset of the first byte that is not right, or -1. -/
def nI (s:ByteArray) (i:Nat):Int :=
 if h:i < s.size then (if h2:(ku s i).2.2=true then nI s (i+(ku s i).2.1) else i) else -1
 termination_by s.size - i
 decreasing_by have:=(PE s i h).2 h2;omega
theorem aan (G:GH) (w0:World) (hG:Hold G w0) (s:ByteArray) (hs:s.size < 4611686018427387904) :
  Calls Tryz.prog 112 #[.string s] w0 (aU w0 G fun v G'=>v=.int .i64 (nI s 0)∧G=G'):=by
 refine eN [(0,_)] Tryz.func112 rfl Tryz.ntmps112 rfl rfl hG ?_;intro a H;refine kP H (SR fun _ K1=>Ra rfl (Kz K1 (SQ fun _ K2=>SR fun _ K3=>Ra rfl (Kz K3 (SB ?_)))));clear H K1 K3;intro a H;skip;refine d9 (ι:=Nat) (Tc:=[(0,_)]) (Lc:=[]) (fun (gh:Nat)=>[(3,.int .i64 (gh:Int))]) (fun (gh:Nat)=>[]) (fun (gh:Nat)=>G) (fun (gh:Nat)=>gh≤s.size∧nI s 0=nI s gh) (fun (gh:Nat)=>s.size - gh) (0) (by exact (H).sub ⟨rfl,rfl,trivial⟩) ?_ ?_
 ·exact ⟨by omega,rfl⟩
 clear H;intro gh a w hI H;obtain ⟨i,hgh⟩:∃ x,x=gh:=⟨_,rfl⟩;subst hgh;obtain ⟨hk,hf⟩:=hI;dsimp only [List.cons_append,List.nil_append,List.append_nil] at H;refine kP H (SQ fun _ K4=>SR fun _ K5=>Rm rfl (Rm rfl (Rv fB rfl (Rc rfl (Kz K5 (Cd rfl ?_ ?_)))))) <;> clear H K5
 ·intro h10 a H
  try have r9:=dT h10
  refine kP H (Kc K4 (SB (SR fun _ K6=>Rm rfl (Rm rfl ?_))));clear H K4;intro a H;refine s_call Yk H wn rfl (XJ _ _ H.hp.ro s i (by omega) hs) rfl ?_;clear H;rintro v14 _ a w ⟨rfl,rfl⟩ - H;have hd:=PE s i (by omega);refine kH H (Rm rfl ?_);clear H;intro a H;(iterate 3 refine gV H wn rfl rfl rfl ?_;clear H;intro a H);refine kH H (Ra rfl (Ra rfl (Ra rfl (Kz K6 (SQ fun _ K7=>SR fun _ K8=>Rm rfl (Rn rfl (Kz K8 (Cd rfl ?_ ?_)))))))) <;> clear H K6 K8
  ·intro h19 a H
   try have j6:=dT h19
   exact kP H (SR fun _ K9=>Rm rfl (Ra rfl (Kz K9 (LR Tryz.results112 rfl fun H=>H.hp.ret ⟨by rw [hf,nI,dif_pos (by omega),dif_neg (by simpa using h19)],rfl⟩))))
  intro h19 a H
  try have j6:=dF h19
  refine kP H (Kc K7 (SC (Rm rfl (Rm rfl (Rd rfl (Ra rfl ?_))))));clear H K7;intro a H;refine au ?_;refine dD ((i+(ku s i).2.1)) (by exact (H).sub ⟨rfl,rfl,trivial⟩) ?_ ?_
  ·have h1:(ku s i).2.2=true:=by simpa using h19
   have h2:=hd.2 h1;refine ⟨by omega,?_⟩;rw [hf,nI,dif_pos (by omega),dif_pos h1]
  have h1:(ku s i).2.2=true:=by simpa using h19
  have h2:=hd.2 h1
  omega
 intro h10 a H
 try have r9:=dF h10
 refine dL ?_;refine K2 _ _ ?_;clear K2;exact kP H (SR fun _ aH=>Ra rfl (Kz aH (LR Tryz.results112 rfl fun H=>H.hp.ret ⟨by rw [hf,nI,dif_neg (by omega)],rfl⟩)))
def oK (s:ByteArray):Bool:=decide (nI s 0 < 0)
theorem E9 (G:GH) (w0:World) (hG:Hold G w0) (s:ByteArray) (hs:s.size < 4611686018427387904) :
  Calls Tryz.prog 85 #[.string s] w0 (aU w0 G fun v G'=>v=.bool (oK s)∧G=G'):=by
 refine eN [(0,_)] Tryz.func85 rfl Tryz.ntmps85 rfl rfl hG ?_;intro a H;refine kP H (SR fun _ K1=>Ra rfl (Kz K1 (SR fun _ K2=>Rm rfl ?_)));clear H K1;intro a H;refine s_call Yb H wn rfl (aan _ _ H.hp.ro s hs) rfl ?_;clear H;rintro v4 _ a w ⟨rfl,rfl⟩ - H;exact kH H (Rc rfl (Ra rfl (Kz K2 (LR Tryz.results85 rfl fun H=>H.hp.ret ⟨rfl,rfl⟩))))
/-- How many bytes begin a code point, from i on. -/
def lG (s:ByteArray) (i:Nat):Nat :=
 if i < s.size then (if qx .and .u8 (fC s i) 192=128 then 0 else 1)+lG s (i+1) else 0
 termination_by s.size - i
theorem Pw (s:ByteArray):∀ (n i:Nat),s.size - i=n→lG s i≤n
 | 0,i,h=>by rw [lG,if_neg (by omega)];exact Nat.le_refl _
 | n+1,i,h=>by
  have ih:=Pw s n (i+1) (by omega);rw [lG,if_pos (by omega)]
  split <;> omega
def oQ (s:ByteArray):Nat:=if oK s then lG s 0 else 0
/-- The error of a string. -/
def AB (s:ByteArray):Int:=if oK s then 0 else 12
theorem yG (s:ByteArray):oQ s≤s.size:=by unfold oQ;have:=Pw s s.size 0 (by omega);split <;> omega
theorem FQ (G:GH) (w0:World) (hG:Hold G w0) (s:ByteArray) (hs:s.size < 4611686018427387904) :
  Calls Tryz.prog 57 #[.string s] w0 (aU w0 G fun v G'=>v=.tuple #[vi (oQ s),vi (AB s)]∧G=G'):=by
 refine eN [(0,_)] Tryz.func57 rfl Tryz.ntmps57 rfl rfl hG ?_;intro a H;refine kP H (SR fun _ K1=>Ra rfl (Ra rfl (Kz K1 (SQ fun _ K2=>SR fun _ K3=>Rm rfl ?_))));clear H K1;intro a H;refine s_call DN H wn rfl (E9 _ _ H.hp.ro s hs) rfl ?_;clear H;rintro v6 _ a w ⟨rfl,rfl⟩ - H;refine kH H (Rn rfl (Kz K3 (Cd rfl ?_ ?_))) <;> clear H K3
 ·intro h7 a H
  try have p7:=dT h7
  refine kP H (SR fun _ K4=>Ra rfl (Ra rfl (Kz K4 ?_)));clear H K4;intro a H;refine aR ?_;refine (bU H Tryz.results57 (.cons (aF H rfl) (.cons (aF H rfl) .nil)) ?_).1;exact H.hp.ret ⟨by simp [oQ,AB,show oK s=false by simpa using h7],rfl⟩
 intro h7 a H
 try have p7:=dF h7
 refine kP H (Kc K2 (SQ fun _ K5=>SR fun _ K6=>Rm rfl (Rv fB rfl (Rm rfl (Kz K6 (SB ?_))))));clear H K2 K6;intro a H;skip;refine d9 (ι:=Nat × Nat) (Tc:=[(0,_),(9,_)]) (Lc:=[]) (fun (gh:Nat × Nat)=>[(2,vi gh.2),(10,vi gh.1)]) (fun (gh:Nat × Nat)=>[]) (fun (gh:Nat × Nat)=>G) (fun (gh:Nat × Nat)=>gh.1≤s.size∧gh.2≤gh.1∧gh.2+lG s gh.1=oQ s) (fun (gh:Nat × Nat)=>s.size - gh.1) ((0,0)) (by exact (H).sub ⟨rfl,rfl,rfl,rfl,trivial⟩) ?_ ?_
 ·exact ⟨by omega,by omega,by simp [oQ,show oK s=true by simpa using h7]⟩
 clear H;intro gh a w hI H;obtain ⟨i,n⟩:=gh;dsimp only at hI H;obtain ⟨hk,hn,hf⟩:=hI;dsimp only [List.cons_append,List.nil_append,List.append_nil] at H;refine kP H (SR fun _ K7=>Rc rfl (Kz K7 (SQ fun _ K8=>Cd rfl ?_ ?_))) <;> clear H K7
 ·intro h11 a H
  try have ow:=dT h11
  refine kP H (Kc K8 (SQ fun _ K9=>SB (SR fun _ aH=>Rm rfl (Ra rfl (Kz aH (SR fun _ aX=>Rm rfl (Rm rfl ?_)))))));clear H K8 aH;intro a H;refine lC _ fB H wn rfl rfl rfl (by first|assumption|omega) rfl ?_;clear H;intro a H;refine Iu rfl H wn rfl rfl rfl ?_;clear H;intro a H;refine kH H (Rc rfl (Kz aX (Cd rfl ?_ ?_))) <;> clear H aX
  ·intro bT a H
   try have jy:=dT bT
   refine kP H (SC (Rm rfl (Rd rfl (Ra rfl (Kn K9 (SC (Rd rfl (Rm rfl ?_))))))));clear H K9;intro a H;refine au ?_;refine dD ((i+1,n+1)) (by exact (H).sub ⟨rfl,rfl,rfl,rfl,trivial⟩) ?_ ?_
   ·(try dsimp only);rw [← jQ (by omega)] at jy;rw [lG,if_pos (by omega),if_neg jy] at hf;exact ⟨by omega,by omega,by omega⟩
   first|omega|(dsimp only;omega)
  intro bT a H
  try have jy:=dF bT
  refine kP H (Kc K9 (SC (Rd rfl (Rm rfl ?_))));clear H K9;intro a H;refine au ?_;refine dD ((i+1,n)) (by exact (H).sub ⟨rfl,rfl,rfl,rfl,trivial⟩) ?_ ?_
  ·(try dsimp only);rw [← jQ (by omega),Decidable.not_not] at jy;rw [lG,if_pos (by omega),if_pos jy] at hf;exact ⟨by omega,by omega,by omega⟩
  first|omega|(dsimp only;omega)
 intro h11 a H
 try have ow:=dF h11
 refine dL ?_;refine K5 _ _ ?_;clear K5;refine kP H (SR fun _ bD=>Rm rfl (Ra rfl (Ra rfl (Kz bD ?_))));clear H bD;intro a H;refine aR ?_;refine (bU H Tryz.results57 (.cons (aF H rfl) (.cons (aF H rfl) .nil)) ?_).1;exact H.hp.ret ⟨by rw [lG,if_neg (by omega),Nat.add_zero] at hf;rw [hf];simp [AB,show oK s=true by simpa using h7],rfl⟩
end
end Go.Proofs.YthichnnlceeofaaGreat
