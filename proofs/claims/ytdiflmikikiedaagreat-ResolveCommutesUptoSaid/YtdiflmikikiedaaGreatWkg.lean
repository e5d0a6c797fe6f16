/-
  What the claim stands on, part 7: Dnc Dpk Sd24 Odc Va24 Us24 Co24 Brd Brs Bri Brt.
-/
import Derived.Test.YtdiflmikikiedaaGreatWkf
import Derived.ProofKit
import Derived.Deep.Slices
import Derived.Laws.StructEq
namespace Go.Proofs.YtdiflmikikiedaaGreat
set_option linter.all false
open Go.Proofs.Tryz
open Go.RowKit
section
def LB (ch:List (Nat × Nat)) (m:Nat):Option Nat:=(ch.find? fun q=>Nat.beq q.2 m).map (·.1)
def zW (ch:List (Nat × Nat)) (x:Nat->ah × OL) (m:Nat):OL:=match LB ch m with|some p=>(x p).2|none=>[]
def live (ch:List (Nat × Nat)) (S:Nat->Bool) (m:Nat):Bool:=S m && ch.all fun q=>!Nat.beq q.1 m || !S q.2
def JU (ms:List Nat) (ch:List (Nat × Nat)) (bJ:List (List Nat)):Bool :=
 (ch.all fun q=>ms.contains q.1 && ms.contains q.2 && (bJ.getD q.2 []).contains q.1 && !Nat.beq q.1 q.2) && decide ((ch.map (·.1)).Nodup) && decide ((ch.map (·.2)).Nodup)
theorem Kg {P:Nat->Bool} {x:Nat->ah × OL} {m:Nat} {ms:List Nat} (h:m∈ms):(iM ms P x).Perm ((bif P m then (x m).2 else [])++iM (ms.erase m) P x):=by
 have h1:(iM ms P x).Perm (iM (m :: ms.erase m) P x):=(List.perm_cons_erase h).flatMap_right _
 refine h1.trans ?_
 unfold iM
 rw [List.flatMap_cons]
theorem Q7 {P Q:Nat->Bool} {x y:Nat->ah × OL} {ms:List Nat} (h:∀ m∈ms,P m=Q m∧x m=y m):iM ms P x=iM ms Q y:=by
 induction ms with
 | nil=>rfl
 | cons k ms ih =>
  have ih:=ih fun m hm=>h m (gW _ hm)
  obtain ⟨h1,h2⟩:=h k dX
  unfold iM at ih |-
  rw [List.flatMap_cons,List.flatMap_cons,ih,h1,h2]
theorem CO {ch:List (Nat × Nat)} {S:Nat->Bool} {m:Nat}:live ch S m=true↔S m=true∧∀ q∈ch,q.1=m->S q.2=false:=by
 unfold live
 rw [iL,jE]
 refine and_congr_right fun _=>forall_congr' fun q=>forall_congr' fun _=>?_
 by_cases e:q.1=m
 ·subst e
  simp
 ·simp [qF e,e]
theorem awR {ch:List (Nat × Nat)}:(ch.map (·.1)).Nodup->∀ {p q:Nat × Nat},p∈ch->q∈ch->p.1=q.1->p=q:=by
 induction ch with
 | nil=>intro _ p q h;cases h
 | cons c ch ih =>
  intro hn p q hp hq e
  rw [fD,List.nodup_cons] at hn
  rcases gK.1 hp with h1|h1 <;> rcases gK.1 hq with h2|h2
  ·rw [h1,h2]
  ·rw [h1] at e
   exact absurd (e ▸ List.mem_map_of_mem h2) hn.1
  ·rw [h2] at e
   exact absurd (e ▸ List.mem_map_of_mem h1) hn.1
  ·exact ih hn.2 h1 h2 e
theorem awS {ch:List (Nat × Nat)}:(ch.map (·.2)).Nodup->∀ {p q:Nat × Nat},p∈ch->q∈ch->p.2=q.2->p=q:=by
 induction ch with
 | nil=>intro _ p q h;cases h
 | cons c ch ih =>
  intro hn p q hp hq e
  rw [fD,List.nodup_cons] at hn
  rcases gK.1 hp with h1|h1 <;> rcases gK.1 hq with h2|h2
  ·rw [h1,h2]
  ·rw [h1] at e
   exact absurd (e ▸ List.mem_map_of_mem h2) hn.1
  ·rw [h2] at e
   exact absurd (e ▸ List.mem_map_of_mem h1) hn.1
  ·exact ih hn.2 h1 h2 e
theorem axL {ch:List (Nat × Nat)} {m p:Nat} (h:LB ch m=some p):(p,m)∈ch:=by
 unfold LB at h
 obtain ⟨q,h1,rfl⟩:=qD.1 h
 have h2:q.2=m:=by simpa using List.find?_some h1
 exact h2 ▸ List.mem_of_find?_eq_some h1
theorem axM {ch:List (Nat × Nat)} {m:Nat} (h:LB ch m=none):∀ q∈ch,¬ q.2=m:=by
 intro q hq e
 unfold LB at h
 rw [Option.map_eq_none_iff,List.find?_eq_none] at h
 exact h q hq (by rw [e];exact Nat.beq_refl m)
theorem awg {ms:List Nat} {ch:List (Nat × Nat)} {bJ:List (List Nat)} {S:Nat->Bool} {x:Nat->ah × OL} {m:Nat} (hnd:ms.Nodup) (hc:JU ms ch bJ=true) (hm:m∈ms) (hS:S m=false) (hd:∀ j∈bJ.getD m [],S j=true) (hu:∀ q∈ch,q.1=m->S q.2=false) :
  ∃ R:OL,(iM ms (live ch S) x).Perm (zW ch x m++R)∧∀ y:ah × OL,(iM ms (live ch (cO S m)) (mG x m y)).Perm (y.2++R):=by
 unfold JU at hc
 rw [iL,iL,jE,decide_eq_true_iff,decide_eq_true_iff] at hc
 obtain ⟨⟨h1,h2⟩,h3⟩:=hc
 have hq:∀ q∈ch,q.1∈ms∧q.2∈ms∧q.1∈bJ.getD q.2 []∧¬ q.1=q.2:=fun q hq=>by
  have:=h1 q hq
  rw [iL,iL,iL,qE,qE,qE] at this
  obtain ⟨⟨⟨a,b⟩,c⟩,d⟩:=this
  exact ⟨a,b,c,fun e=>by rw [e,Nat.beq_refl] at d;cases d⟩
 have hlm:live ch S m=false:=by
  cases h:live ch S m with
  | false=>rfl
  | true=>rw [CO] at h;rw [h.1] at hS;cases hS
 have agD:live ch (cO S m) m=true:=CO.2 ⟨aD M,fun q hq1 e=>by
  have:=hu q hq1 e
  rwa [show cO S m q.2=S q.2 from av fun e2=>(hq q hq1).2.2.2 (e.trans e2.symm)]⟩
 have hother:∀ j,j≠m->(∀ q∈ch,q.1=j->q.2≠m)->live ch S j=live ch (cO S m) j:=fun j hj hn=>by
  rw [rT,CO,CO,show cO S m j=S j from av hj]
  refine and_congr_right fun _=>forall_congr' fun q=>forall_congr' fun hq1=>forall_congr' fun e=>?_
  rw [show cO S m q.2=S q.2 from av (hn q hq1 e)]
 have hx:∀ y j,j≠m->x j=mG x m y j:=fun y j hj=>(aaj hj).symm
 have hne:∀ j∈ms.erase m,j≠m:=fun j hj e=>by rw [e] at hj;exact (List.Nodup.not_mem_erase hnd) hj
 cases hp:LB ch m with
 | none =>
  refine ⟨iM (ms.erase m) (live ch S) x,?_,fun y=>?_⟩
  ·have:=Kg (P:=live ch S) (x:=x) hm
   rw [hlm] at this
   simpa [zW,hp] using this
  ·have:=Kg (P:=live ch (cO S m)) (x:=mG x m y) hm
   rw [agD,aai] at this
   rw [Q7 (P:=live ch S) (Q:=live ch (cO S m)) (y:=mG x m y) fun j hj=>⟨hother j (hne j hj) fun q hq1 _=>axM hp q hq1,hx y j (hne j hj)⟩]
   exact this
 | some p =>
  have hpm:=axL hp
  obtain ⟨g1,g2,g3,g4⟩:=hq _ hpm
  have hpe:p∈ms.erase m:=(List.mem_erase_of_ne g4).2 g1
  have hlp:live ch S p=true:=CO.2 ⟨hd p g3,fun q hq1 e=>by
   have:=awR h2 hq1 hpm e
   rw [this];exact hS⟩
  have aui:live ch (cO S m) p=false:=by
   cases h:live ch (cO S m) p with
   | false=>rfl
   | true =>
    have:=(CO.1 h).2 _ hpm M
    rw [show cO S m m=true from aD M] at this
    cases this
  refine ⟨iM ((ms.erase m).erase p) (live ch S) x,?_,fun y=>?_⟩
  ·have e1:=Kg (P:=live ch S) (x:=x) hm
   have e2:=Kg (P:=live ch S) (x:=x) hpe
   rw [hlm] at e1
   rw [hlp] at e2
   simp only [cond_false,mO,cond_true] at e1 e2
   simpa [zW,hp] using e1.trans e2
  ·have e1:=Kg (P:=live ch (cO S m)) (x:=mG x m y) hm
   have e2:=Kg (P:=live ch (cO S m)) (x:=mG x m y) hpe
   rw [agD,aai] at e1
   rw [aui] at e2
   simp only [cond_false,mO,cond_true] at e1 e2
   rw [Q7 (P:=live ch S) (Q:=live ch (cO S m)) (y:=mG x m y) fun j hj=>by
    have hj1:=List.mem_of_mem_erase hj
    have hjm:=hne j hj1
    have hjp:j≠p:=fun e=>by rw [e] at hj;exact (List.Nodup.not_mem_erase (hnd.erase m)) hj
    exact ⟨hother j hjm fun q hq1 e e2=>hjp (by rw [<- e,awS h3 hq1 hpm e2]),hx y j hjm⟩]
   exact e1.trans (List.Perm.append_left _ e2)
section
variable {N:Nat} {D:List Deferred} {w0:World} {F:Nat->Prop} {G0 G G1 G2:GH} {L L1 L2:OL} {T Xs:List (Nat × ah)}
variable {r:Option Nat} {P:Program} {Q:Exit->Act->World->Prop} {l:List Oper} {a a':Act} {w w':World}
theorem adx {id:Nat} (ms:List Nat) (ch:List (Nat × Nat)) (hm:P.follows .mixedOrders=true) (bJ:List (List Nat)) (B:List Nat) (hk:xO l bJ=true) (hB:wC l bJ B=true) (hnd:ms.Nodup) (hms:(ms.all fun m=>Nat.blt m l.length && !B.contains m)=true) (hc:JU ms ch bJ=true) (pr:(Nat->ah × OL)->Nat->ah->GH->Prop)
  (hp:∀ m,ms.contains m=true->∀ x y i v G,Nat.beq i m=false->(bJ.getD i []).contains m=false->pr x i v G->pr (mG x m y) i v G)
  (H:St N D w0 F G0 G L T a w)
  (hstep:allI (fun i o=>∀ x L' S a w G1,(∀ q,q∈L->q∈L')->B.contains i=false->ms.contains i=false->S i=false->(∀ j∈bJ.getD i [],S j=true)->(∀ k o,G k=some o->G1 k=some o)->St N D w0 F G0 G1 L' T a w->(∀ i d,S i=true->dV l i=some d->∃ v,a.tmps[d]?=some v∧pr x i v G1) ->
   WL r P l.toArray (fun e a' w'=>e=.normal∧DX N D w0 F G0 G L' T l (pr x) (cO S i) a' w') [o] a w) 0 l)
  (hmid:allI (fun m o=>ms.contains m=true->∀ x L' S a w G1,(∀ q,q∈L->q∈L')->S m=false->(∀ j∈bJ.getD m [],S j=true)->(∀ k o,G k=some o->G1 k=some o)->St N D w0 F G0 G1 (zW ch x m++L') T a w->(∀ y i d,i≠m->S i=true->dV l i=some d->∃ v,a.tmps[d]?=some v∧pr x i v G1∧pr (mG x m y) i v G1) ->
   WL r P l.toArray (fun e a' w'=>e=.normal∧∃ y,DX N D w0 F G0 G (y.2++L') T l (pr (mG x m y)) (cO S m) a' w') [o] a w) 0 l)
  (hend:∀ x a w G1,(∀ k o,G k=some o->G1 k=some o)->St N D w0 F G0 G1 (iM ms (live ch fun _=>true) x++L) T a w->(∀ i d,B.contains i=false->dV l i=some d->∃ v,a.tmps[d]?=some v∧pr x i v G1)->WL r P l.toArray (fun e a w=>e=.normal∧Q .normal a w) (qb l B) a w):WP r P (.region id l.toArray true) Q a w:=by
 have hu:∀ {m i:Nat} {S:Nat->Bool},(∀ j,j < l.length->i∈bJ.getD j []->S j=false)->∀ q∈ch,q.1=i->S q.2=false:=by
  intro m i S hdesc q hq e
  have h1:=hc
  unfold JU at h1
  rw [iL,iL,jE] at h1
  have h2:=h1.1.1 q hq
  rw [iL,iL,iL,qE,qE,qE] at h2
  have h3:=jE.1 hms q.2 h2.1.1.2
  rw [iL] at h3
  exact hdesc q.2 (Eq.mp Nat.blt_eq h3.1) (e ▸ h2.1.2)
 refine EM hm bJ B hk hB (fun S a w=>∃ x,DX N D w0 F G0 G (iM ms (live ch S) x++L) T l (pr x) S a w)
  ⟨fun _=>(.bool false,[]),DX.perm (L1:=L) ⟨G,fun _ _ h=>h,H.move H.hp.drew,fun _ _ h=>absurd (show false=true from h) Z⟩ (by
   have:∀ ms:List Nat,iM ms (live ch fun _=>false) (fun _=>(.bool false,[]))=[]:=fun ms=>by
    induction ms with
    | nil=>rfl
    | cons k ms ih=>unfold iM at ih |-;rw [List.flatMap_cons,ih];rfl
   rw [this];exact List.Perm.refl _)⟩ ?_ ?_
 ·rintro i o S a w ho hb aM jm hdesc ⟨x,G1,hG,HS,hv⟩
  have hsub:∀ q,q∈L->q∈iM ms (live ch S) x++L:=fun q hq=>List.mem_append_right _ hq
  have hno:∀ j,j < l.length->S j=true->(bJ.getD j []).contains i=false:=fun j hjl hj=>by
   cases hc:(bJ.getD j []).contains i with
   | false=>rfl
   | true =>
    have:=hdesc j hjl (by simpa using hc)
    rw [this] at hj;cases hj
  cases hi:ms.contains i with
  | true =>
   obtain ⟨R,yU,hR2⟩:=awg (x:=x) hnd hc (by simpa using hi) aM jm (hu (m:=i) hdesc)
   have h:=yH hmid i o ho
   rw [gy] at h
   have HS2:=HS.perm ((List.Perm.append_right L yU).trans (List.Perm.of_eq (jv ..)))
   have h:=h hi x (R++L) S a w G1 (fun q hq=>List.mem_append_right _ hq) aM jm hG HS2 fun y j d hj hSj hd=>by
    obtain ⟨v,hv1,hv2⟩:=hv j d hSj hd
    exact ⟨v,hv1,hv2,hp i hi x y j v _ (qF hj) (hno j (rX hd) hSj) hv2⟩
   refine nG (fun e a' w' ⟨he,y,hD⟩=>⟨he,mG x i y,hD.perm ?_⟩) h
   rw [<- jv]
   exact List.Perm.append_right L (hR2 y).symm
  | false =>
   have h:=yH hstep i o ho
   rw [gy] at h
   have hni:i∉ms:=by simpa using hi
   have e:iM ms (live ch (cO S i)) x=iM ms (live ch S) x:=Q7 fun j hj=>⟨by
    have hji:j≠i:=fun e=>hni (e ▸ hj)
    rw [rT,CO,CO,show cO S i j=S j from av hji]
    refine and_congr_right fun _=>forall_congr' fun q=>forall_congr' fun hq1=>forall_congr' fun e=>?_
    have h1:=hc
    unfold JU at h1
    rw [iL,iL,jE] at h1
    have h2:=h1.1.1 q hq1
    rw [iL,iL,iL,qE,qE] at h2
    rw [show cO S i q.2=S q.2 from av (show ¬ q.2=i from fun e=>hni (e ▸ h2.1.1.2))],M⟩
   refine nG (fun e' a' w' ⟨he,hD⟩=>⟨he,x,?_⟩) (h x _ S a w G1 hsub hb hi aM jm hG HS hv)
   rw [e]
   exact hD
 ·rintro S a w hall Ib ⟨x,G1,hG,HS,hv⟩
  have hS:∀ m∈ms,S m=true:=fun m hmm=>by
   have h:=jE.1 hms m hmm
   rw [iL] at h
   exact hall m (Eq.mp Nat.blt_eq h.1) (by simpa using h.2)
  have e:iM ms (live ch S) x=iM ms (live ch fun _=>true) x:=Q7 fun j hj=>⟨by
   rw [rT,CO,CO]
   refine and_congr (by simp [hS j hj]) (forall_congr' fun q=>forall_congr' fun hq1=>forall_congr' fun e=>?_)
   have h1:=hc
   unfold JU at h1
   rw [iL,iL,jE] at h1
   have h2:=h1.1.1 q hq1
   rw [iL,iL,iL,qE,qE] at h2
   rw [hS q.2 h2.1.1.2],M⟩
  rw [e] at HS
  exact hend x a w G1 hG HS fun j d hb hd=>hv j d (hall j (rX hd) hb) hd
end
end
section
section
variable {N:Nat} {D:List Deferred} {w0:World} {F:Nat->Prop} {G0 G G1 G2:GH} {L L1 L2:OL} {T Xs:List (Nat × ah)}
variable {r:Option Nat} {P:Program} {Q:Exit->Act->World->Prop} {l:List Oper} {a a':Act} {w w':World}
theorem amk {id:Nat} {κ:Type} (k0:κ) (Lf:κ->OL) (hm:P.follows .mixedOrders=true) (bJ:List (List Nat)) (B:List Nat) (hk:xO l bJ=true) (hB:wC l bJ B=true) (m:Nat) (pr:κ->Nat->ah->GH->Prop)
  (hp:∀ k k' i v G,Nat.beq i m=false->(bJ.getD i []).contains m=false->pr k i v G->pr k' i v G)
  (H:St N D w0 F G0 G (Lf k0) T a w)
  (hstep:allI (fun i o=>∀ k S a w G1,B.contains i=false->Nat.beq i m=false->S i=false->(∀ j∈bJ.getD i [],S j=true)->(∀ k o,G k=some o->G1 k=some o)->St N D w0 F G0 G1 (Lf k) T a w->(∀ i d,S i=true->dV l i=some d->∃ v,a.tmps[d]?=some v∧pr k i v G1) ->
   WL r P l.toArray (fun e a' w'=>e=.normal∧DX N D w0 F G0 G (Lf k) T l (pr k) (cO S i) a' w') [o] a w) 0 l)
  (hmid:∀ o S a w G1,l[m]?=some o->S m=false->(∀ j∈bJ.getD m [],S j=true)->(∀ k o,G k=some o->G1 k=some o)->St N D w0 F G0 G1 (Lf k0) T a w->(∀ k' i d,i≠m->S i=true->dV l i=some d->∃ v,a.tmps[d]?=some v∧pr k' i v G1) ->
   WL r P l.toArray (fun e a' w'=>e=.normal∧∃ k',DX N D w0 F G0 G (Lf k') T l (pr k') (cO S m) a' w') [o] a w)
  (hend:∀ k a w G1,(∀ k o,G k=some o->G1 k=some o)->St N D w0 F G0 G1 (Lf k) T a w->(∀ i d,B.contains i=false->dV l i=some d->∃ v,a.tmps[d]?=some v∧pr k i v G1)->WL r P l.toArray (fun e a w=>e=.normal∧Q .normal a w) (qb l B) a w):WP r P (.region id l.toArray true) Q a w:=by
 refine EM hm bJ B hk hB (fun S a w=>∃ k,(S m=false->k=k0)∧DX N D w0 F G0 G (Lf k) T l (pr k) S a w) ⟨k0,fun _=>rfl,G,fun _ _ h=>h,H.move H.hp.drew,fun _ _ h=>absurd (show false=true from h) Z⟩ ?_ ?_
 ·rintro i o S a w ho hb aM jm hdesc ⟨k,hk0,G1,hG,HS,hv⟩
  by_cases hi:i=m
  ·subst hi
   have hno:∀ j,j < l.length->S j=true->(bJ.getD j []).contains i=false:=fun j hjl hj=>by
    cases hc:(bJ.getD j []).contains i with
    | false=>rfl
    | true =>
     have:=hdesc j hjl (by simpa using hc)
     rw [this] at hj;cases hj
   obtain rfl:=hk0 aM
   refine nG (fun e a' w' ⟨he,k',hD⟩=>⟨he,k',fun h=>(by rw [show cO S i i=true from aD M] at h;cases h),hD⟩) (hmid o S a w G1 ho aM jm hG HS fun k' j d hj hSj hd=>by
    obtain ⟨v,hv1,hv2⟩:=hv j d hSj hd
    exact ⟨v,hv1,hp k k' j v _ (qF hj) (hno j (rX hd) hSj) hv2⟩)
  ·have h:=yH hstep i o ho
   rw [gy] at h
   exact nG (fun e a' w' ⟨he,hD⟩=>⟨he,k,fun h=>hk0 (by rwa [show cO S i m=S m from av fun e=>hi e.symm] at h),hD⟩) (h k S a w G1 hb (qF hi) aM jm hG HS hv)
 ·rintro S a w hall Ib ⟨k,-,G1,hG,HS,hv⟩
  exact hend k a w G1 hG HS fun j d hb hd=>hv j d (hall j (rX hd) hb) hd
end
end
theorem arQ:dP prog 79 0 0:=⟨V⟩
theorem arR:dP prog 79 1 1:=⟨V⟩
theorem arS:dP prog 79 2 2:=⟨V⟩
theorem arT:dP prog 79 3 3:=⟨V⟩
theorem EI.row {G:GH} {L:OL} {but:List Int} {B:Option Addr} {c:Nat} {xs:List ah} (h:dw 3 1 (.slice B but.length c) but.length xs L) (hx:xs=but.map vi):EI G L B but:=fun i hi=>by
 rcases h.2 with ⟨-,h0,-⟩|⟨b,cap,cur,e,rfl,h1,h2,h3,h4⟩
 ·omega
 injection e with e1 e2 e3
 subst e1;refine ⟨b,0,M,.inr ⟨cur,dX,?_⟩⟩
 have h5:(cur.toList.take (but.length*1))[i]?=some (vi but[i]):=by rw [h4,hx];simp [hi]
 rw [uN,nk] at h5;rw [Nat.mul_one,gy]
 simpa using h5
theorem afG:∀ l:List Int,(l.map fun k=>[vi k]).flatten=l.map vi
 | []=>rfl
 | x :: l=>by rw [fD,List.flatten_cons,afG l];rfl
theorem adA {G:GH}:∀ {l:List Int} {xs:List ah},dx G 1 (l.map fun k=>[li k]) xs->xs=l.map vi:=by
 rintro l _ ⟨css,rfl,hl,h⟩;rw [bS] at hl
 have e:css=l.map fun k=>[vi k]:=by
  refine List.ext_getElem (by simpa using hl) fun i h1 h2=>?_
  have hi:i < l.length:=by simpa using h2
  have h3:=(h i [li l[i]] css[i] (by simp [hi]) (by simp [h1])).1;rw [List.getElem_map]
  simp only [bB] at h3
  obtain ⟨_,_,e,⟨rfl,-⟩,rfl⟩:=h3;exact e
 rw [e];exact afG l
theorem Vh {p:Prop} (h:p:=by
 exact Ch HT Hb hG hv (RY aJ) H M):p:=h
theorem alY {p:Prop} (h:p:=by
 exact Ch HT Hb hG hv (yZ jI) H M):p:=h
theorem VH {p:Prop} (h:p:=by
 (iterate 8 (rcases i with _|i;(first|exact h|exact absurd hi Z|exact absurd hc Z)));exact trivial):p:=h
theorem acR {p:Prop} (h:p:=by
 have Hb:=H.full;have H:=Hb;clear hc;refine rG mE H wn M (H.hp.yh (eP _ (gW _ dX)) M) M ?_;clear H;intro a H;refine aG ⟨M,?_⟩;exact Vh):p:=h
theorem MU {p:Prop} (h:p:=by
 clear H;intro a H;refine aG ⟨M,?_⟩;exact alY):p:=h
theorem acj {p:Prop} (h:p:=by
 clear aM;have Hb:=H.full;have H:=Hb;clear hc;refine aU kD (cs:=[_,_]) H wn M M (H.hp.cB 0 M M) M ?_;exact GI):p:=h
set_option maxHeartbeats 2000000 in
theorem anP (G:GH) (w0:World) (hG:Hold G w0) (A1 R1 A2 R2:List Int) (a1 r1 a2 r2:Option Addr) (an ac rn rc bn bc sn sc:Nat) (h1:ak G (.sl 1 (A1.map fun k=>[li k])) (.slice a1 an ac)) (h2:ak G (.sl 1 (R1.map fun k=>[li k])) (.slice r1 rn rc)) (h3:ak G (.sl 1 (A2.map fun k=>[li k])) (.slice a2 bn bc)) (h4:ak G (.sl 1 (R2.map fun k=>[li k])) (.slice r2 sn sc)) (l1:A1.length<=4294967296) (l2:R1.length<=4294967296) (l3:A2.length<=4294967296) (l4:R2.length<=4294967296) :
  Calls prog 35 #[.agg #[.slice a1 an ac,.slice r1 rn rc,.slice a2 bn bc,.slice r2 sn sc]] w0 (bG w0 G fun u G'=>∃ (A R B S:List Int) (va vr vb vs:ah),u=.tuple #[.agg #[va,vr],.agg #[vb,vs]]∧ak G' (.sl 1 (A.map fun k=>[li k])) va∧ak G' (.sl 1 (R.map fun k=>[li k])) vr∧ak G' (.sl 1 (B.map fun k=>[li k])) vb∧ak G' (.sl 1 (S.map fun k=>[li k])) vs∧zB [] A∧zB A R∧zB (A++R) B∧zB (A++R++B) S):=by
 have hml:maxLen=9223372036854775807:=rfl;refine eN [(0,_)] func35 M ntmps35 M M hG ?_;intro a H;refine dz (fun _ K1=>?_);refine dR (cs:=[_,_,_,_]) H wn M M M ?_;clear H;intro b1 a w hb1 H;refine dJ kD H wn M ?_;clear H;intro b2 a w hb2 H;refine dJ kD H wn M ?_;clear H;intro b3 a w hb3 H;refine K1 _ _ ?_;clear K1;refine bO (fun _ K2=>?_);have H:=H.fH (Pl:=[_,_,_]) (eD:=[_,_,_]) [2,0,1] Z M;obtain ⟨Ga,hma,hb',H⟩:=H.fF;have hgs:=fun j v hj=>lY hb' 0 [.slice a1 an ac,.slice r1 rn rc,.slice a2 bn bc,.slice r2 sn sc] M j v hj;replace h1:=h1.mono hma;replace h2:=h2.mono hma;replace h3:=h3.mono hma;replace h4:=h4.mono hma;refine kP H (SC (Rf arQ M (Rg mE M (hgs 0 _ M) ?_)));clear H;intro a H;refine gM QS (Li:=[_,_]) (L:=[]) H wn M (Si _ _ [] (wY H.ro) A1 [] _ none 0 h1 (fun i hi=>absurd hi (Nat.not_lt_zero _)) l1 Z) M ?_;clear H;rintro v7 G7 L7 a w ⟨rfl,A,hA,tJ⟩ uG H;obtain ⟨A7,n7,c7,rfl⟩:=tJ.form
 obtain rfl:n7=A.length:=by have:=tJ.len;rwa [bS] at this
 have hAl:=hA.len;replace h2:=h2.mono uG;replace h3:=h3.mono uG;replace h4:=h4.mono uG;replace hgs:=fun j v hj=>aC uG (hgs j v hj);refine kH H (Rf Cm M ?_);clear H;intro a H;refine bC mE 1 (vs:=[_]) H wn M ?_;clear H;intro w H;refine kH H (Kn K2 (SR fun _ K3=>Rf arR M (Rg mE M (hgs 1 _ M) (bQ Cm mE 1 M M ?_))));clear H K2;intro a H;refine gM QS (Li:=[_,_]) (L:=[]) H wn M (Si _ _ [] (wY H.ro) R1 A _ A7 c7 h2 (EI.of tJ) l2 O) M ?_;clear H;rintro v13 Je L13 a w ⟨rfl,R,hR,Fu⟩ Cw H;obtain ⟨Ja,n13,c13,rfl⟩:=Fu.form
 obtain rfl:n13=R.length:=by have:=Fu.len;rwa [bS] at this
 have hRl:=hR.len;replace tJ:=tJ.mono Cw;replace h3:=h3.mono Cw;replace h4:=h4.mono Cw;replace hgs:=fun j v hj=>aC Cw (hgs j v hj);refine kH H (Rf EU M ?_);clear H;intro a H;refine bC mE 1 (vs:=[_]) H wn M ?_;clear H;intro w H;refine K3 _ _ ?_;clear K3;refine bO (fun _ K4=>?_)
 have RY:Jm (fun (aJ:Nat->ah × OL) (bX:Nat) (v:ah) (G:GH)=>match bX with|0=>v=(aJ 0).1∧dw 3 1 v 0 [] (aJ 0).2|1=>v=(aK b2 (0+0))|2=>v=.slice A7 A.length c7|3=>v=(aJ 3).1∧∃ xs,dw 3 1 v A.length xs (aJ 3).2∧dx G 1 (A.map fun q=>[li q]) xs|4=>v=(aK b2 (0+1))|5=>v=.slice Ja R.length c13|6=>v=(aJ 6).1∧∃ xs,dw 3 1 v (A++R).length xs (aJ 6).2∧dx G 1 ((A++R).map fun q=>[li q]) xs|_=>True):=by intro aJ bX v G G' hm h;(iterate 8 (rcases bX with _|bX;(first|exact h|exact let ⟨h1,xs,h2,h3⟩:=h;⟨h1,xs,h2,h3.mono hm⟩)));exact trivial
 refine adx [0,3,6] [(0,3),(3,6)] (hmx) [[],[],[1],[0,1,2],[],[4],ra 0 6,ra 0 7] [7] V V Z V Z (fun (aJ:Nat->ah × OL) (bX:Nat) (v:ah) (G:GH)=>match bX with|0=>v=(aJ 0).1∧dw 3 1 v 0 [] (aJ 0).2|1=>v=(aK b2 (0+0))|2=>v=.slice A7 A.length c7|3=>v=(aJ 3).1∧∃ xs,dw 3 1 v A.length xs (aJ 3).2∧dx G 1 (A.map fun q=>[li q]) xs|4=>v=(aK b2 (0+1))|5=>v=.slice Ja R.length c13|6=>v=(aJ 6).1∧∃ xs,dw 3 1 v (A++R).length xs (aJ 6).2∧dx G 1 ((A++R).map fun q=>[li q]) xs|_=>True) (fun m hm x y i v G hi hc h=>by
  have hm:m=0∨m=3∨m=6:=by simpa using hm
  rcases hm with rfl|rfl|rfl
  ·exact VH
  ·exact VH
  ·exact VH
  ) H ?_ ?_ ?_
 ·clear H;refine ay ?_ ?_ ?_ ?_ (ay ?_ ?_ ?_ ?_ dB)
  ·exact uP
  ·intro aJ dG bH a w G1 eP _ _ aM hc hG HT hv;have H:=HT;clear aM;have Hb:=H.full;have H:=Hb;clear hc;refine kH H (Rf Cm M ?_);clear H;intro a H;refine aG ⟨M,?_⟩;exact Vh
  ·intro aJ dG bH a w G1 eP _ _ aM hc hG HT hv;have H:=HT;clear aM;have H:=H.aN (hv 1 16 (hc 1 Z) M) M;exact acR
  ·exact uP
  ·intro aJ dG bH a w G1 eP _ _ aM hc hG HT hv;have H:=HT;clear aM;have Hb:=H.full;have H:=Hb;clear hc;refine kH H (Rf EU M ?_);clear H;intro a H;refine aG ⟨M,?_⟩;exact Vh
  ·intro aJ dG bH a w G1 eP _ _ aM hc hG HT hv;have H:=HT;clear aM;have H:=H.aN (hv 4 19 (hc 4 Z) M) M;exact acR
  ·exact uP
  exact GQ
 ·clear H;refine ay ?_ ?_ ?_ ?_ (ay ?_ ?_ ?_ ?_ dB)
  ·intro _ aJ dG bH a w G1 eP _ hc hG HT hv;have H:=HT;have H:=H.cast (show zW [(0,3),(3,6)] aJ 0++dG=dG from rfl);have Hb:=H.full;have H:=Hb;clear hc;refine Bv jZ aF H wn M ?_;clear H;intro b15 a w XC H;refine aG ⟨M,(.slice (some ⟨b15,0,none⟩) 0 0,[(b15,.cells #[] 3 (0,0))]),?_⟩;exact vQ V (RY (mG aJ 0 (.slice (some ⟨b15,0,none⟩) 0 0,[(b15,.cells #[] 3 (0,0))]))) M HT Hb hG (fun j e h1 h2 h3=>(let ⟨v,q1,_,q2⟩:=hv (.slice (some ⟨b15,0,none⟩) 0 0,[(b15,.cells #[] 3 (0,0))]) j e h1 h2 h3;⟨v,q1,q2⟩)) (fun _ _ h=>h) (⟨M,dw.empty⟩) H
  ·intro hB;exact fP
  ·intro hB;exact fP
  ·intro _ aJ dG bH a w G1 eP _ hc hG HT hv;have H:=HT;have H:=H.cast (show zW [(0,3),(3,6)] aJ 3++dG=(aJ 0).2++dG from rfl);obtain ⟨u15,Ym,Bf,-⟩:=hv (.bool false,[]) 0 15 Z (hc 0 Z) M;(try dsimp only at Bf);obtain ⟨jM,Om⟩:=Bf;have H:=H.gZ Ym;obtain ⟨u17,Yn,Ig,-⟩:=hv (.bool false,[]) 2 17 Z (hc 2 Z) M;obtain rfl:u17=.slice A7 A.length c7:=Ig;have H:=H.gZ Yn;have Hb:=H.full;have H:=Hb;clear hc;refine ZJ jZ aF M M (Li:=dG) (Lo:=(aJ 0).2) (H.perm oO) wn M M Om (tJ.mono hG) O O M ?_;clear H;intro v18 UD n18 a w CF XH H;have Xu:=fun (b:Nat) (o:Obj) (h:G1 b=some o)=>h;rw [gy,mO] at CF;have H:=H.perm oO;refine aG ⟨M,(v18,UD),?_⟩;exact vQ V (RY (mG aJ 3 (v18,UD))) M HT Hb hG (fun j e h1 h2 h3=>(let ⟨v,q1,_,q2⟩:=hv (v18,UD) j e h1 h2 h3;⟨v,q1,q2⟩)) Xu (⟨rfl,_,CF,XH⟩) H
  ·intro hB;exact fP
  ·intro hB;exact fP
  ·intro _ aJ dG bH a w G1 eP _ hc hG HT hv;have H:=HT;have H:=H.cast (show zW [(0,3),(3,6)] aJ 6++dG=(aJ 3).2++dG from rfl);obtain ⟨u18,Ou,Fv,-⟩:=hv (.bool false,[]) 3 18 Z (hc 3 Z) M;(try dsimp only at Fv);obtain ⟨h18,aCN,CF,XH⟩:=Fv;have H:=H.gZ Ou;obtain ⟨u20,ave,auB,-⟩:=hv (.bool false,[]) 5 20 Z (hc 5 Z) M;obtain rfl:u20=.slice Ja R.length c13:=auB;have H:=H.gZ ave;have Hb:=H.full;have H:=Hb;clear hc;refine ZJ jZ aF M M (Li:=dG) (Lo:=(aJ 3).2) (H.perm oO) wn M M CF (Fu.mono hG) O O M ?_;clear H;intro v21 zy n21 a w CG Kw H;have E9:=fun (b:Nat) (o:Obj) (h:G1 b=some o)=>h;have H:=H.perm oO;refine aG ⟨M,(v21,zy),?_⟩;exact vQ V (RY (mG aJ 6 (v21,zy))) M HT Hb hG (fun j e h1 h2 h3=>(let ⟨v,q1,_,q2⟩:=hv (v21,zy) j e h1 h2 h3;⟨v,q1,q2⟩)) E9 (⟨rfl,_,by rw [iW];exact CG,by rw [kR];exact XH.append Kw⟩) H
  intro hB;exact fP
 clear H;intro aJ a w G rZ H hv;rw [show iM [0,3,6] (live [(0,3),(3,6)] fun _=>true) aJ=(aJ 6).2 from by first|(simp [iM,live];done)|(simp [iM,live];rfl)] at H
 try simp only [iM,List.flatMap_cons,List.flatMap_nil,cond_true,ig,jv] at H
 obtain ⟨u21,hu21,agW⟩:=hv 6 21 Z M;(try dsimp only at agW);obtain ⟨h21,aCO,CG,Kw⟩:=agW;have H:=H.gZ hu21;clear hv;obtain ⟨⟨v21,zy⟩,e21⟩:∃ y,y=aJ 6:=⟨_,M⟩;rw [<- e21] at H h21 CG;dsimp only at H h21 CG;subst h21;obtain ⟨FV,c21,rfl,-,-⟩:=CG.shape;have H:=H.perm oO;refine kH H (Ra M ?_);clear H;intro a H;refine aG ⟨M,?_⟩;refine K4 _ _ ?_;clear K4;refine bO (fun _ K5=>?_);have avt:=adA Kw;replace tJ:=tJ.mono rZ;replace Fu:=Fu.mono rZ;replace h3:=h3.mono rZ;replace h4:=h4.mono rZ;replace hgs:=fun j v hj=>aC rZ (hgs j v hj);refine kP H (SC (Rf arS M (Rg mE M (hgs 2 _ M) (Rm M ?_))));clear H;intro a H;refine gM QS (Li:=[_,_]) (L:=zy) H wn M (Si _ _ zy (Hp.owns (Li:=[_,_]) H.hp) A2 (A++R) _ FV c21 h3 (EI.row CG avt) l3 (by rw [iW];omega)) rfl ?_;clear H;rintro v25 FZ L25 a w ⟨e25,B,hB,RS⟩ pG H;obtain rfl:=e25.symm;obtain ⟨PE,n25,Qw,rfl⟩:=RS.form
 obtain rfl:n25=B.length:=by have:=RS.len;rwa [bS] at this
 have hBl:=hB.len;replace tJ:=tJ.mono pG;replace Fu:=Fu.mono pG;replace Kw:=Kw.mono pG;replace h4:=h4.mono pG;replace hgs:=fun j v hj=>aC pG (hgs j v hj);refine kH H (Rf Cm M ?_);clear H;intro a H;refine bC mE 0 (vs:=[_]) H wn M ?_;clear H;intro w H;refine aG ?_;refine K5 _ _ ?_;clear K5;refine bO (fun _ K6=>?_)
 have yZ:Jm (fun (jI:ah × OL) (bX:Nat) (v:ah) (G:GH)=>match bX with|0=>v=(aK b1 (0+3))|1=>v=.slice r2 sn sc|2=>v=.slice FV (A++R).length c21|3=>v=(aK b3 (0+0))|4=>v=.slice PE B.length Qw|5=>v=jI.1∧∃ xs,dw 3 1 v (A++R++B).length xs jI.2∧dx G 1 ((A++R++B).map fun q=>[li q]) xs|_=>True):=by intro jI bX v G G' hm h;(iterate 9 (rcases bX with _|bX;(first|exact h|exact let ⟨h1,xs,h2,h3⟩:=h;⟨h1,xs,h2,h3.mono hm⟩)));exact trivial
 refine amk (κ:=ah × OL) ((.slice FV (A++R).length c21,zy)) (fun k_=>(b3,.cells #[.slice PE B.length Qw,.slice none 0 0] 43 (0,0)) :: (b2,.cells #[.slice A7 A.length c7,.slice Ja R.length c13] 43 (0,0)) :: k_.2) (hmx) [[],[0],[],[],[3],[2,3,4],ra 0 6,ra 0 7,ra 0 8] [6,7,8] V V 5 (fun (jI:ah × OL) (bX:Nat) (v:ah) (G:GH)=>match bX with|0=>v=(aK b1 (0+3))|1=>v=.slice r2 sn sc|2=>v=.slice FV (A++R).length c21|3=>v=(aK b3 (0+0))|4=>v=.slice PE B.length Qw|5=>v=jI.1∧∃ xs,dw 3 1 v (A++R++B).length xs jI.2∧dx G 1 ((A++R++B).map fun q=>[li q]) xs|_=>True) (fun k k' i v G hi hc h=>by (iterate 9 (rcases i with _|i;(first|exact h|exact absurd hi Z|exact absurd hc Z)));exact trivial) H ?_ ?_ ?_
 ·clear H;refine ay ?_ ?_ ?_ ?_ (ay ?_ ?_ ?_ ?_ (bN ?_ dB))
  ·intro jI bH a w G1 _ _ aM hc hG HT hv;have H:=HT;clear aM;have Hb:=H.full;have H:=Hb;clear hc;refine kH H (Rf arT M ?_);exact MU
  ·intro jI bH a w G1 _ _ aM hc hG HT hv;have H:=HT;clear aM;have H:=H.aN (hv 0 27 (hc 0 Z) M) M;have Hb:=H.full;have H:=Hb;clear hc;refine kH H (Rg mE M (aC hG (hgs 3 _ M)) ?_);exact MU
  ·intro jI bH a w G1 _ _ aM hc hG HT hv;have H:=HT;clear aM;have Hb:=H.full;have H:=Hb;clear hc;refine kH H (Rm M ?_);exact MU
  ·intro jI bH a w G1 _ _ aM hc hG HT hv;have H:=HT;clear aM;have Hb:=H.full;have H:=Hb;clear hc;refine kH H (Rf Cm M ?_);exact MU
  ·intro jI bH a w G1 _ _ aM hc hG HT hv;have H:=HT;clear aM;have H:=H.aN (hv 3 30 (hc 3 Z) M) M;have Hb:=H.full;have H:=Hb;clear hc;refine rG mE H wn M (H.hp.yh dX M) M ?_;exact MU
  ·intro _ _ _ _ _ _ hB;exact fP
  ·intro _ _ _ _ _ hB;exact fP
  ·intro _ _ _ _ _ hB;exact fP
  exact MX
 ·clear H;intro o_ bH a w G1 mK _ hc hG HT hv;obtain rfl:_=o_:=Option.some.inj mK;clear mK;have H:=HT;have H:=H.aN (hv ((.slice FV (A++R).length c21,zy)) 2 29 Z (hc 2 Z) M) M;have H:=H.aN (hv ((.slice FV (A++R).length c21,zy)) 4 31 Z (hc 4 Z) M) M;have Hb:=H.full;have H:=Hb;clear hc;have aBH:(A++R).length=A.length+R.length:=iW;refine ZJ jZ aF M M (Li:=[_,_]) (Lo:=zy) H wn M M CG (RS.mono hG) O O M ?_;clear H;intro v32 Ms n32 a w KS XJ H;have asJ:=fun (b:Nat) (o:Obj) (h:G1 b=some o)=>h;refine aG ⟨M,(v32,Ms),?_⟩;exact vQ V (yZ ((v32,Ms))) M HT Hb hG (fun j e h1 h2 h3=>hv _ j e h1 h2 h3) asJ (⟨M,_,by rw [show (A++R++B).length=(A++R).length+B.length from iW];exact KS,by rw [kR];exact (Kw.mono hG).append XJ⟩) H
 clear H;intro jI a w G oD H hv;have H:=H.aN (hv 1 28 M M) M;obtain ⟨u32,avi,agY⟩:=hv 5 32 Z M;(try dsimp only at agY);obtain ⟨h32,aCP,KS,XJ⟩:=agY;have H:=H.gZ avi;clear hv;have PV:=H;obtain ⟨v32,Ms⟩:=jI;dsimp only at PV h32 KS;obtain ⟨A32,c32,e32,-,-⟩:=KS.shape;rw [e32] at KS;rw [e32] at PV;have H:=PV;clear PV;have hx32:=adA XJ;refine gM QS (Li:=[_,_]) (L:=Ms) H wn M (Si _ _ Ms (Hp.owns (Li:=[_,_]) H.hp) R2 (A++R++B) _ A32 c32 (h4.mono oD) (EI.row KS hx32) l4 (by rw [iW,iW];omega)) rfl ?_;clear H;rintro v33 G33 L33 a w ⟨e33,S,hS,RU⟩ NV H;obtain rfl:=e33.symm;obtain ⟨A33,n33,c33,rfl⟩:=RU.form;refine kH H (Rf EU M ?_);clear H;intro a H;refine bC mE 0 (vs:=[_]) H wn M ?_;clear H;intro w H;refine aG ⟨M,?_⟩;refine K6 _ _ ?_;clear K6;refine bO (fun _ K7=>?_);refine ady (hmx) [[],[],[0],[0,1,2]] [3] V V 2 Z (fun (bX:Nat) (v:ah) (G:GH)=>match bX with|0=>v=.agg #[.slice A7 A.length c7,.slice Ja R.length c13]|1=>v=.agg #[.slice PE B.length Qw,.slice A33 n33 c33]|_=>True) 1 ((b2,.cells #[.slice A7 A.length c7,.slice Ja R.length c13] 43 (0,0))) H ?_ ?_ ?_ ?_ V
 ·clear H;refine ay ?_ ?_ ?_ (bT M) dB
  ·intro bH a w G1 _ _ aM hc hG HT hv;have H:=HT;clear aM;have Hb:=H.full;have H:=Hb;clear hc;refine aU kD (cs:=[_,_]) H wn M M (H.hp.cB 1 M M) M ?_;exact GI
  ·intro bH a w G1 _ _ aM hc hG HT hv;have H:=HT;exact acj
  exact MX
 ·clear H;intro o_ bH a w G1 mK _ hc hG HT hv;obtain rfl:_=o_:=Option.some.inj mK;clear mK;have H:=HT;have H:=H.aN (hv 0 35 (hc 0 Z) M) M;have Hb:=H.full;have H:=Hb;clear hc;refine bC kD 1 (vs:=[_,_]) H wn M ?_;exact Vm
 ·clear H;refine ay (bT M) ?_ ?_ (bT M) dB
  ·intro bH a w G1 _ _ aM hc hG HT hv;have H:=HT;dsimp only [List.set,List.append,lca,bM] at H;exact acj
  exact MX
 clear H;intro a w G jS H hv;dsimp only [List.set,List.append,lca,bM] at H;have H:=H.aN (hv 1 36 M M) M;clear hv;refine bC kD 0 (vs:=[_,_]) H wn M ?_;clear H;intro w H;refine aG ⟨M,?_⟩;refine K7 _ _ ?_;clear K7;refine fE ?_;refine (kJ H results35 (.cons (ny kD (cs:=[_,_]) H M M (H.hp.cB 1 M M)) (.cons (ny kD (cs:=[_,_]) H M M (H.hp.cB 0 M M)) .nil)) ?_).1;exact H.rt ⟨A,R,B,S,_,_,_,_,M,((tJ.mono oD).mono NV).mono jS,((Fu.mono oD).mono NV).mono jS,((RS.mono oD).mono NV).mono jS,RU.mono jS,hA,hR,hB,hS⟩

theorem aAH:Ty prog 79 4 96 [.slice none 0 0,.slice none 0 0,.slice none 0 0,.slice none 0 0] true:=⟨V,V⟩
theorem aqk:aS 35:=aT func35 M
structure Mx (G:GH) (A R B S:List Int) (va vr vb vs:ah):Prop where
 ha:ak G (.sl 1 (A.map fun k=>[li k])) va
 hr:ak G (.sl 1 (R.map fun k=>[li k])) vr
 hb:ak G (.sl 1 (B.map fun k=>[li k])) vb
 hs:ak G (.sl 1 (S.map fun k=>[li k])) vs
 la:A.length<=4294967296
 lr:R.length<=4294967296
 lb:B.length<=4294967296
 ls:S.length<=4294967296
theorem Mx.mono {G G':GH} {A R B S:List Int} {va vr vb vs:ah} (hm:∀ b o,G b=some o->G' b=some o) (h:Mx G A R B S va vr vb vs):Mx G' A R B S va vr vb vs:=⟨h.ha.mono hm,h.hr.mono hm,h.hb.mono hm,h.hs.mono hm,h.la,h.lr,h.lb,h.ls⟩
theorem aAz {l:List Int} {x:Int}:x∈oI l↔x∈l:=by rw [oI,List.mem_mergeSort]
theorem OU (l:List Int):(oI l).length=l.length:=by rw [oI,List.length_mergeSort]
theorem aAy {l:List Int} (h:l.Nodup):(oI l).Pairwise (· < ·):=by
 have h1:(oI l).Nodup:=(List.mergeSort_perm l leI).nodup_iff.2 h;exact (ajI l).imp₂ (fun a b h1 h2=>by omega) h1
section
open Go.RowKit Go.Sort
theorem afe:aS 86:=aT func86 M
theorem aag:prog.underlying 156=some (.slice 43):=by kernel_rfl
theorem aAm {w:World} {g n:Nat} {os:Array Obj} {cur:Array ah} {e:TypeId} (d:Array Int) (hb:w.heap[g]?=some (.cells cur e (0,0))):(grow (putRow (Value.int .i64) (Sort.ahead w n) g 0 d) os).heap[g]?=some (.cells (putCells (Value.int .i64) 0 d cur) e (0,0)):=by
 have hg:g < w.heap.size:=(Array.getElem?_eq_some_iff.1 hb).1;rw [heap_grow_old _ _ (by simpa using hg)]
 simp [putRow,mapBlock,Sort.ahead,Array.getElem?_modify,hb,onCells]
theorem ajC {w:World} {g n k:Nat} {os:Array Obj} (d:Array Int) (hk:k < w.heap.size) (hne:g≠k):(grow (putRow (Value.int .i64) (Sort.ahead w n) g 0 d) os).heap[k]?=w.heap[k]?:=by
 rw [heap_grow_old _ _ (by simpa using hk)]
 simp [putRow,mapBlock,Sort.ahead,Array.getElem?_modify,hne]
theorem aAn (cur:Array ah) (ts:List Int) (h:ts.length<=cur.size):(putCells (Value.int .i64) 0 ts.toArray cur).toList.take ts.length=ts.map (Value.int .i64):=by
 apply List.ext_getElem?
 intro j
 by_cases hj:j < ts.length
 ·rw [List.getElem?_take_of_lt hj,Array.getElem?_toList]
  simp [putCells,hj,show j < cur.size by omega]
 rw [List.getElem?_take_eq_none O,List.getElem?_eq_none (by simp;omega)]
theorem aAk (G:GH) (w0:World) (Lo:OL) (hO:gJ G Lo w0) (l:List Int) (v:ah) (hrw:dw 3 1 v l.length (l.map vi) Lo) (hl:l.length<=4294967296) :
  Calls prog 148 #[v] w0 (fV w0 G Lo fun _ G' L'=>G'=G∧dw 3 1 v l.length ((oI l).map vi) L'):=by
 have hml:maxLen=9223372036854775807:=rfl
 rcases hrw.2 with ⟨rfl,h1,rfl⟩|⟨b,cap,cur,rfl,rfl,h1,h2,h3,h4⟩
 ·have:l=[]:=List.eq_nil_of_length_eq_zero h1;subst this;refine (AnyM.slices_Sort_int_none TQ none 0 w0).mono ?_;rintro e w' ⟨rfl,rfl⟩;exact ⟨_,G,[],M,⟨M,M,M,eG _,fun _ _ _=>rfl,fun _ _ h=>h,fun _ _ h=>.inl h,hO,fun p hp=>(by cases hp)⟩,rfl,by rw [show oI ([]:List Int)=[] from List.mergeSort_nil];exact dw.nil⟩
 have hb:=hO.own _ dX;dsimp only at hb;have hlt:=lt_of_heap hb
 have ht:cur.toList.take l.length=l.map (Value.int .i64):=by rw [Nat.mul_one] at h4;exact h4
 have hH:Holds (Value.int .i64) w0 b 0 l.toArray:=by
  intro j hj
  have hj':j < l.length:=by simpa using hj
  refine ⟨?_,by simp [World.frozen?,hb]⟩
  have h5:(cur.toList.take l.length)[j]?=(l.map (Value.int .i64))[j]?:=by rw [ht]
  rw [List.getElem?_take_of_lt hj'] at h5
  simp only [World.cell?,hb,gy]
  simp only [Option.isSome_none,ug,if_false]
  rw [<- Array.getElem?_toList,h5]
  simp [hj']
 refine (AnyM.slices_Sort_int TQ b 0 cap l w0 hH hlt O).mono ?_;rintro e w' ⟨rfl,n,os,rfl⟩;have hs:l.mergeSort (fun x y=>decide (x<=y))=oI l:=rfl;rw [hs];have hbn:=aAm (n:=n) (os:=os) (oI l).toArray hb;refine ⟨_,G,[(b,.cells (putCells (Value.int .i64) 0 (oI l).toArray cur) 3 (0,0))],M,⟨M,M,M,by simp,fun k hk hne=>ajC _ hk (hne _ dX),fun _ _ h=>h,fun _ _ h=>.inl h,⟨fun k o hk=>?_,fun p hp=>?_,fun p hp=>?_,List.pairwise_singleton _ _⟩,fun p hp=>.inr ⟨_,dX,by rw [oC.1 hp]⟩⟩,M,by simp [OU],.inr ⟨b,cap,_,M,M,h1,h2,by simp [putCells,h3],?_⟩⟩
 ·have hne:b≠k:=fun e=>by have:=hO.sep _ dX;dsimp only at this;rw [e,hk] at this;cases this
  rw [ajC _ (lt_of_heap (hO.ro k o hk)) hne];exact hO.ro k o hk
 ·rw [oC.1 hp];exact hbn
 ·rw [oC.1 hp];have:=hO.sep _ dX;exact this
 rw [Nat.mul_one,<- OU l];exact aAn cur (oI l) (by rw [OU];omega)
def IQ (A B:List Int) (i:Nat):List Int:=if i=0 then [] else if i=1 then A else A++B
theorem alg {m:List Int} {x:Int} (h:x∉m):rQ m x=m++[x]:=av h
theorem ali {m:List Int} {x:Int} (h:x∈m):rQ m x=m:=aD h
theorem aaG {m P X:List Int} {k:Nat} (h:m=nH [] (P++X.take k)) (hk:k < X.length):rQ m X[k]=nH [] (P++X.take (k+1)):=by
 rw [kG hk,<- jv,MC,<- h];rfl
set_option maxHeartbeats 2000000 in
theorem ahN (G:GH) (w0:World) (b:Nat) (A B:List Int) (sA sB:ah) (hA:ak G (.sl 1 (A.map fun k=>[li k])) sA) (hB:ak G (.sl 1 (B.map fun k=>[li k])) sB) (hO:gJ G [(b,.cells #[sA,sB] 41 (0,0))] w0) (lA:A.length<=1000000) (lB:B.length<=1000000) :
  Calls prog 86 #[.slice (some ⟨b,0,none⟩) 2 2] w0 (fV w0 G [(b,.cells #[sA,sB] 41 (0,0))] fun u G' L'=>L'=[]∧ak G' (.sl 1 ((oI (nH [] (A++B))).map fun k=>[li k])) u):=by
 have hml:maxLen=9223372036854775807:=rfl
 have hlen:∀ P,(nH [] P).length<=P.length:=fun P=>by have:=aaF (K:=[]) (l:=P);simpa using this
 refine jA (N:=37) (T:=[(0,_)]) func86 M ntmps86 M M hO ?_;intro a H;refine kP H (SR fun _ K1=>aj K1 M (SR fun _ K2=>?_));clear H K1;intro a H;refine FN H wn M ?_;clear H;intro b9 a w uz H;refine kH H (aj K2 M (SR fun _ K3=>aj K3 M (SQ fun _ K4=>SR fun _ K5=>Rm M (Rl I7 M (Rm M (Kz K5 (SB ?_)))))));clear H K2 K3 K5;intro a H;skip;refine eX (ι:=Nat × ah × List Int × OL) (Tc:=[(3,_),(10,_),(11,_)]) (Lc:=[(_,_)]) (fun gh=>[(4,gh.2.1),(12,vi gh.1)]) (fun gh=>[(b9,fG (iV gh.2.2.1))]++gh.2.2.2) (fun gh=>G) (fun gh=>gh.1<=2∧dw 3 1 gh.2.1 gh.2.2.1.length (gh.2.2.1.map vi) gh.2.2.2∧gh.2.2.1=nH [] (IQ A B gh.1)) (fun gh=>2 - gh.1) ((0,.slice none 0 0,[],[])) (by exact (H.fH (Pl:=[_,_]) (eD:=[_,_]) [1,0] Z M).sub ⟨M,M,M,M,M,aB⟩) ?_ ?_
 ·exact ⟨O,dw.nil,M⟩
 clear H;rintro ⟨i,v4,m,Lo⟩ a w hI H;dsimp only at hI H;obtain ⟨hi,hrw,hm⟩:=hI;dsimp only [lca,bM] at H;refine kP H (SR fun _ K6=>Rc M (Kz K6 (SQ fun _ K7=>Cd M ?_ ?_))) <;> clear H K6
 ·intro fT a H
  try have qL:=dT fT
  have hi2:i < 2:=by omega
  obtain ⟨X,sX,hcX,hX,hpre,hlX,hpl⟩:∃ (X:List Int) (sX:ah),[sA,sB][i]?=some sX∧ak G (.sl 1 (X.map fun k=>[li k])) sX∧IQ A B (i+1)=IQ A B i++X∧X.length<=1000000∧(IQ A B i).length<=1000000:=by
   rcases (show i=0∨i=1 by omega) with rfl|rfl
   ·exact ⟨A,sA,M,hA,M,lA,by simp [IQ]⟩
   exact ⟨B,sB,M,hB,M,lB,lA⟩
  obtain ⟨xA,xn,xc,rfl⟩:=hX.form
  obtain rfl:xn=X.length:=by simpa using hX.len
  refine kP H (Kc K7 (SQ fun _ K8=>SB (SR fun _ K9=>Ri I7 mE M M ?_)));clear H K7;intro a H;refine rG mE H wn M (H.hp.yh (c:=#[sA,sB]) dX (by rw [gy,Nat.mul_one];simpa using hcX)) M ?_;clear H;intro a H;refine kH H (aj K9 M (SR fun _ aR=>Rm M (Rl jZ M (Rm M (Kz aR (SB ?_))))));clear H K9 aR;intro a H;skip;refine eX (ι:=Nat × ah × List Int × OL) (Tc:=[(3,_),(10,_),(11,_),(12,_),(16,_),(17,_)]) (Lc:=[(_,_)]) (fun gh=>[(4,gh.2.1),(18,vi gh.1)]) (fun gh=>[(b9,fG (iV gh.2.2.1))]++gh.2.2.2) (fun gh=>G) (fun gh=>gh.1<=X.length∧dw 3 1 gh.2.1 gh.2.2.1.length (gh.2.2.1.map vi) gh.2.2.2∧gh.2.2.1=nH [] (IQ A B i++X.take gh.1)) (fun gh=>X.length - gh.1) ((0,v4,m,Lo)) (by exact H.sub ⟨M,M,M,M,M,M,M,M,aB⟩) ?_ ?_
  ·exact ⟨O,hrw,by rw [List.take_zero,ig];exact hm⟩
  clear H;rintro ⟨k,v4,m,Lo⟩ a w hI H;dsimp only at hI H;obtain ⟨hk,hrw,hm⟩:=hI;dsimp only [lca,bM] at H;refine kP H (SR fun _ bq=>Rc M (Kz bq (SQ fun _ bP=>Cd M ?_ ?_))) <;> clear H bq
  ·intro h19 a H
   try have rF:=dT h19
   have hk2:k < X.length:=by omega
   obtain ⟨bx,ox,rfl,hcx⟩:=Fy (f:=fun q=>q) hX hk2;have D8:=hlen (IQ A B i++X.take k);rw [<- hm,iW,List.length_take] at D8;refine kP H (Kc bP (SQ fun _ bU=>SB (SR fun _ dh=>Ri jZ aF M M (Rg aF M (by rw [Nat.mul_one];exact hcx) (aj dh M (SR fun _ dZ=>Rm M (Rm M ?_)))))));clear H bP dh;intro a H;refine Bw (ky:=X[k]) (zv:=.bool false) (l:=iV m) xu mF V H wn M M (H.hp.own (b9,fG (iV m)) (by simp)) M ?_;clear H;intro a H;rw [show (uZ X[k] (iV m)).getD (.bool false)=.bool (decide (X[k]∈m)) from FC _ m] at H;refine kH H (Rn M (Kz dZ (Cd M ?_ ?_))) <;> clear H dZ
   ·intro jH a H
    try have p25:=dT jH
    have hnm:X[k]∉m:=by simpa using jH
    refine kP H (SR fun _ eu=>Rm M (Rm M ?_));clear H;intro a H;refine LP (i:=1) (l:=iV m) (ky:=X[k]) xu mF H wn M M M M (KZ (by rw [ZP];exact hnm)) ?_;clear H;intro w H;dsimp only [List.set] at H;rw [show iV m++[(X[k],Value.bool true)]=iV (m++[X[k]]) from (ajv m [X[k]]).symm] at H;refine eu _ _ ?_;clear eu;refine kP H (SC (Rm M (Rm M ?_)));clear H;intro a H;refine iC jZ aF [_] [_] H wn M M M M M (by intro i q h;match i,h with|0,h=>exact h|n+1,h=>simp at h) M M ?_;clear H;intro zH a w XD H;obtain ⟨v4A,v4c,rfl,-,-⟩:=hrw.shape;refine og (Li:=[_,_,_]) (Lo:=Lo) (news:=[vi X[k]]) jZ aF M M H wn M M hrw M (H.hp.cB 0 M M) M O O M ?_;clear H;intro v31 UF a w KR H;refine kH H (bD bU M (SC (Rd M (Rm M ?_))));clear H bU;intro a H;refine aG ?_;refine dY ((k+1,v31,m++[X[k]],UF)) (by exact (H.fH (Pl:=[_,_,_]) (eD:=[_,_]) [1,2] Z M).sub ⟨M,M,M,M,M,M,M,M,aB⟩) ?_
    (try dsimp only);exact ⟨O,by rw [iW,kR];exact KR,by rw [<- alg hnm];exact aaG hm hk2⟩
   intro jH a H
   try have p25:=dF jH
   have hym:X[k]∈m:=by simpa using jH
   refine kP H (Kc bU (SC (Rd M (Rm M ?_))));clear H bU;intro a H;refine aG ?_;refine dY ((k+1,v4,m,Lo)) (by exact H.sub ⟨M,M,M,M,M,M,M,M,aB⟩) ?_
   (try dsimp only);exact ⟨O,hrw,by rw [<- aaG hm hk2];exact (ali hym).symm⟩
  intro h19 a H
  try have rF:=dF h19
  obtain rfl:k=X.length:=by omega
  rw [yG] at hm;refine dQ ?_;refine K8 _ _ ?_;clear K8;refine kP H (SC (Rd M (Rm M ?_)));clear H;intro a H;refine aG ?_;refine dY ((i+1,v4,m,Lo)) (by exact H.sub ⟨M,M,M,M,M,aB⟩) ?_
  (try dsimp only);exact ⟨O,hrw,by rw [hpre];exact hm⟩
 intro fT a H
 try have qL:=dF fT
 obtain rfl:i=2:=by omega
 have hm:m=nH [] (A++B):=hm;have D8:=hlen (A++B);rw [<- hm,iW] at D8;refine dQ ?_;refine K4 _ _ ?_;clear K4;refine kP H (SR fun _ dS=>Rm M ?_);clear H;intro a H;refine gM aeK (Li:=[_,_]) (L:=Lo) H wn M (aAk _ _ Lo (Hp.owns (Li:=[_,_]) H.hp) m v4 hrw O) M ?_;clear H;rintro v35 Uu L35 a w ⟨rfl,auN⟩ XW H;refine dS _ _ ?_;clear dS;refine kP H (SR fun _ eY=>Rm M (aj eY M ?_));clear H eY;intro a H;refine fE ?_;obtain ⟨G',xX,hrep,H⟩:=H.qp (Li:=[_,_]) auN (rows:=(oI m).map fun k=>[li k]) (by simp [OU]) (Eb _ _);rw [hm] at hrep;refine lv H results86 M ?_;exact H.hp.mW (L':=[]) (List.nil_sublist _) ⟨M,hrep⟩
def oq (A B:List Int):List Int:=oI (nH [] (A++B))
theorem Md {A B:List Int} {x:Int}:x∈oq A B↔x∈A∨x∈B:=by
 unfold oq
 rw [aAz,ME,jQ];simp
theorem aah (A B:List Int):(oq A B).Pairwise (· < ·):=aAy (UW List.nodup_nil)
theorem T9 (A B:List Int):(oq A B).length<=A.length+B.length:=by
 have h:=aaF (K:=[]) (l:=A++B)
 unfold oq
 rw [OU];rw [iW] at h;simpa using h
theorem alv {p:Prop} (h:p:=by
 exact Ch HT Hb hG hv (Ij aJ) H M):p:=h
theorem JH {p:Prop} (h:p:=by
 clear H;intro a H;refine aG ⟨M,?_⟩;exact alv):p:=h
theorem abZ {p:Prop} (h:p:=by
 intro aJ dG bH a w G1 eP _ _ aM hc hG HT hv;have H:=HT;clear aM;have Hb:=H.full;have H:=Hb;clear hc;refine kH H (Rf Cm M ?_);exact JH):p:=h
theorem acd {p:Prop} (h:p:=by
 intro aJ dG bH a w G1 eP _ _ aM hc hG HT hv;have H:=HT;clear aM;have Hb:=H.full;have H:=Hb;clear hc;refine kH H (Rf EU M ?_);exact JH):p:=h
set_option maxHeartbeats 4000000 in
theorem aAQ (G:GH) (w0:World) (hG:Hold G w0) (A1 R1 A2 R2:List Int) (a1 r1 a2 r2:Option Addr) (an ac rn rc bn bc sn sc:Nat) (h1:ak G (.sl 1 (A1.map fun k=>[li k])) (.slice a1 an ac)) (h2:ak G (.sl 1 (R1.map fun k=>[li k])) (.slice r1 rn rc)) (h3:ak G (.sl 1 (A2.map fun k=>[li k])) (.slice a2 bn bc)) (h4:ak G (.sl 1 (R2.map fun k=>[li k])) (.slice r2 sn sc))
  (l1:A1.length<=1000000) (l2:R1.length<=1000000) (l3:A2.length<=1000000) (l4:R2.length<=1000000) (c1:yL A1 R1=0) (c2:yL A2 R2=0) (c3:yL (oq A1 A2) (oq R1 R2)=0) :
  Calls prog 36 #[.agg #[.slice a1 an ac,.slice r1 rn rc],.agg #[.slice a2 bn bc,.slice r2 sn sc]] w0 (bG w0 G fun u G'=>∃ va vr:ah,u=.tuple #[.agg #[va,vr],vi 0]∧ak G' (.sl 1 ((oq A1 A2).map fun k=>[li k])) va∧ak G' (.sl 1 ((oq R1 R2).map fun k=>[li k])) vr):=by
 have hml:maxLen=9223372036854775807:=rfl;refine eN [(0,_),(1,_)] func36 M ntmps36 M M hG ?_;intro a H;refine dz (fun _ K1=>?_);refine dR (cs:=[_,_]) H wn M M M ?_;clear H;intro b2 a w hb2 H;refine dR (cs:=[_,_]) H wn M M M ?_;clear H;intro b3 a w hb3 H;refine dJ kD H wn M ?_;clear H;intro b4 a w hb4 H;refine kH H (aj K1 M (SQ fun _ K2=>SQ fun _ K3=>?_));clear H K1;intro a H;have H:=H.fH (Pl:=[_,_,_]) (eD:=[_,_,_]) [1,2,0] Z M;obtain ⟨Ga,hma,tF,H⟩:=H.fF;obtain ⟨Gb,hmb,hb2',H⟩:=H.fF;have hga:=fun j v hj=>lY hb2' 0 [.slice a1 an ac,.slice r1 rn rc] M j v hj;have hgb:=fun j v hj=>aC hmb (lY tF 0 [.slice a2 bn bc,.slice r2 sn sc] M j v hj);replace h1:=(h1.mono hma).mono hmb;replace h2:=(h2.mono hma).mono hmb;replace h3:=(h3.mono hma).mono hmb;replace h4:=(h4.mono hma).mono hmb;refine nU ?_;refine aU kD (cs:=[.slice a1 an ac,.slice r1 rn rc]) H wn M M (fun j v hj=>H.hp.aH (hga j v hj)) M ?_;clear H;intro a H;refine aU kD (cs:=[.slice a2 bn bc,.slice r2 sn sc]) H wn M M (fun j v hj=>H.hp.aH (hgb j v hj)) M ?_;clear H;intro a H;refine iC aag kD [_,_,_,_] [_,_,_,_] H wn M M M M M (by intro i q h;match i,h with|0,h=>exact h|1,h=>exact h|n+2,h=>simp at h) M M ?_;clear H;intro b13 a w NK H;refine kH H (Rl aag M (Rm M (Kn K3 (SB ?_))));clear H K3;intro a H;skip;refine eX (ι:=Nat × GH) (Tc:=[(2,_),(3,_),(4,_),(13,_),(14,_)]) (Lc:=[(_,_),(_,_)]) (fun gh=>[(15,vi gh.1)]) (fun gh=>[]) (fun gh=>gh.2) (fun gh=>gh.1<=2∧(∀ b o,Gb b=some o->gh.2 b=some o)) (fun gh=>2 - gh.1) ((0,Gb)) (by exact H.sub ⟨M,M,M,M,M,M,aB⟩) ?_ ?_
 ·exact ⟨O,fun _ _ h=>h⟩
 clear H;rintro ⟨i,g⟩ a w hI H;dsimp only at hI H;obtain ⟨hi,hgm⟩:=hI;dsimp only [lca,bM] at H;refine kP H (SR fun _ K4=>Rc M (Kz K4 (SQ fun _ K5=>Cd M ?_ ?_))) <;> clear H K4
 ·intro h16 a H
  try have p16:=dT h16
  have hi2:i < 2:=by omega
  obtain ⟨A,R,sA,Qc,Qa,sR,Tk,rc',hc0,hc1,hA,hR,lA,lR,hck⟩:∃ (A R:List Int) (sA:Option Addr) (Qc Qa:Nat) (sR:Option Addr) (Tk rc':Nat),[Value.slice a1 an ac,.slice r1 rn rc,.slice a2 bn bc,.slice r2 sn sc][i*2]?=some (.slice sA Qc Qa)∧[Value.slice a1 an ac,.slice r1 rn rc,.slice a2 bn bc,.slice r2 sn sc][i*2+1]?=some (.slice sR Tk rc')∧ak Gb (.sl 1 (A.map fun k=>[li k])) (.slice sA Qc Qa)∧ak Gb (.sl 1 (R.map fun k=>[li k])) (.slice sR Tk rc')∧A.length<=1000000∧R.length<=1000000∧yL A R=0:=by
   rcases (show i=0∨i=1 by omega) with rfl|rfl
   ·exact ⟨A1,R1,_,_,_,_,_,_,M,M,h1,h2,l1,l2,c1⟩
   exact ⟨A2,R2,_,_,_,_,_,_,M,M,h3,h4,l3,l4,c2⟩
  refine kP H (Kc K5 (SQ fun _ K6=>SB (SR fun _ K7=>Ri aag kD M M ?_)));clear H K5;intro a H
  refine aU kD (cs:=[.slice sA Qc Qa,.slice sR Tk rc']) H wn M M (fun j v hj=>H.hp.yh (c:=#[Value.slice a1 an ac,.slice r1 rn rc,.slice a2 bn bc,.slice r2 sn sc]) dX (by
   match j,hj with
   | 0,hj=>rw [gy,zF,<- hj];simpa using hc0
   | 1,hj=>rw [gy,<- hj];simpa using hc1
   | _+2,hj=>simp at hj)) M ?_;clear H;intro a H
  refine dJ kD H wn M ?_;clear H;intro b7 a w xV H;refine bC kD 0 (vs:=[_,_]) H wn M ?_;clear H;intro w H;refine K7 _ _ ?_;clear K7;refine dz (fun _ K8=>?_);refine aU kD (cs:=[_,_]) H wn M M (H.hp.cB 0 M M) M ?_;clear H;intro a H;refine s_call Wy H wn M (VY _ _ H.ro A R _ _ (hA.mono hgm) (hR.mono hgm) O O) M ?_;clear H;rintro v20 Jg a w rfl ru H;rw [hck] at H;refine kH H (aj K8 M (SR fun _ K9=>Rm M (Rc M (Kz K9 (Cd M ?_ ?_))))) <;> clear H K8 K9
  ·intro h22 a H
   exact absurd h22 Z
  intro h22 a H
  try have oH:=dF h22
  refine kP H (Kc K6 (SC (Rd M (Rm M ?_))));clear H K6;intro a H;refine aG ?_;refine dY ((i+1,_)) (by exact (H.fH (Pl:=[_,_,_]) (eD:=[_,_]) [1,2] Z M).sub ⟨M,M,M,M,M,M,aB⟩) ?_
  (try dsimp only);exact ⟨O,fun b o h=>ru b o (hgm b o h)⟩
 intro h16 a H
 try have p16:=dF h16
 refine dQ ?_;refine K2 _ _ ?_;clear K2;refine bO (fun _ aR=>?_);replace h1:=h1.mono hgm;replace h2:=h2.mono hgm;replace h3:=h3.mono hgm;replace h4:=h4.mono hgm;replace hga:=fun j v hj=>aC hgm (hga j v hj);replace hgb:=fun j v hj=>aC hgm (hgb j v hj)
 have Ij:Jm (fun (aJ:Nat->ah × OL) (bX:Nat) (v:ah) (G:GH)=>match bX with|0=>v=(aK b2 (0+0))|1=>v=.slice a1 an ac|2=>v=(aK b3 (0+0))|3=>v=.slice a2 bn bc|4=>v=(aJ 4).1∧∃ b,aJ 4=(.slice (some ⟨b,0,none⟩) 2 2,[(b,.cells #[.slice a1 an ac,.slice a2 bn bc] 41 (0,0))])|5=>v=(aJ 5).1∧(aJ 5).2=[]∧ak G (.sl 1 ((oq A1 A2).map fun k=>[li k])) v|6=>v=(aK b2 (0+1))|7=>v=.slice r1 rn rc|8=>v=(aK b3 (0+1))|9=>v=.slice r2 sn sc|10=>v=(aJ 10).1∧∃ b,aJ 10=(.slice (some ⟨b,0,none⟩) 2 2,[(b,.cells #[.slice r1 rn rc,.slice r2 sn sc] 41 (0,0))])|11=>v=(aJ 11).1∧(aJ 11).2=[]∧ak G (.sl 1 ((oq R1 R2).map fun k=>[li k])) v|12=>∃ va vr,v=.agg #[va,vr]∧ak G (.sl 1 ((oq A1 A2).map fun k=>[li k])) va∧ak G (.sl 1 ((oq R1 R2).map fun k=>[li k])) vr|13=>v=(aJ 13).1∧∃ b,aJ 13=((aK b 0),[(b,.cells #[.slice none 0 0,.slice none 0 0] 43 (0,0))])|_=>True):=by intro aJ bX v G G' hm h;(iterate 15 (rcases bX with _|bX;(first|exact h|exact let ⟨h1,h2,h3⟩:=h;⟨h1,h2,h3.mono hm⟩|exact let ⟨a,b,h1,h2,h3⟩:=h;⟨a,b,h1,h2.mono hm,h3.mono hm⟩)));exact trivial
 refine adx [4,5,10,11,13] [(4,5),(10,11)] (hmx) [[],[0],[],[2],ra 0 4,ra 0 5,[],[6],[],[8],ra 6 4,ra 0 11,ra 0 12,[],ra 0 14] [14] V V Z V Z (fun (aJ:Nat->ah × OL) (bX:Nat) (v:ah) (G:GH)=>match bX with|0=>v=(aK b2 (0+0))|1=>v=.slice a1 an ac|2=>v=(aK b3 (0+0))|3=>v=.slice a2 bn bc|4=>v=(aJ 4).1∧∃ b,aJ 4=(.slice (some ⟨b,0,none⟩) 2 2,[(b,.cells #[.slice a1 an ac,.slice a2 bn bc] 41 (0,0))])|5=>v=(aJ 5).1∧(aJ 5).2=[]∧ak G (.sl 1 ((oq A1 A2).map fun k=>[li k])) v|6=>v=(aK b2 (0+1))|7=>v=.slice r1 rn rc|8=>v=(aK b3 (0+1))|9=>v=.slice r2 sn sc|10=>v=(aJ 10).1∧∃ b,aJ 10=(.slice (some ⟨b,0,none⟩) 2 2,[(b,.cells #[.slice r1 rn rc,.slice r2 sn sc] 41 (0,0))])|11=>v=(aJ 11).1∧(aJ 11).2=[]∧ak G (.sl 1 ((oq R1 R2).map fun k=>[li k])) v|12=>∃ va vr,v=.agg #[va,vr]∧ak G (.sl 1 ((oq A1 A2).map fun k=>[li k])) va∧ak G (.sl 1 ((oq R1 R2).map fun k=>[li k])) vr|13=>v=(aJ 13).1∧∃ b,aJ 13=((aK b 0),[(b,.cells #[.slice none 0 0,.slice none 0 0] 43 (0,0))])|_=>True) (fun m hm x y i v G hi hc h=>by
  have hm:m=4∨m=5∨m=10∨m=11∨m=13:=by simpa using hm
  rcases hm with rfl|rfl|rfl|rfl|rfl
  ·exact EK
  ·exact EK
  ·exact EK
  ·exact EK
  ·exact EK
  ) H ?_ ?_ ?_
 ·clear H;refine ay ?_ ?_ ?_ ?_ (ay ?_ ?_ ?_ ?_ (ay ?_ ?_ ?_ ?_ (bN ?_ (bN ?_ (bN ?_ dB)))))
  ·exact abZ
  ·intro aJ dG bH a w G1 eP _ _ aM hc hG HT hv;have H:=HT;clear aM;have H:=H.aN (hv 0 26 (hc 0 Z) M) M;have Hb:=H.full;have H:=Hb;clear hc;refine kH H (Rg mE M (aC hG (hga 0 _ M)) ?_);exact JH
  ·exact abZ
  ·intro aJ dG bH a w G1 eP _ _ aM hc hG HT hv;have H:=HT;clear aM;have H:=H.aN (hv 2 28 (hc 2 Z) M) M;have Hb:=H.full;have H:=Hb;clear hc;refine kH H (Rg mE M (aC hG (hgb 0 _ M)) ?_);exact JH
  ·exact uP
  ·exact uP
  ·exact acd
  ·intro aJ dG bH a w G1 eP _ _ aM hc hG HT hv;have H:=HT;clear aM;have H:=H.aN (hv 6 32 (hc 6 Z) M) M;have Hb:=H.full;have H:=Hb;clear hc;refine kH H (Rg mE M (aC hG (hga 1 _ M)) ?_);exact JH
  ·exact acd
  ·intro aJ dG bH a w G1 eP _ _ aM hc hG HT hv;have H:=HT;clear aM;have H:=H.aN (hv 8 34 (hc 8 Z) M) M;have Hb:=H.full;have H:=Hb;clear hc;refine kH H (Rg mE M (aC hG (hgb 1 _ M)) ?_);exact JH
  ·exact uP
  ·exact uP
  ·intro aJ dG bH a w G1 eP _ _ aM hc hG HT hv;have H:=HT;clear aM;obtain ⟨u31,Yo,Oe⟩:=hv 5 31 (hc 5 Z) M;(try dsimp only at Oe);obtain ⟨h31,e31,hv31⟩:=Oe;obtain ⟨A31,n31,c31,rfl⟩:=hv31.form;have H:=H.gZ Yo;obtain ⟨u37,Yp,Og⟩:=hv 11 37 (hc 11 Z) M;(try dsimp only at Og);obtain ⟨h37,e37,KV⟩:=Og;obtain ⟨A37,n37,c37,rfl⟩:=KV.form;have H:=H.gZ Yp;have Hb:=H.full;have H:=Hb;clear hc;refine jU ajH [_,_] H wn M M M M ?_;clear H;intro a H;refine aG ⟨M,?_⟩;exact wL V (Ij aJ) M M HT Hb hG hv (fun _ _ h=>h) (⟨_,_,M,hv31,KV⟩) H
  ·exact uP
  exact GQ
 ·clear H;refine ay ?_ ?_ ?_ ?_ (ay ?_ ?_ ?_ ?_ (ay ?_ ?_ ?_ ?_ (bN ?_ (bN ?_ (bN ?_ dB)))))
  ·intro hB;exact fP
  ·intro hB;exact fP
  ·intro hB;exact fP
  ·intro hB;exact fP
  ·intro _ aJ dG bH a w G1 eP _ hc hG HT hv;have H:=HT;have H:=H.cast (show zW [(4,5),(10,11)] aJ 4++dG=dG from rfl);obtain ⟨u27,avf,auC,-⟩:=hv (.bool false,[]) 1 27 Z (hc 1 Z) M;obtain rfl:u27=.slice a1 an ac:=auC;have H:=H.gZ avf;obtain ⟨u29,avg,auD,-⟩:=hv (.bool false,[]) 3 29 Z (hc 3 Z) M;obtain rfl:u29=.slice a2 bn bc:=auD;have H:=H.gZ avg;have Hb:=H.full;have H:=Hb;clear hc;refine iC I7 mE [_,_] [_,_] H wn M M M M M (by intro i q h;match i,h with|0,h=>exact h|1,h=>exact h|n+2,h=>simp at h) M M ?_;clear H;intro zH a w XD H;refine aG ⟨M,(.slice (some ⟨zH,0,none⟩) 2 2,[(zH,.cells #[.slice a1 an ac,.slice a2 bn bc] 41 (0,0))]),?_⟩;exact vQ V (Ij (mG aJ 4 (.slice (some ⟨zH,0,none⟩) 2 2,[(zH,.cells #[.slice a1 an ac,.slice a2 bn bc] 41 (0,0))]))) M HT Hb hG (fun j e h1 h2 h3=>(let ⟨v,q1,_,q2⟩:=hv (.slice (some ⟨zH,0,none⟩) 2 2,[(zH,.cells #[.slice a1 an ac,.slice a2 bn bc] 41 (0,0))]) j e h1 h2 h3;⟨v,q1,q2⟩)) (fun _ _ h=>h) (⟨M,_,M⟩) H
  ·intro _ aJ dG bH a w G1 eP _ hc hG HT hv;have H:=HT;have H:=H.cast (show zW [(4,5),(10,11)] aJ 5++dG=(aJ 4).2++dG from rfl);obtain ⟨u30,avh,agX,-⟩:=hv (.bool false,[]) 4 30 Z (hc 4 Z) M;(try dsimp only at agX);obtain ⟨jl,zH,e30⟩:=agX;have H:=H.gZ avh;have Hb:=H.full;have H:=Hb;clear hc;rw [e30] at H jl;dsimp only at H jl;subst jl;refine gM afe (Li:=dG) (L:=[_]) (H.perm oO) wn M (ahN _ _ zH _ _ _ _ (h1.mono hG) (h3.mono hG) (Hp.owns (Li:=dG) (H.perm oO).hp) l1 l3) M ?_;clear H;rintro v31 G31 L31 a w ⟨rfl,hv31⟩ asI H;have H:=H.perm oO;refine aG ⟨M,(v31,[]),?_⟩;exact vQ V (Ij (mG aJ 5 (v31,[]))) M HT Hb hG (fun j e h1 h2 h3=>(let ⟨v,q1,_,q2⟩:=hv (v31,[]) j e h1 h2 h3;⟨v,q1,q2⟩)) asI (⟨rfl,rfl,hv31⟩) H
  ·intro hB;exact fP
  ·intro hB;exact fP
  ·intro hB;exact fP
  ·intro hB;exact fP
  ·intro _ aJ dG bH a w G1 eP _ hc hG HT hv;have H:=HT;have H:=H.cast (show zW [(4,5),(10,11)] aJ 10++dG=dG from rfl);obtain ⟨u33,avj,RU,-⟩:=hv (.bool false,[]) 7 33 Z (hc 7 Z) M;obtain rfl:u33=.slice r1 rn rc:=RU;have H:=H.gZ avj;obtain ⟨u35,avl,auE,-⟩:=hv (.bool false,[]) 9 35 Z (hc 9 Z) M;obtain rfl:u35=.slice r2 sn sc:=auE;have H:=H.gZ avl;have Hb:=H.full;have H:=Hb;clear hc;refine iC I7 mE [_,_] [_,_] H wn M M M M M (by intro i q h;match i,h with|0,h=>exact h|1,h=>exact h|n+2,h=>simp at h) M M ?_;clear H;intro Dq a w atp H;refine aG ⟨M,(.slice (some ⟨Dq,0,none⟩) 2 2,[(Dq,.cells #[.slice r1 rn rc,.slice r2 sn sc] 41 (0,0))]),?_⟩;exact vQ V (Ij (mG aJ 10 (.slice (some ⟨Dq,0,none⟩) 2 2,[(Dq,.cells #[.slice r1 rn rc,.slice r2 sn sc] 41 (0,0))]))) M HT Hb hG (fun j e h1 h2 h3=>(let ⟨v,q1,_,q2⟩:=hv (.slice (some ⟨Dq,0,none⟩) 2 2,[(Dq,.cells #[.slice r1 rn rc,.slice r2 sn sc] 41 (0,0))]) j e h1 h2 h3;⟨v,q1,q2⟩)) (fun _ _ h=>h) (⟨M,_,M⟩) H
  ·intro _ aJ dG bH a w G1 eP _ hc hG HT hv;have H:=HT;have H:=H.cast (show zW [(4,5),(10,11)] aJ 11++dG=(aJ 10).2++dG from rfl);obtain ⟨u36,avm,agZ,-⟩:=hv (.bool false,[]) 10 36 Z (hc 10 Z) M;(try dsimp only at agZ);obtain ⟨tq,Dq,e36⟩:=agZ;have H:=H.gZ avm;have Hb:=H.full;have H:=Hb;clear hc;rw [e36] at H tq;dsimp only at H tq;subst tq;refine gM afe (Li:=dG) (L:=[_]) (H.perm oO) wn M (ahN _ _ Dq _ _ _ _ (h2.mono hG) (h4.mono hG) (Hp.owns (Li:=dG) (H.perm oO).hp) l2 l4) M ?_;clear H;rintro v37 PS L37 a w ⟨rfl,KV⟩ NI H;have H:=H.perm oO;refine aG ⟨M,(v37,[]),?_⟩;exact vQ V (Ij (mG aJ 11 (v37,[]))) M HT Hb hG (fun j e h1 h2 h3=>(let ⟨v,q1,_,q2⟩:=hv (v37,[]) j e h1 h2 h3;⟨v,q1,q2⟩)) NI (⟨rfl,rfl,KV⟩) H
  ·intro hB;exact fP
  ·intro _ aJ dG bH a w G1 eP _ hc hG HT hv;have H:=HT;have H:=H.cast (show zW [(4,5),(10,11)] aJ 13++dG=dG from rfl);have Hb:=H.full;have H:=Hb;clear hc;refine dJ kD H wn M ?_;clear H;intro b9 a w uz H;refine aG ⟨M,((aK b9 0),[(b9,.cells #[.slice none 0 0,.slice none 0 0] 43 (0,0))]),?_⟩;exact vQ V (Ij (mG aJ 13 ((aK b9 0),[(b9,.cells #[.slice none 0 0,.slice none 0 0] 43 (0,0))]))) M HT Hb hG (fun j e h1 h2 h3=>(let ⟨v,q1,_,q2⟩:=hv ((aK b9 0),[(b9,.cells #[.slice none 0 0,.slice none 0 0] 43 (0,0))]) j e h1 h2 h3;⟨v,q1,q2⟩)) (fun _ _ h=>h) (⟨M,_,M⟩) H
  intro hB;exact fP
 clear H;intro aJ a w G tC H hv;rw [show iM [4,5,10,11,13] (live [(4,5),(10,11)] fun _=>true) aJ=(aJ 5).2++(aJ 11).2++(aJ 13).2 from by first|(simp [iM,live];done)|(simp [iM,live];rfl)] at H
 try simp only [iM,List.flatMap_cons,List.flatMap_nil,cond_true,ig,jv] at H
 obtain ⟨u9,hu9,hp9⟩:=hv 13 9 Z M;(try dsimp only at hp9);obtain ⟨h9,b9,e9⟩:=hp9;have H:=H.gZ hu9;obtain ⟨u31,Yo,Oe⟩:=hv 5 31 Z M;(try dsimp only at Oe);obtain ⟨h31,e31,hv31⟩:=Oe;obtain ⟨A31,n31,c31,rfl⟩:=hv31.form;have H:=H.gZ Yo;obtain ⟨u37,Yp,Og⟩:=hv 11 37 Z M;(try dsimp only at Og);obtain ⟨h37,e37,KV⟩:=Og;obtain ⟨A37,n37,c37,rfl⟩:=KV.form;have H:=H.gZ Yp;obtain ⟨u38,avn,aha⟩:=hv 12 38 Z M;(try dsimp only at aha);obtain ⟨va,vr,rfl,hva,mR⟩:=aha;obtain ⟨A38,n38,c38,rfl⟩:=hva.form;obtain ⟨B38,m38,d38,rfl⟩:=mR.form;have H:=H.gZ avn;clear hv;rw [e9] at h9;subst h9;rw [e31,e37,e9] at H;dsimp only [lca,bM] at H;refine bC kD 0 (vs:=[_,_]) H wn M ?_;clear H;intro w H;refine aG ⟨M,?_⟩;refine aR _ _ ?_;clear aR;refine bO (fun _ bq=>?_);refine dz (fun _ bP=>?_);refine aU kD (cs:=[_,_]) H wn M M (H.hp.cB 0 M M) M ?_;clear H;intro a H;refine s_call Wy H wn M (VY _ _ H.ro (oq A1 A2) (oq R1 R2) _ _ hva mR (by have:=T9 A1 A2;omega) (by have:=T9 R1 R2;omega)) rfl ?_;clear H;rintro v40 Ml a w rfl yX H;rw [c3] at H;refine kH H (aj bP M (SR fun _ bU=>Rm M (Rc M (Kz bU (Cd M ?_ ?_))))) <;> clear H bP bU
 ·intro jR a H
  exact absurd jR Z
 intro jR a H
 refine iE ?_;refine bq _ _ ?_;clear bq;refine dz (fun _ dh=>?_);refine aU kD (cs:=[_,_]) H wn M M (H.hp.cB 0 M M) M ?_;clear H;intro a H;refine bC kD 2 (vs:=[_,_]) H wn M ?_;clear H;intro w H;refine kH H (aj dh M ?_);clear H dh;intro a H;refine fE ?_;refine (kJ H results36 (.cons (ny kD (cs:=[_,_]) H M M (H.hp.cB 2 M M)) (.cons (fM H M) .nil)) ?_).1;exact H.rt ⟨_,_,M,hva.mono yX,mR.mono yX⟩
end
theorem aql:aS 36:=aT func36 M
theorem VX {A R:List Int} (hA:A.Pairwise (· < ·)) (hA2:∀ x∈A,1<=x∧x<=1000) (hR:R.Pairwise (· < ·)) (hR2:∀ x∈R,1<=x∧x<=1000) (hd:∀ x∈A,x∉R):yL A R=0:=by
 refine EX fun x hx=>?_
 simp only [gK,List.not_mem_nil,or_false] at hx
 rcases hx with rfl|rfl|rfl
 ·exact aef hA hA2
 ·exact aef hR hR2
 have:A.findIdx? (lsB R)=none:=List.findIdx?_eq_none_iff.2 fun x hx=>by rw [La hR,mY (hd x hx)]
 rw [this,tV Z];rfl
theorem aiz (f g:Int->Bool):fI f g=fI g f:=funext fun q=>Bool.or_comm _ _
theorem Ua {A B:List Int} (hA:A.Pairwise (· < ·)) (hB:B.Pairwise (· < ·)):lsB (oq A B)=fI (lsB A) (lsB B):=funext fun q=>by
 unfold fI
 rw [La (aah A B),La hA,La hB,rT]
 simp [Md]
theorem Sl {A B:List Int} (hA:A.Pairwise (· < ·)) (hB:B.Pairwise (· < ·)) (h:∀ x∈A,x∉B):∀ q,lsB A q=true->lsB B q=false:=fun q hq=>by
 rw [La hA,oM] at hq;rw [La hB,mY (h q hq)]
set_option maxHeartbeats 8000000 in
theorem anE (G:GH) (w0:World) (hG:Hold G w0) (D:kN) (d:gu) (hR:oL G D d) (hs:yF 134217728 d) (A1 R1 A2 R2:List Int) (v1 v2 v3 v4:ah) (hp:Mx G A1 R1 A2 R2 v1 v2 v3 v4) :
  Calls prog 9 #[D.val,.agg #[v1,v2,v3,v4]] w0 (bG w0 G fun u G'=>u=.bool true):=by
 obtain ⟨a1,an,ac,rfl⟩:=hp.ha.form;obtain ⟨r1,rn,rc,rfl⟩:=hp.hr.form;obtain ⟨a2,bn,bc,rfl⟩:=hp.hb.form;obtain ⟨r2,sn,sc,rfl⟩:=hp.hs.form;have Yk:=hs.up (m:=536870912) Z;refine eN [(0,_),(1,_)] func9 M ntmps9 M M hG ?_;intro a H;refine dz (fun _ K1=>?_);refine dR (cs:=[_,_,_,_,_,_,_,_,_,_,_]) H wn M M M ?_;clear H;intro b2 a w hb2 H;refine dR (cs:=[_,_,_,_]) H wn M M M ?_;clear H;intro b3 a w hb3 H;refine kH H (aj K1 M (SQ fun _ K2=>SQ fun _ K3=>?_));clear H K1;intro a H;obtain ⟨Ga,hma,tF,H⟩:=H.fF;obtain ⟨Gb,hmb,hb2',H⟩:=H.fF;have hgd:=fun j v hj=>lY hb2' 0 D.cells M j v hj;have hgs:=fun j v hj=>aC hmb (lY tF 0 [.slice a1 an ac,.slice r1 rn rc,.slice a2 bn bc,.slice r2 sn sc] M j v hj);replace hR:=(hR.mono hma).mono hmb;replace hp:=(hp.mono hma).mono hmb;refine nU ?_;refine s_call Wt H wn M (YQ _ _ H.ro) M ?_;clear H;rintro v17 BI a w rfl tH H;replace hR:=hR.mono tH;replace hp:=hp.mono tH;replace hgd:=fun j v hj=>aC tH (hgd j v hj);replace hgs:=fun j v hj=>aC tH (hgs j v hj);refine kH H (Rn M (Rm M (Sp 19 M ?_ ?_))) <;> clear H
 ·intro h19 a H
  try have rF:=dT h19
  refine kH H (aL h19 M (aL h19 M (Pt h19 M (Kn K3 (Ct M M (SR fun _ K4=>?_))))));clear H K3;intro a H;refine s_call Wt H wn M (YQ _ _ H.ro) M ?_;clear H;rintro v25 FZ a w rfl pG H;replace hR:=hR.mono pG;replace hp:=hp.mono pG;replace hgd:=fun j v hj=>aC pG (hgd j v hj);replace hgs:=fun j v hj=>aC pG (hgs j v hj);exact kH H (aj K4 M (LR results9 M fun H=>H.rt (by first|rfl|(simp_all;done))))
 intro h19 a H
 try have rF:=dF h19
 refine aU iB (cs:=D.cells) H (wg H M M h19) M M (fun j v hj=>H.hp.aH (hgd j v hj)) M ?_;clear H;intro a H;refine jU ajH [_,_] H (wg H M M h19) M M M M ?_;clear H;intro a H;refine s_call aoF H (wg H M M h19) M (aAh _ _ H.ro D d hR hs.z [] [] _ _ ⟨ak.qK M Z,ak.qK M Z,Z,Z⟩) M ?_;clear H;rintro v22 Ut a w ⟨b22,rfl,aBP⟩ Ba H;replace hR:=hR.mono Ba;replace hp:=hp.mono Ba;replace hgd:=fun j v hj=>aC Ba (hgd j v hj);replace hgs:=fun j v hj=>aC Ba (hgs j v hj);refine kH H (YN h19 M (Pf h19 M (Kn K3 (Cd M ?_ ?_)))) <;> clear H K3
 ·intro cK a H
  try have kV:=dT cK
  refine dz (fun _ K5=>?_);refine s_call Wt H wn M (YQ _ _ H.ro) M ?_;clear H;rintro v25 FZ a w rfl pG H;replace hR:=hR.mono pG;replace hp:=hp.mono pG;replace hgd:=fun j v hj=>aC pG (hgd j v hj);replace hgs:=fun j v hj=>aC pG (hgs j v hj);exact kH H (aj K5 M (LR results9 M fun H=>H.rt (by first|rfl|(simp_all;done))))
 intro cK a H
 try have kV:=dF cK
 refine iE ?_;refine K2 _ _ ?_;clear K2;refine bO (fun _ K6=>?_)
 have hc:iT d=0:=by simp_all
 refine nU ?_;refine aU aAH (cs:=[.slice a1 an ac,.slice r1 rn rc,.slice a2 bn bc,.slice r2 sn sc]) H wn M M (fun j v hj=>H.hp.aH (hgs j v hj)) M ?_;clear H;intro a H;refine s_call aqk H wn M (anP _ _ H.ro A1 R1 A2 R2 _ _ _ _ _ _ _ _ _ _ _ _ hp.ha hp.hr hp.hb hp.hs hp.la hp.lr hp.lb hp.ls) M ?_;clear H;rintro v28 Mj a w ⟨A,R,B,S,va,vr,vb,vs,rfl,q1,q2,q3,q4,o1,o2,o3,o4⟩ NU H;obtain ⟨xA,xn,xc,rfl⟩:=q1.form;obtain ⟨yA,yn,yc,rfl⟩:=q2.form;obtain ⟨zA,zn,zc,rfl⟩:=q3.form;obtain ⟨tA,tn,tc,rfl⟩:=q4.form;have hAl:=o1.len;have hRl:=o2.len;have hBl:=o3.len;have hSl:=o4.len;have dAR:∀ x∈A,x∉R:=fun x hx h=>o2.Ni x h hx;have Wi:∀ x∈A,x∉S:=fun x hx h=>o4.Ni x h (by simp [hx]);have Wn:∀ x∈R,x∉B:=fun x hx h=>o3.Ni x h (by simp [hx]);have dBS:∀ x∈B,x∉S:=fun x hx h=>o4.Ni x h (by simp [hx]);have e1:=VX o1.inc o1.rng o2.inc o2.rng dAR;have e2:=VX o3.inc o3.rng o4.inc o4.rng dBS;have e3:=VX (aah A B) (fun x hx=>(Md.1 hx).elim (o1.rng x) (o3.rng x)) (aah R S) (fun x hx=>(Md.1 hx).elim (o2.rng x) (o4.rng x)) fun x hx h=>(Md.1 hx).elim (fun a=>(Md.1 h).elim (dAR x a) (Wi x a)) fun b=>(Md.1 h).elim (fun r=>Wn x r b) (dBS x b)
 have t1:nD (jJ (lsB B) (lsB S) (nD (jJ (lsB A) (lsB R) d)))=nD (jJ (lsB (oq A B)) (lsB (oq R S)) d):=by
  rw [twice hc (Sl o1.inc o4.inc Wi) (Sl o2.inc o3.inc Wn),Ua o1.inc o3.inc,Ua o2.inc o4.inc]
 have t2:nD (jJ (lsB A) (lsB R) (nD (jJ (lsB B) (lsB S) d)))=nD (jJ (lsB (oq A B)) (lsB (oq R S)) d):=by
  rw [twice hc (Sl o3.inc o2.inc fun x b r=>Wn x r b) (Sl o4.inc o1.inc fun x s a=>Wi x a s),Ua o1.inc o3.inc,Ua o2.inc o4.inc,aiz (lsB A),aiz (lsB R)]
 have s1:=(Zc (Tw (acc:=lsB A) (rej:=lsB R) hs Z Z)).up (m:=536870912) Z;have s2:=(Zc (Tw (acc:=lsB B) (rej:=lsB S) hs Z Z)).up (m:=536870912) Z;have s3:=(Zc (Tw (acc:=lsB (oq A B)) (rej:=lsB (oq R S)) hs Z Z)).fl;have k1:=Zb (OI (acc:=lsB A) (rej:=lsB R) hc);have k2:=Zb (OI (acc:=lsB B) (rej:=lsB S) hc);have hul:=T9 A B;have hvl:=T9 R S;replace hR:=hR.mono NU;replace hgd:=fun j v hj=>aC NU (hgd j v hj);refine kH H (Rm M ?_);clear H;intro a H;(iterate 2 refine lT H wn M M M ?_;clear H;intro a H);refine dJ kD H wn M ?_;clear H;intro b5 a w hb5 H;refine dJ kD H wn M ?_;clear H;intro b6 a w hb6 H;refine bC kD 1 (vs:=[_,_]) H wn M ?_;clear H;intro w H;refine bC kD 0 (vs:=[_,_]) H wn M ?_;clear H;intro w H;refine aG ?_;refine K6 _ _ ?_;clear K6;refine bO (fun _ K7=>?_);obtain ⟨G1,hm1,NP,H⟩:=H.fF;obtain ⟨G2,hm2,zP,H⟩:=H.fF;have hmm:∀ b o,Mj b=some o->G2 b=some o:=fun b o h=>hm2 b o (hm1 b o h);have hg5:=fun j v hj=>lY zP 0 [.slice xA xn xc,.slice yA yn yc] M j v hj;have zS:=fun j v hj=>aC hm2 (lY NP 0 [.slice zA zn zc,.slice tA tn tc] M j v hj);replace hR:=hR.mono hmm;replace q1:=q1.mono hmm;replace q2:=q2.mono hmm;replace q3:=q3.mono hmm;replace q4:=q4.mono hmm;replace hgd:=fun j v hj=>aC hmm (hgd j v hj);have hT:∀ b o,G2 b=some o->G2 b=some o:=fun _ _ h=>h;refine nU ?_;refine aU kD (cs:=[.slice xA xn xc,.slice yA yn yc]) H wn M M (fun j v hj=>H.hp.aH (aC hT (hg5 j v hj))) M ?_;clear H;intro a H;refine aU kD (cs:=[.slice zA zn zc,.slice tA tn tc]) H wn M M (fun j v hj=>H.hp.aH (aC hT (zS j v hj))) M ?_;clear H;intro a H;refine s_call aql H wn M (aAQ _ _ H.ro A R B S _ _ _ _ _ _ _ _ _ _ _ _ (q1.mono hT) (q2.mono hT) (q3.mono hT) (q4.mono hT) O O O O e1 e2 e3) M ?_;clear H;rintro v34 Mk a w ⟨ua,ur,rfl,qa,qr⟩ Fe H;obtain ⟨uA,un,uc,rfl⟩:=qa.form;obtain ⟨wA,wn',wc,rfl⟩:=qr.form;replace hT:=fun b o h=>Fe b o (hT b o h);refine kH H (Rm M ?_);clear H;intro a H;(iterate 2 refine lT H wn M M M ?_;clear H;intro a H);refine dJ kD H wn M ?_;clear H;intro b7 a w xV H;refine bC kD 0 (vs:=[_,_]) H wn M ?_;clear H;intro w H;refine kH H (bD K7 M (SQ fun _ K8=>?_));clear H K7;intro a H;obtain ⟨G3,KD,XG,H⟩:=H.fF;have AU:∀ b o,G3 b=some o->G3 b=some o:=fun _ _ h=>h;have hg7:=fun j v hj=>lY XG 0 [.slice uA un uc,.slice wA wn' wc] M j v hj;replace hT:=fun b o h=>KD b o (hT b o h);replace qa:=qa.mono KD;replace qr:=qr.mono KD;refine nU ?_;refine aU iB (cs:=D.cells) H wn M M (fun j v hj=>H.hp.aH (aC hT (hgd j v hj))) M ?_;clear H;intro a H;refine aU kD (cs:=[.slice xA xn xc,.slice yA yn yc]) H wn M M (fun j v hj=>H.hp.aH (aC hT (hg5 j v hj))) M ?_;clear H;intro a H;refine s_call Nl H wn M (OH _ _ H.ro D d (hR.mono hT) Yk hc A R _ _ (q1.mono hT) (q2.mono hT) O O) M ?_;clear H;rintro v40 Ml a w ⟨E,rfl,hE⟩ yX H
 unfold FK at hE
 rw [aD e1] at hE;rw [e1] at H;replace hT:=fun b o h=>yX b o (hT b o h);replace AU:=fun b o h=>yX b o (AU b o h);refine kH H (Rm M ?_);clear H;intro a H;(iterate 2 refine lT H wn M M M ?_;clear H;intro a H);refine dJ iB H wn M ?_;clear H;intro b9 a w uz H;refine bC iB 0 (vs:=[_,_,_,_,_,_,_,_,_,_,_]) H wn M ?_;clear H;intro w H;refine kH H (bD K8 M (SR fun _ K9=>?_));clear H K8;intro a H;refine aU iB (cs:=E.cells) H wn M M (H.hp.cB 0 M M) M ?_;clear H;intro a H;refine aU kD (cs:=[.slice zA zn zc,.slice tA tn tc]) H wn M M (fun j v hj=>H.hp.aH (aC hT (zS j v hj))) M ?_;clear H;intro a H;refine s_call Nl H wn M (OH _ _ H.ro E _ hE s1 k1 B S _ _ (q3.mono hT) (q4.mono hT) O O) M ?_;clear H;rintro v46 Uw a w ⟨E2,rfl,hE2⟩ NZ H
 unfold FK at hE2
 rw [aD e2,t1] at hE2;rw [e2] at H;replace hT:=fun b o h=>NZ b o (hT b o h);replace AU:=fun b o h=>NZ b o (AU b o h);refine kH H (Rm M ?_);clear H;intro a H;(iterate 2 refine lT H wn M M M ?_;clear H;intro a H);refine bC iB 0 (vs:=[_,_,_,_,_,_,_,_,_,_,_]) H wn M ?_;clear H;intro w H;refine kH H (aj K9 M (SR fun _ aR=>?_));clear H K9;intro a H;refine aU iB (cs:=D.cells) H wn M M (fun j v hj=>H.hp.aH (aC hT (hgd j v hj))) M ?_;clear H;intro a H;refine aU kD (cs:=[.slice zA zn zc,.slice tA tn tc]) H wn M M (fun j v hj=>H.hp.aH (aC hT (zS j v hj))) M ?_;clear H;intro a H;refine s_call Nl H wn M (OH _ _ H.ro D d (hR.mono hT) Yk hc B S _ _ (q3.mono hT) (q4.mono hT) O O) M ?_;clear H;rintro v52 Ux a w ⟨F,rfl,hF⟩ N7 H
 unfold FK at hF
 rw [aD e2] at hF;rw [e2] at H;replace hT:=fun b o h=>N7 b o (hT b o h);replace hE2:=hE2.mono N7;replace AU:=fun b o h=>N7 b o (AU b o h);refine kH H (Rm M ?_);clear H;intro a H;(iterate 2 refine lT H wn M M M ?_;clear H;intro a H);refine dJ iB H wn M ?_;clear H;intro b12 a w Hy H;refine bC iB 0 (vs:=[_,_,_,_,_,_,_,_,_,_,_]) H wn M ?_;clear H;intro w H;refine kH H (aj aR M (SR fun _ bq=>?_));clear H aR;intro a H;refine aU iB (cs:=F.cells) H wn M M (H.hp.cB 0 M M) M ?_;clear H;intro a H;refine aU kD (cs:=[.slice xA xn xc,.slice yA yn yc]) H wn M M (fun j v hj=>H.hp.aH (aC hT (hg5 j v hj))) M ?_;clear H;intro a H;refine s_call Nl H wn M (OH _ _ H.ro F _ hF s2 k2 A R _ _ (q1.mono hT) (q2.mono hT) O O) M ?_;clear H;rintro v58 G58 a w ⟨F2,rfl,hF2⟩ N8 H
 unfold FK at hF2
 rw [aD e1,t2] at hF2;rw [e1] at H;replace hT:=fun b o h=>N8 b o (hT b o h);replace hE2:=hE2.mono N8;replace AU:=fun b o h=>N8 b o (AU b o h);refine kH H (Rm M ?_);clear H;intro a H;(iterate 2 refine lT H wn M M M ?_;clear H;intro a H);refine bC iB 0 (vs:=[_,_,_,_,_,_,_,_,_,_,_]) H wn M ?_;clear H;intro w H;refine kH H (aj bq M (SR fun _ bP=>?_));clear H bq;intro a H;refine aU iB (cs:=D.cells) H wn M M (fun j v hj=>H.hp.aH (aC hT (hgd j v hj))) M ?_;clear H;intro a H;refine aU kD (cs:=[.slice uA un uc,.slice wA wn' wc]) H wn M M (fun j v hj=>H.hp.aH (aC AU (hg7 j v hj))) M ?_;clear H;intro a H;refine s_call Nl H wn M (OH _ _ H.ro D d (hR.mono hT) Yk hc (oq A B) (oq R S) _ _ (qa.mono AU) (qr.mono AU) O O) M ?_;clear H;rintro v64 G64 a w ⟨K,rfl,hK⟩ agH H
 unfold FK at hK
 rw [aD e3] at hK;rw [e3] at H;replace hE2:=hE2.mono agH;replace hF2:=hF2.mono agH;refine kH H (Rm M ?_);clear H;intro a H;(iterate 2 refine lT H wn M M M ?_;clear H;intro a H);refine dJ iB H wn M ?_;clear H;intro b15 a w XC H;refine bC iB 0 (vs:=[_,_,_,_,_,_,_,_,_,_,_]) H wn M ?_;clear H;intro w H;refine kH H (aj bP M (SR fun _ bU=>Rm M (Rc M (Rm M (Sp 69 M ?_ ?_))))) <;> clear H bP
 ·intro qG a H
  try have p69:=dT qG
  refine kH H (YM qG M (YC qG M (Pt qG M (Rm M (Sp 73 M ?_ ?_))))) <;> clear H
  ·intro Co a H
   try have p73:=dT Co
   refine kH H (YM Co M (YC Co M (Pt Co M (Rm M (Sp 77 M ?_ ?_))))) <;> clear H
   ·intro xR a H
    try have IL:=dT xR
    refine kH H (YM xR M (YC xR M (Pt xR M (Rm M (Sp 81 M ?_ ?_))))) <;> clear H
    ·intro Cq a H
     try have p81:=dT Cq
     refine kH H (YM Cq M (YC Cq M (Pt Cq M (Rm M (Sp 85 M ?_ ?_))))) <;> clear H
     ·intro Kl a H
      try have p85:=dT Kl
      refine kH H (YM Kl M (YC Kl M (Pt Kl M (Rm M (Sp 89 M ?_ ?_))))) <;> clear H
      ·intro AL a H
       try have p89:=dT AL
       refine aU iB (cs:=E2.cells) H (wg H M M AL) M M (H.hp.cB 2 M M) M ?_;clear H;intro a H;refine aU iB (cs:=K.cells) H (wg H M M AL) M M (H.hp.cB 0 M M) M ?_;clear H;intro a H;refine s_call aeM H (wg H M M AL) M (aev _ _ H.ro E2 K _ _ hE2 hK O) M ?_;clear H;rintro v92 G92 a w ⟨b92,rfl,atw⟩ agK H;obtain rfl:=atw.2 M;refine kH H (Pt AL M (Rm M (Sp 94 M ?_ ?_))) <;> clear H
       ·intro Hq a H
        try have p94:=dT Hq
        refine aU iB (cs:=F2.cells) H (wg H M M Hq) M M (H.hp.cB 1 M M) M ?_;clear H;intro a H;refine aU iB (cs:=K.cells) H (wg H M M Hq) M M (H.hp.cB 0 M M) M ?_;clear H;intro a H;refine s_call aeM H (wg H M M Hq) M (aev _ _ H.ro F2 K _ _ (hF2.mono agK) (hK.mono agK) O) M ?_;clear H;rintro v97 G97 a w ⟨b97,rfl,atx⟩ X4 H;obtain rfl:=atx.2 M;exact kH H (Pt Hq M (aj bU M (LR results9 M fun H=>H.rt (by first|rfl|(simp_all;done)))))
       intro Hq a H
       exact absurd Hq Z
      intro AL a H
      exact absurd AL Z
     intro Kl a H
     exact absurd Kl Z
    intro Cq a H
    exact absurd Cq Z
   intro xR a H
   exact absurd xR Z
  intro Co a H
  exact absurd Co Z
 intro qG a H
 exact absurd qG Z
section
open Go.ChangeShapes Go.RowKit Go.Deep
abbrev qI (W:World):GH:=fun k=>W.heap[k]?
theorem aso {W:World} {b o:Nat} {v:ah} (h:W.cell? ⟨b,o,none⟩=some v):aH (qI W) b o=some v:=by
 unfold World.cell? at h
 unfold aH qI
 split at h
 ·rename_i c e f hh
  simp only at hh
  rw [hh];simpa using h
 cases h
theorem ahO {α:Type} {p:Nat->α->Prop}:∀ n:Nat,(∀ i,i < n->∃ x,p i x)->∃ l:List α,l.length=n∧∀ i x,l[i]?=some x->p i x
 | 0,_=>⟨[],M,fun i x h=>by simp at h⟩
 | n+1,h=>by
  obtain ⟨l,hl,hp⟩:=ahO n (fun i hi=>h i O);obtain ⟨x,hx⟩:=h n O;refine ⟨l++[x],by simp [hl],fun i y hy=>?_⟩
  by_cases hi:i < l.length
  ·exact hp i y (by rwa [zG hi] at hy)
  rw [uO O] at hy
  have hin:i - l.length=0:=by
   have:=(ko.1 hy).1
   simp at this;omega
  rw [hin] at hy
  simp only [BU,pO] at hy
  subst hy;rw [show i=n by omega];exact hx
theorem ame {H:Type} (d:DataW H):1<=Rows.uptoBulk d:=by
 cases d <;> (try simp only [Rows.uptoBulk]) <;> (try omega)
 rename_i x;cases x <;> simp only [Rows.uptoBulk] <;> omega
theorem adu {H ρ:Type} {dat:ρ->List Dat}:∀ (rs:List ρ) (D:Nat->DataW H),(∀ i r,rs[i]?=some r->dD (dat r)+1<=8*Rows.uptoBulk (D i))->fu (rs.map dat)<=8*Rows.uptoBulkAll ((List.range rs.length).map D)
 | [],D,_=>lg _
 | r :: rs,D,h=>by
  have h0:=h 0 r M;have hp:=ame (D 0);have ih:=adu rs (fun i=>D (i+1)) (fun i r hr=>h (i+1) r (by simpa using hr));rw [lW,List.range_succ_eq_map]
  simp only [fD,List.map_map,fu,Rows.uptoBulkAll]
  have e:(List.map (D ∘ Nat.succ) (List.range rs.length))=(List.map (fun i=>D (i+1)) (List.range rs.length)):=rfl;rw [e];omega
theorem adt {H:Type} {D:Nat->DataW H}:∀ {n i:Nat},i < n->Rows.uptoBulk (D i)<=Rows.uptoBulkAll ((List.range n).map D)
 | 0,i,h=>absurd h O
 | n+1,i,h=>by
  have key:∀ (l m:List (DataW H)),Rows.uptoBulkAll (l++m)=Rows.uptoBulkAll l+Rows.uptoBulkAll m:=by
   intro l m
   induction l with
   | nil=>simp [Rows.uptoBulkAll]
   | cons x l ih=>simp only [qm,Rows.uptoBulkAll,ih];omega
  rw [List.range_succ,kR,key]
  by_cases hi:i < n
  ·have:=adt (D:=D) hi;omega
  have:i=n:=by omega
  subst this
  simp only [fD,sP,Rows.uptoBulkAll];omega
section
variable {H:Type} {enc:TypeId × ah->H} {P:Program} {W:World} {base:Nat} {spare:Nat->Bool} {held:Bool}
theorem wB {ρ:Type} {dat:ρ->List Dat} {t e:TypeId} {sz:Nat} (hsz:0 < sz) {fuel:Nat} {cs:List ah} {x:DataW H × List MemPlace} (ht:P.underlying t=some (.slice e)) (hc:P.cellsOf e=sz) (h:DataW.trod enc P W base spare held fuel t cs=some x)
  (row:∀ n cs' D Pl,DataW.trod enc P W base spare held n e cs'=some (D,Pl)->Rows.uptoBulk D < Rows.uptoBulk x.1->∃ r:ρ,bB (qI W) (dat r) cs'∧dD (dat r)+1<=8*Rows.uptoBulk D) :
  ∃ (rs:List ρ) (v:ah),cs=[v]∧ak (qI W) (.sl sz (rs.map dat)) v∧fu (rs.map dat)+8<=8*Rows.uptoBulk x.1:=by
 rcases open_slice ht h with ⟨rfl,rfl⟩|⟨a,len,cap,m,n,D,Pl,rfl,hb,hl,hm,hmm,rfl,hx⟩
 ·exact ⟨[],_,M,ak.qK M Z,by simp [fu,Rows.uptoBulk]⟩
 obtain ⟨rs,hrl,hrs⟩:=ahO (p:=fun i (r:ρ)=>∃ cs',W.cells? base (a.add (i*sz)) sz=some cs'∧bB (qI W) (dat r) cs'∧dD (dat r)+1<=8*Rows.uptoBulk (D i)) len (fun i hi=>by
  have him:i < m:=by rw [hmm];split <;> omega
  obtain ⟨cs',h1,h2⟩:=hx i him;rw [hc] at h1;have hb1:=adt (D:=D) hi;obtain ⟨r,hr1,hr2⟩:=row n cs' (D i) (Pl i) h2 (by simp only [Rows.uptoBulk];omega)
  exact ⟨r,cs',h1,hr1,hr2⟩)
 refine ⟨rs,_,M,?_,?_⟩
 ·simp only [ak,bS]
  refine ⟨some a,cap,by rw [hrl],O,hm,fun hne=>?_⟩;obtain ⟨b,off,spot⟩:=a
  have hlen:0 < rs.length:=by cases rs with|nil=>simp at hne|cons _ _=>simp
  obtain ⟨cs0,h1,-,-⟩:=hrs 0 rs[0] (eB hlen);obtain ⟨-,hl0,hg0⟩:=World.cells?_some h1
  have hspot:spot=none:=by
   have h3:=hg0 0 hsz;rw [eB O] at h3
   simpa [Addr.add] using World.cell?_spot h3
  subst hspot;refine ⟨b,off,M,oz.mk fun k r hk=>?_⟩;rw [tZ] at hk;obtain ⟨y,hy,rfl⟩:=qD.1 hk;obtain ⟨cs',h2,h3,-⟩:=hrs k y hy;obtain ⟨-,hl1,hg1⟩:=World.cells?_some h2;refine ⟨cs',hl1,fun j u hj=>aso ?_,h3⟩
  have hj2:j < sz:=by rw [<- hl1];exact (ko.1 hj).1
  have:=hg1 j hj2;rw [add_add,Go.WideShapes.add_plain] at this;rw [show off+k*sz+j=off+(k*sz+j) by omega,this];exact hj
 have:=adu rs D (fun i r hr=>(hrs i r hr).choose_spec.2.2);rw [hrl] at this
 simp only [Rows.uptoBulk];omega
end
structure tY (P:Program) (t:TypeId) (sz:Nat) (fs:List (TypeId × Nat × Nat)):Prop where
 und:P.underlying t=some (.struct (P.fieldsOf t))
 cells:P.cellsOf t=sz
 EY:(P.fieldsOf t).toList.map (fun f=>(f.type,f.offset,P.cellsOf f.type))=fs
theorem vo {P:Program} {H:Type} {enc:TypeId × ah->H} {W:World} {base:Nat} {spare:Nat->Bool} {held:Bool} {t:TypeId} {sz fuel:Nat} {fs:List (TypeId × Nat × Nat)} {cs:List ah} {x:DataW H × List MemPlace} (hs:tY P t sz fs) (h:DataW.trod enc P W base spare held fuel t cs=some x) :
  ∃ (xs:List (DataW H × List MemPlace)) (n:Nat),x.1=.agg (xs.map (·.1))∧cs.length=sz∧xs.length=fs.length∧∀ (i:Nat) (ti:TypeId) (off k:Nat),fs[i]?=some (ti,off,k)->DataW.trod enc P W base spare held n ti ((cs.drop off).take k)=xs[i]?:=by
 obtain ⟨xs,n,-,rfl,hl,hxl,hf⟩:=DataW.trod_struct hs.und h;refine ⟨xs,n,M,by rw [hl,hs.cells],by rw [hxl,<- hs.EY];simp,fun i ti off k hi=>?_⟩;rw [<- hs.EY,tZ] at hi;obtain ⟨f,hf1,hf2⟩:=qD.1 hi
 simp only [iQ] at hf2
 obtain ⟨rfl,rfl,rfl⟩:=hf2;exact hf i f (by simpa using hf1)
section
variable {H:Type} {enc:TypeId × ah->H} {W:World} {base:Nat} {spare:Nat->Bool} {held:Bool}
theorem azX:tY prog 187 2 [(3,0,1),(3,1,1)]:=⟨V,V,V⟩
theorem aiQ {n:Nat} {cs:List ah} {D:DataW H} {Pl:List MemPlace} (h:DataW.trod enc prog W base spare held n 187 cs=some (D,Pl)):∃ r:aO,bB (qI W) r.dat cs∧dD r.dat+1<=8*Rows.uptoBulk D:=by
 obtain ⟨xs,m,hx,hl,hxl,hf⟩:=vo azX h
 match cs,hl,xs,hxl with
 | [c0,c1],_,[y0,y1],_ =>
  have h0:=hf 0 _ _ _ M;have h1:=hf 1 _ _ _ M;obtain ⟨k0,e0,d0,-⟩:=DataW.trod_int underlying3 h0;obtain ⟨k1,e1,d1,-⟩:=DataW.trod_int underlying3 h1
  simp at e0 e1
  subst e0 e1
  simp only at hx
  refine ⟨⟨k0,k1⟩,?_,?_⟩
  ·simp [bB,aO.dat,ak,Value.oneCell']
  rw [hx];simp [d0,d1,aO.dat,dD,nA,Rows.uptoBulk,Rows.uptoBulkAll]
theorem azQ:tY prog 159 2 [(3,0,1),(3,1,1)]:=⟨V,V,V⟩
theorem axR {n:Nat} {cs:List ah} {D:DataW H} {Pl:List MemPlace} (h:DataW.trod enc prog W base spare held n 159 cs=some (D,Pl)):∃ r:gG,bB (qI W) r.dat cs∧dD r.dat+1<=8*Rows.uptoBulk D:=by
 obtain ⟨xs,m,hx,hl,hxl,hf⟩:=vo azQ h
 match cs,hl,xs,hxl with
 | [c0,c1],_,[y0,y1],_ =>
  have h0:=hf 0 _ _ _ M;have h1:=hf 1 _ _ _ M;obtain ⟨k0,e0,d0,-⟩:=DataW.trod_int underlying3 h0;obtain ⟨k1,e1,d1,-⟩:=DataW.trod_int underlying3 h1
  simp at e0 e1
  subst e0 e1
  simp only at hx
  refine ⟨⟨k0,k1⟩,?_,?_⟩
  ·simp [bB,gG.dat,ak,Value.oneCell']
  rw [hx];simp [d0,d1,gG.dat,dD,nA,Rows.uptoBulk,Rows.uptoBulkAll]
theorem azT:tY prog 161 4 [(3,0,1),(3,1,1),(3,2,1),(4,3,1)]:=⟨V,V,V⟩
theorem axU {n:Nat} {cs:List ah} {D:DataW H} {Pl:List MemPlace} (h:DataW.trod enc prog W base spare held n 161 cs=some (D,Pl)):∃ r:bZ,bB (qI W) r.dat cs∧dD r.dat+1<=8*Rows.uptoBulk D:=by
 obtain ⟨xs,m,hx,hl,hxl,hf⟩:=vo azT h
 match cs,hl,xs,hxl with
 | [c0,c1,c2,c3],_,[y0,y1,y2,y3],_ =>
  have h0:=hf 0 _ _ _ M;have h1:=hf 1 _ _ _ M;have h2:=hf 2 _ _ _ M;have h3:=hf 3 _ _ _ M;obtain ⟨k0,e0,d0,-⟩:=DataW.trod_int underlying3 h0;obtain ⟨k1,e1,d1,-⟩:=DataW.trod_int underlying3 h1;obtain ⟨k2,e2,d2,-⟩:=DataW.trod_int underlying3 h2;obtain ⟨k3,e3,d3⟩:=DataW.trod_bool underlying4 h3
  simp at e0 e1 e2 e3
  subst e0 e1 e2 e3
  simp only at hx
  refine ⟨⟨k0,k1,k2,k3⟩,?_,?_⟩
  ·simp [bB,bZ.dat,ak,Value.oneCell']
  rw [hx];simp [d0,d1,d2,d3,bZ.dat,dD,nA,Rows.uptoBulk,Rows.uptoBulkAll]
theorem azW:tY prog 27 4 [(3,0,1),(3,1,1),(24,2,1),(25,3,1)]:=⟨V,V,V⟩
theorem azR:tY prog 29 5 [(23,0,1),(27,1,4)]:=⟨V,V,V⟩
theorem adG:prog.cellsOf 187=2:=by kernel_rfl
theorem amy:prog.cellsOf 159=2:=by kernel_rfl
theorem amB:prog.cellsOf 161=4:=by kernel_rfl
theorem Ta {n:Nat} {cs:List ah} {x:DataW H × List MemPlace} (h:DataW.trod enc prog W base spare held n 29 cs=some x):∃ (r:dN) (p d l:ah),cs=[p,vi r.marks.ins,vi r.marks.move,d,l]∧jr (qI W) r p d l∧mX r+15<=8*Rows.uptoBulk x.1:=by
 obtain ⟨xs,m,hx,hl,hxl,hf⟩:=vo azR h
 match cs,hl,xs,hxl with
 | [c0,c1,c2,c3,c4],_,[y0,y1],_ =>
  have h0:=hf 0 _ _ _ M;have h1:=hf 1 _ _ _ M;obtain ⟨ps,pv,e0,rp,sp⟩:=wB (dat:=aO.dat) (sz:=2) O underlying23 adG h0 (fun n cs' D Pl hh _=>aiQ hh);obtain ⟨zs,m2,hz,hzl,hzx,Ow⟩:=vo azW h1
  match zs,hzx with
  | [z0,z1,z2,z3],_ =>
   have g0:=Ow 0 _ _ _ M;have g1:=Ow 1 _ _ _ M;have g2:=Ow 2 _ _ _ M;have g3:=Ow 3 _ _ _ M;obtain ⟨k0,e1,d0,-⟩:=DataW.trod_int underlying3 g0;obtain ⟨k1,e2,d1,-⟩:=DataW.trod_int underlying3 g1;obtain ⟨ds,dv,e3,rd,sd⟩:=wB (dat:=gG.dat) (sz:=2) O underlying24 amy g2 (fun n cs' D Pl hh _=>axR hh);obtain ⟨ls,lv,e4,rl,sl⟩:=wB (dat:=bZ.dat) (sz:=4) O underlying25 amB g3 (fun n cs' D Pl hh _=>axU hh)
   simp at e0 e1 e2 e3 e4
   subst e0 e1 e2 e3 e4;refine ⟨⟨ps,⟨k0,k1,ds,ls⟩⟩,_,_,_,M,⟨rp,rd,rl⟩,?_⟩;have hzh:=FU ⟨ps,⟨k0,k1,ds,ls⟩⟩
   simp only at hzh
   rw [hx]
   simp only [fD,sP,Rows.uptoBulk,Rows.uptoBulkAll,hz,d0,d1]
   omega
theorem azS:tY prog 68 11 [(3,0,1),(3,1,1),(3,2,1),(9,3,1),(29,4,5),(22,9,1),(66,10,1)]:=⟨V,V,V⟩
theorem azY:tY prog 74 6 [(29,0,5),(72,5,1)]:=⟨V,V,V⟩
theorem azO:tY prog 76 7 [(3,0,1),(29,1,5),(22,6,1)]:=⟨V,V,V⟩
theorem VW:prog.cellsOf 68=11:=by kernel_rfl
theorem amE:prog.cellsOf 74=6:=by kernel_rfl
theorem amw:prog.cellsOf 76=7:=by kernel_rfl
theorem VO {p:Prop} (h:p:=by
 simp only [fD,sP,Rows.uptoBulk,Rows.uptoBulkAll]):p:=h
theorem aiP:∀ (N:Nat) (n:Nat) (cs:List ah) (D:DataW H) (Pl:List MemPlace),DataW.trod enc prog W base spare held n 68 cs=some (D,Pl)->Rows.uptoBulk D < N->∃ r:au,bB (qI W) r.dat cs∧dD r.dat+1<=8*Rows.uptoBulk D
 | 0,_,_,_,_,_,hN=>absurd hN O
 | N+1,n,cs,D,Pl,h,hN=>by
  have ih:=aiP N;obtain ⟨xs,m,hx,hl,hxl,hf⟩:=vo azS h
  match cs,hl,xs,hxl with
  | [c0,c1,c2,c3,c4,c5,c6,c7,c8,c9,c10],_,[y0,y1,y2,y3,y4,y5,y6],_ =>
   have h0:=hf 0 _ _ _ M;have h1:=hf 1 _ _ _ M;have h2:=hf 2 _ _ _ M;have h3:=hf 3 _ _ _ M;have h4:=hf 4 _ _ _ M;have h5:=hf 5 _ _ _ M;have h6:=hf 6 _ _ _ M
   simp only at hx
   have hD:Rows.uptoBulk D=Rows.uptoBulk y0.1+(Rows.uptoBulk y1.1+(Rows.uptoBulk y2.1+(Rows.uptoBulk y3.1+(Rows.uptoBulk y4.1+(Rows.uptoBulk y5.1+(Rows.uptoBulk y6.1+0))))))+1:=by
    rw [hx];exact VO
   obtain ⟨k0,e0,d0,-⟩:=DataW.trod_int underlying3 h0;obtain ⟨k1,e1,d1,-⟩:=DataW.trod_int underlying3 h1;obtain ⟨k2,e2,d2,-⟩:=DataW.trod_int underlying3 h2;obtain ⟨s,e3,d3,-⟩:=DataW.trod_string underlying9 h3;obtain ⟨hd,p,d,l,e4,rh,sh⟩:=Ta h4;obtain ⟨fl,fv,e5,rf,sf⟩:=wB (dat:=au.dat) (sz:=11) O underlying22 VW h5 (fun n cs' D' eD hh hlt=>ih n cs' D' eD hh O)
   obtain ⟨rs,rv,e6,rr,sr⟩:=wB (dat:=aV.dat) (sz:=6) O underlying66 amE h6 (fun n cs' D' eD hh hlt=>by
    obtain ⟨xs,m,hx,hl,hxl,hf⟩:=vo azY hh
    match cs',hl,xs,hxl with
    | [a0,a1,a2,a3,a4,a5],_,[w0,w1],_ =>
     have g0:=hf 0 _ _ _ M;have g1:=hf 1 _ _ _ M
     simp only at hx
     have hD':Rows.uptoBulk D'=Rows.uptoBulk w0.1+(Rows.uptoBulk w1.1+0)+1:=by
      rw [hx];exact VO
     obtain ⟨hd2,p2,d2',l2,q0,rh2,sh2⟩:=Ta g0
     obtain ⟨cl,cv,q1,rc,sc⟩:=wB (dat:=aX.dat) (sz:=7) O underlying72 amw g1 (fun n cs'' D'' aBB H6 hlt2=>by
      obtain ⟨xs,m,hx2,hl2,avu,hf2⟩:=vo azO H6
      match cs'',hl2,xs,avu with
      | [b0,b1,b2,b3,b4,b5,b6],_,[v0,v1,v2],_ =>
       have u0:=hf2 0 _ _ _ M;have u1:=hf2 1 _ _ _ M;have u2:=hf2 2 _ _ _ M
       simp only at hx2
       have aBI:Rows.uptoBulk D''=Rows.uptoBulk v0.1+(Rows.uptoBulk v1.1+(Rows.uptoBulk v2.1+0))+1:=by
        rw [hx2];exact VO
       obtain ⟨j0,t0,z0,-⟩:=DataW.trod_int underlying3 u0;obtain ⟨hd3,p3,d3',l3,t1,rh3,sh3⟩:=Ta u1;obtain ⟨WW,fv3,t2,rf3,sf3⟩:=wB (dat:=au.dat) (sz:=11) O underlying22 VW u2 (fun n cs3 D3 Pl3 hh3 hlt3=>ih n cs3 D3 Pl3 hh3 O)
       simp at t0 t1 t2
       obtain ⟨rfl,rfl,rfl,rfl,rfl⟩:=t1;subst t0 t2;have hz:=Ev (aX.mk j0 hd3 WW)
       simp only [aX.head,aX.flow] at hz
       have bz:Rows.uptoBulk v0.1=1:=by rw [z0];rfl
       exact ⟨aX.mk j0 hd3 WW,bB.Sq (x:=aX.mk j0 hd3 WW) rh3 rf3,by simp only [dH] at hz;omega⟩)
     simp at q0 q1
     obtain ⟨rfl,rfl,rfl,rfl,rfl⟩:=q0;subst q1;have hz:=Ew (aV.mk hd2 cl)
     simp only [aV.head,aV.cells] at hz
     exact ⟨aV.mk hd2 cl,bB.Sr (x:=aV.mk hd2 cl) rh2 rc,by simp only [ji] at hz;omega⟩)
   simp at e0 e1 e2 e3 e4 e5 e6
   obtain ⟨rfl,rfl,rfl,rfl,rfl⟩:=e4;subst e0 e1 e2 e3 e5 e6;have hz:=Ag (au.mk k0 k1 k2 s hd fl rs)
   simp only [au.text,au.head,au.flow,au.rows] at hz
   have b0:Rows.uptoBulk y0.1=1:=by rw [d0];rfl
   have b1:Rows.uptoBulk y1.1=1:=by rw [d1];rfl
   have b2:Rows.uptoBulk y2.1=1:=by rw [d2];rfl
   have b3:Rows.uptoBulk y3.1=s.size+1:=by rw [d3];show s.data.toList.length+1=s.data.size+1;rw [vM]
   exact ⟨au.mk k0 k1 k2 s hd fl rs,bB.mkItem (x:=au.mk k0 k1 k2 s hd fl rs) rh rf rr,by simp only [dH,iK] at hz;omega⟩
theorem axT {n:Nat} {cs:List ah} {x:DataW H × List MemPlace} (h:DataW.trod enc prog W base spare held n 22 cs=some x):∃ (l:List au) (v:ah),cs=[v]∧ak (qI W) (.sl 11 (l.map au.dat)) v∧dH l+8<=8*Rows.uptoBulk x.1 :=
 wB (dat:=au.dat) (sz:=11) O underlying22 VW h (fun n cs' D' eD hh _=>aiP _ n cs' D' eD hh (Nat.lt_succ_self _))
end
end
section
open Go.ChangeShapes Go.RowKit Go.Deep
theorem Ep {ρ:Type} {dat:ρ->List Dat}:∀ {l:List ρ} {x:ρ},x∈l->dD (dat x)+1<=fu (l.map dat)
 | y :: l,x,h=>by
  rw [fD,fu]
  rcases gK.1 h with rfl|h
  ·omega
  have:=Ep (dat:=dat) h;omega
section
variable {H:Type} {enc:TypeId × ah->H} {W:World} {base:Nat} {spare:Nat->Bool} {held:Bool}
theorem aAb:tY prog 192 6 [(3,0,1),(3,1,1),(9,2,1),(3,3,1),(3,4,1),(23,5,1)]:=⟨V,V,V⟩
theorem amG:prog.cellsOf 192=6:=by kernel_rfl
theorem ayb {n:Nat} {cs:List ah} {D:DataW H} {Pl:List MemPlace} (h:DataW.trod enc prog W base spare held n 192 cs=some (D,Pl)):∃ r:bY,bB (qI W) r.dat cs∧dD r.dat+1<=8*Rows.uptoBulk D:=by
 obtain ⟨xs,m,hx,hl,hxl,hf⟩:=vo aAb h
 match cs,hl,xs,hxl with
 | [c0,c1,c2,c3,c4,c5],_,[y0,y1,y2,y3,y4,y5],_ =>
  have h0:=hf 0 _ _ _ M;have h1:=hf 1 _ _ _ M;have h2:=hf 2 _ _ _ M;have h3:=hf 3 _ _ _ M;have h4:=hf 4 _ _ _ M;have h5:=hf 5 _ _ _ M
  simp only at hx
  have hD:Rows.uptoBulk D=Rows.uptoBulk y0.1+(Rows.uptoBulk y1.1+(Rows.uptoBulk y2.1+(Rows.uptoBulk y3.1+(Rows.uptoBulk y4.1+(Rows.uptoBulk y5.1+0)))))+1:=by rw [hx];simp only [fD,sP,Rows.uptoBulk,Rows.uptoBulkAll]
  obtain ⟨k0,e0,d0,-⟩:=DataW.trod_int underlying3 h0;obtain ⟨k1,e1,d1,-⟩:=DataW.trod_int underlying3 h1;obtain ⟨k2,e2,d2,-⟩:=DataW.trod_string underlying9 h2;obtain ⟨k3,e3,d3,-⟩:=DataW.trod_int underlying3 h3;obtain ⟨k4,e4,d4,-⟩:=DataW.trod_int underlying3 h4;obtain ⟨k5,q5,e5,r5,d5⟩:=wB (dat:=aO.dat) (sz:=2) O underlying23 adG h5 (fun n cs' D Pl hh _=>aiQ hh)
  simp at e0 e1 e2 e3 e4 e5
  subst e0 e1 e2 e3 e4 e5
  have b0:Rows.uptoBulk y0.1=1:=by rw [d0];rfl
  have b1:Rows.uptoBulk y1.1=1:=by rw [d1];rfl
  have b2:Rows.uptoBulk y2.1=k2.size+1:=by rw [d2];show k2.data.toList.length+1=k2.data.size+1;rw [vM]
  have b3:Rows.uptoBulk y3.1=1:=by rw [d3];rfl
  have b4:Rows.uptoBulk y4.1=1:=by rw [d4];rfl
  refine ⟨⟨k0,k1,k2,k3,k4,k5⟩,?_,?_⟩
  ·exact ⟨_,_,M,(by simp [ak,Value.oneCell']),⟨_,_,M,(by simp [ak,Value.oneCell']),⟨_,_,M,(by simp [ak,Value.oneCell']),⟨_,_,M,(by simp [ak,Value.oneCell']),⟨_,_,M,(by simp [ak,Value.oneCell']),⟨_,_,M,r5,M⟩⟩⟩⟩⟩⟩
  simp only [bY.dat,dD,nA];omega
theorem azV:tY prog 96 4 [(3,0,1),(3,1,1),(9,2,1),(3,3,1)]:=⟨V,V,V⟩
theorem amD:prog.cellsOf 96=4:=by kernel_rfl
theorem axV {n:Nat} {cs:List ah} {D:DataW H} {Pl:List MemPlace} (h:DataW.trod enc prog W base spare held n 96 cs=some (D,Pl)):∃ r:jW,bB (qI W) r.dat cs∧dD r.dat+1<=8*Rows.uptoBulk D:=by
 obtain ⟨xs,m,hx,hl,hxl,hf⟩:=vo azV h
 match cs,hl,xs,hxl with
 | [c0,c1,c2,c3],_,[y0,y1,y2,y3],_ =>
  have h0:=hf 0 _ _ _ M;have h1:=hf 1 _ _ _ M;have h2:=hf 2 _ _ _ M;have h3:=hf 3 _ _ _ M
  simp only at hx
  have hD:Rows.uptoBulk D=Rows.uptoBulk y0.1+(Rows.uptoBulk y1.1+(Rows.uptoBulk y2.1+(Rows.uptoBulk y3.1+0)))+1:=by rw [hx];simp only [fD,sP,Rows.uptoBulk,Rows.uptoBulkAll]
  obtain ⟨k0,e0,d0,-⟩:=DataW.trod_int underlying3 h0;obtain ⟨k1,e1,d1,-⟩:=DataW.trod_int underlying3 h1;obtain ⟨k2,e2,d2,-⟩:=DataW.trod_string underlying9 h2;obtain ⟨k3,e3,d3,-⟩:=DataW.trod_int underlying3 h3
  simp at e0 e1 e2 e3
  subst e0 e1 e2 e3
  have b0:Rows.uptoBulk y0.1=1:=by rw [d0];rfl
  have b1:Rows.uptoBulk y1.1=1:=by rw [d1];rfl
  have b2:Rows.uptoBulk y2.1=k2.size+1:=by rw [d2];show k2.data.toList.length+1=k2.data.size+1;rw [vM]
  have b3:Rows.uptoBulk y3.1=1:=by rw [d3];rfl
  refine ⟨⟨k0,k1,k2,k3⟩,?_,?_⟩
  ·exact ⟨_,_,M,(by simp [ak,Value.oneCell']),⟨_,_,M,(by simp [ak,Value.oneCell']),⟨_,_,M,(by simp [ak,Value.oneCell']),⟨_,_,M,(by simp [ak,Value.oneCell']),M⟩⟩⟩⟩
  simp only [jW.dat,dD,nA];omega
theorem azU:tY prog 93 2 [(3,0,1),(91,1,1)]:=⟨V,V,V⟩
theorem amC:prog.cellsOf 93=2:=by kernel_rfl
theorem axW {n:Nat} {cs:List ah} {D:DataW H} {Pl:List MemPlace} (h:DataW.trod enc prog W base spare held n 93 cs=some (D,Pl)):∃ r:fC,bB (qI W) r.dat cs∧dD r.dat+1<=8*Rows.uptoBulk D:=by
 obtain ⟨xs,m,hx,hl,hxl,hf⟩:=vo azU h
 match cs,hl,xs,hxl with
 | [c0,c1],_,[y0,y1],_ =>
  have h0:=hf 0 _ _ _ M;have h1:=hf 1 _ _ _ M
  simp only at hx
  have hD:Rows.uptoBulk D=Rows.uptoBulk y0.1+(Rows.uptoBulk y1.1+0)+1:=by rw [hx];simp only [fD,sP,Rows.uptoBulk,Rows.uptoBulkAll]
  obtain ⟨k0,e0,d0,-⟩:=DataW.trod_int underlying3 h0;obtain ⟨k1,q1,e1,r1,d1⟩:=wB (dat:=jW.dat) (sz:=4) O underlying91 amD h1 (fun n cs' D Pl hh _=>axV hh)
  simp at e0 e1
  subst e0 e1
  have b0:Rows.uptoBulk y0.1=1:=by rw [d0];rfl
  refine ⟨⟨k0,k1⟩,?_,?_⟩
  ·exact ⟨_,_,M,(by simp [ak,Value.oneCell']),⟨_,_,M,r1,M⟩⟩
  simp only [fC.dat,dD,nA];omega
theorem azP:tY prog 107 6 [(3,0,1),(3,1,1),(9,2,1),(3,3,1),(9,4,1),(4,5,1)]:=⟨V,V,V⟩
theorem amx:prog.cellsOf 107=6:=by kernel_rfl
theorem axQ {n:Nat} {cs:List ah} {D:DataW H} {Pl:List MemPlace} (h:DataW.trod enc prog W base spare held n 107 cs=some (D,Pl)):∃ r:gF,bB (qI W) r.dat cs∧dD r.dat+1<=8*Rows.uptoBulk D:=by
 obtain ⟨xs,m,hx,hl,hxl,hf⟩:=vo azP h
 match cs,hl,xs,hxl with
 | [c0,c1,c2,c3,c4,c5],_,[y0,y1,y2,y3,y4,y5],_ =>
  have h0:=hf 0 _ _ _ M;have h1:=hf 1 _ _ _ M;have h2:=hf 2 _ _ _ M;have h3:=hf 3 _ _ _ M;have h4:=hf 4 _ _ _ M;have h5:=hf 5 _ _ _ M
  simp only at hx
  have hD:Rows.uptoBulk D=Rows.uptoBulk y0.1+(Rows.uptoBulk y1.1+(Rows.uptoBulk y2.1+(Rows.uptoBulk y3.1+(Rows.uptoBulk y4.1+(Rows.uptoBulk y5.1+0)))))+1:=by rw [hx];simp only [fD,sP,Rows.uptoBulk,Rows.uptoBulkAll]
  obtain ⟨k0,e0,d0,-⟩:=DataW.trod_int underlying3 h0;obtain ⟨k1,e1,d1,-⟩:=DataW.trod_int underlying3 h1;obtain ⟨k2,e2,d2,-⟩:=DataW.trod_string underlying9 h2;obtain ⟨k3,e3,d3,-⟩:=DataW.trod_int underlying3 h3;obtain ⟨k4,e4,d4,-⟩:=DataW.trod_string underlying9 h4;obtain ⟨k5,e5,d5⟩:=DataW.trod_bool underlying4 h5
  simp at e0 e1 e2 e3 e4 e5
  subst e0 e1 e2 e3 e4 e5
  have b0:Rows.uptoBulk y0.1=1:=by rw [d0];rfl
  have b1:Rows.uptoBulk y1.1=1:=by rw [d1];rfl
  have b2:Rows.uptoBulk y2.1=k2.size+1:=by rw [d2];show k2.data.toList.length+1=k2.data.size+1;rw [vM]
  have b3:Rows.uptoBulk y3.1=1:=by rw [d3];rfl
  have b4:Rows.uptoBulk y4.1=k4.size+1:=by rw [d4];show k4.data.toList.length+1=k4.data.size+1;rw [vM]
  have b5:Rows.uptoBulk y5.1=1:=by rw [d5];rfl
  refine ⟨⟨k0,k1,k2,k3,k4,k5⟩,?_,?_⟩
  ·exact ⟨_,_,M,(by simp [ak,Value.oneCell']),⟨_,_,M,(by simp [ak,Value.oneCell']),⟨_,_,M,(by simp [ak,Value.oneCell']),⟨_,_,M,(by simp [ak,Value.oneCell']),⟨_,_,M,(by simp [ak,Value.oneCell']),⟨_,_,M,(by simp [ak,Value.oneCell']),M⟩⟩⟩⟩⟩⟩
  simp only [gF.dat,dD,nA];omega
theorem aAc:tY prog 110 2 [(9,0,1),(9,1,1)]:=⟨V,V,V⟩
theorem amI:prog.cellsOf 110=2:=by kernel_rfl
theorem ayc {n:Nat} {cs:List ah} {D:DataW H} {Pl:List MemPlace} (h:DataW.trod enc prog W base spare held n 110 cs=some (D,Pl)):∃ r:jk,bB (qI W) r.dat cs∧dD r.dat+1<=8*Rows.uptoBulk D:=by
 obtain ⟨xs,m,hx,hl,hxl,hf⟩:=vo aAc h
 match cs,hl,xs,hxl with
 | [c0,c1],_,[y0,y1],_ =>
  have h0:=hf 0 _ _ _ M;have h1:=hf 1 _ _ _ M
  simp only at hx
  have hD:Rows.uptoBulk D=Rows.uptoBulk y0.1+(Rows.uptoBulk y1.1+0)+1:=by rw [hx];simp only [fD,sP,Rows.uptoBulk,Rows.uptoBulkAll]
  obtain ⟨k0,e0,d0,-⟩:=DataW.trod_string underlying9 h0;obtain ⟨k1,e1,d1,-⟩:=DataW.trod_string underlying9 h1
  simp at e0 e1
  subst e0 e1
  have b0:Rows.uptoBulk y0.1=k0.size+1:=by rw [d0];show k0.data.toList.length+1=k0.data.size+1;rw [vM]
  have b1:Rows.uptoBulk y1.1=k1.size+1:=by rw [d1];show k1.data.toList.length+1=k1.data.size+1;rw [vM]
  refine ⟨⟨k0,k1⟩,?_,?_⟩
  ·exact ⟨_,_,M,(by simp [ak,Value.oneCell']),⟨_,_,M,(by simp [ak,Value.oneCell']),M⟩⟩
  simp only [jk.dat,dD,nA];omega
theorem azZ:tY prog 102 3 [(3,0,1),(9,1,1),(3,2,1)]:=⟨V,V,V⟩
theorem amF:prog.cellsOf 102=3:=by kernel_rfl
theorem axY {n:Nat} {cs:List ah} {D:DataW H} {Pl:List MemPlace} (h:DataW.trod enc prog W base spare held n 102 cs=some (D,Pl)):∃ r:bV,bB (qI W) r.dat cs∧dD r.dat+1<=8*Rows.uptoBulk D:=by
 obtain ⟨xs,m,hx,hl,hxl,hf⟩:=vo azZ h
 match cs,hl,xs,hxl with
 | [c0,c1,c2],_,[y0,y1,y2],_ =>
  have h0:=hf 0 _ _ _ M;have h1:=hf 1 _ _ _ M;have h2:=hf 2 _ _ _ M
  simp only at hx
  have hD:Rows.uptoBulk D=Rows.uptoBulk y0.1+(Rows.uptoBulk y1.1+(Rows.uptoBulk y2.1+0))+1:=by rw [hx];simp only [fD,sP,Rows.uptoBulk,Rows.uptoBulkAll]
  obtain ⟨k0,e0,d0,-⟩:=DataW.trod_int underlying3 h0;obtain ⟨k1,e1,d1,-⟩:=DataW.trod_string underlying9 h1;obtain ⟨k2,e2,d2,-⟩:=DataW.trod_int underlying3 h2
  simp at e0 e1 e2
  subst e0 e1 e2
  have b0:Rows.uptoBulk y0.1=1:=by rw [d0];rfl
  have b1:Rows.uptoBulk y1.1=k1.size+1:=by rw [d1];show k1.data.toList.length+1=k1.data.size+1;rw [vM]
  have b2:Rows.uptoBulk y2.1=1:=by rw [d2];rfl
  refine ⟨⟨k0,k1,k2⟩,?_,?_⟩
  ·exact ⟨_,_,M,(by simp [ak,Value.oneCell']),⟨_,_,M,(by simp [ak,Value.oneCell']),⟨_,_,M,(by simp [ak,Value.oneCell']),M⟩⟩⟩
  simp only [bV.dat,dD,nA];omega
theorem aAa:tY prog 36 4 [(31,0,1),(32,1,1),(33,2,1),(34,3,1)]:=⟨V,V,V⟩
structure UQ (s:BQ) (n:Nat):Prop where
 st:fu (s.styles.map bY.dat)<=n
 li:fu (s.lists.map fC.dat)<=n
 cm:fu (s.comments.map gF.dat)<=n
 va:fu (s.vars.map jk.dat)<=n
theorem UQ.zn {s:BQ} {n:Nat} (h:UQ s n) (hn:n<=4294967296):UR s∧s.styles.length<=4294967296:=by
 obtain ⟨h1,h2,h3,h4⟩:=h;have l1:=pK (s.styles.map bY.dat);have l2:=pK (s.lists.map fC.dat);have l3:=pK (s.comments.map gF.dat);have l4:=pK (s.vars.map jk.dat);rw [bS] at l1 l2 l3 l4;refine ⟨⟨fun x hx=>?_,O,fun x hx y hy=>?_,O,fun x hx=>?_,O,fun x hx=>?_,fun x hx=>?_,fun x hx=>?_⟩,O⟩
 ·have:=Ep (dat:=bY.dat) hx
  simp only [bY.dat,dD,nA] at this;omega
 ·have:=Ep (dat:=fC.dat) hx
  simp only [fC.dat,dD,nA] at this
  have h5:=Ep (dat:=jW.dat) hy
  simp only [jW.dat,dD,nA] at h5;omega
 ·have:=Ep (dat:=gF.dat) hx
  simp only [gF.dat,dD,nA] at this;omega
 ·have:=Ep (dat:=jk.dat) hx
  simp only [jk.dat,dD,nA] at this;omega
 ·have:=Ep (dat:=bY.dat) hx;have h5:=pK (x.props.map aO.dat);rw [bS] at h5
  simp only [bY.dat,dD,nA] at this;omega
 have:=Ep (dat:=fC.dat) hx;have h5:=pK (x.levels.map jW.dat);rw [bS] at h5
 simp only [fC.dat,dD,nA] at this;omega
theorem aya {n:Nat} {cs:List ah} {x:DataW H × List MemPlace} (h:DataW.trod enc prog W base spare held n 36 cs=some x):∃ (s:BQ) (a b c d:ah),cs=[a,b,c,d]∧Am (qI W) s a b c d∧UQ s (8*Rows.uptoBulk x.1):=by
 obtain ⟨xs,m,hx,hl,hxl,hf⟩:=vo aAa h
 match cs,hl,xs,hxl with
 | [c0,c1,c2,c3],_,[y0,y1,y2,y3],_ =>
  have h0:=hf 0 _ _ _ M;have h1:=hf 1 _ _ _ M;have h2:=hf 2 _ _ _ M;have h3:=hf 3 _ _ _ M;obtain ⟨k0,q0,e0,r0,d0⟩:=wB (dat:=bY.dat) (sz:=6) O underlying31 amG h0 (fun n cs' D Pl hh _=>ayb hh);obtain ⟨k1,q1,e1,r1,d1⟩:=wB (dat:=fC.dat) (sz:=2) O underlying32 amC h1 (fun n cs' D Pl hh _=>axW hh);obtain ⟨k2,q2,e2,r2,d2⟩:=wB (dat:=gF.dat) (sz:=6) O underlying33 amx h2 (fun n cs' D Pl hh _=>axQ hh);obtain ⟨k3,q3,e3,r3,d3⟩:=wB (dat:=jk.dat) (sz:=2) O underlying34 amI h3 (fun n cs' D Pl hh _=>ayc hh)
  simp at e0 e1 e2 e3
  subst e0 e1 e2 e3
  have hD:Rows.uptoBulk x.1=Rows.uptoBulk y0.1+(Rows.uptoBulk y1.1+(Rows.uptoBulk y2.1+(Rows.uptoBulk y3.1+0)))+1:=by rw [hx];simp only [fD,sP,Rows.uptoBulk,Rows.uptoBulkAll]
  exact ⟨⟨k0,k1,k2,k3⟩,_,_,_,_,M,⟨r0,r1,r2,r3⟩,⟨by show fu (k0.map _)<=_;omega,by show fu (k1.map _)<=_;omega,by show fu (k2.map _)<=_;omega,by show fu (k3.map _)<=_;omega⟩⟩
theorem ajx:tY prog 38 11 [(22,0,1),(29,1,5),(30,6,1),(36,7,4)]:=⟨V,V,V⟩
theorem En {G:GH} {sz:Nat} {rs:List (List Dat)} {v:ah} (h:ak G (.sl sz rs) v):∃ x,v=aW x:=by
 obtain ⟨a,n,c,rfl⟩:=h.form;exact ⟨(a,n,c),M⟩
theorem axS {n:Nat} {cs:List ah} {x:DataW H × List MemPlace} (h:DataW.trod enc prog W base spare held n 38 cs=some x) (hb:Rows.uptoBulk x.1<=1048576):∃ (D:kN) (d:gu),cs=D.cells∧oL (qI W) D d∧Aj d∧dH d.flow<=8388608∧mX d.fin<=8388608:=by
 obtain ⟨xs,m,hx,hl,hxl,hf⟩:=vo ajx h
 match cs,hl,xs,hxl with
 | [c0,c1,c2,c3,c4,c5,c6,c7,c8,c9,c10],_,[y0,y1,y2,y3],_ =>
  have h0:=hf 0 _ _ _ M;have h1:=hf 1 _ _ _ M;have h2:=hf 2 _ _ _ M;have h3:=hf 3 _ _ _ M;obtain ⟨l,q0,e0,r0,d0⟩:=axT h0;obtain ⟨hd,p,dd,ll,e1,r1,d1⟩:=Ta h1;obtain ⟨rv,q2,e2,r2,d2⟩:=wB (dat:=bV.dat) (sz:=3) O underlying30 amF h2 (fun n cs' D Pl hh _=>axY hh);obtain ⟨s,a,b,c,d,e3,r3,d3⟩:=aya h3
  simp at e0 e1 e2 e3
  obtain ⟨rfl,rfl,rfl,rfl,rfl⟩:=e1;obtain ⟨rfl,rfl,rfl,rfl⟩:=e3;subst e0 e2
  have hD:Rows.uptoBulk x.1=Rows.uptoBulk y0.1+(Rows.uptoBulk y1.1+(Rows.uptoBulk y2.1+(Rows.uptoBulk y3.1+0)))+1:=by rw [hx];simp only [fD,sP,Rows.uptoBulk,Rows.uptoBulkAll]
  obtain ⟨x0,rfl⟩:=En r0;obtain ⟨x1,rfl⟩:=En r1.props;obtain ⟨x2,rfl⟩:=En r1.bK;obtain ⟨x3,rfl⟩:=En r1.layers;obtain ⟨x4,rfl⟩:=En r2;obtain ⟨x5,rfl⟩:=En r3.st;obtain ⟨x6,rfl⟩:=En r3.li;obtain ⟨x7,rfl⟩:=En r3.cm;obtain ⟨x8,rfl⟩:=En r3.va;obtain ⟨hz1,hz2⟩:=d3.zn O;have l2:=pK (rv.map bV.dat);rw [bS] at l2;refine ⟨⟨x0,x1,x2,x3,x4,x5,x6,x7,x8,hd.marks.ins,hd.marks.move⟩,⟨l,hd,rv,s⟩,M,⟨r0,r1,M,M,r2,r3⟩,⟨by show dH l<=_;omega,by show mX hd<=_;omega,by show rv.length<=_;omega,fun x hx=>?_,hz2,hz1⟩,by show dH l<=_;omega,by show mX hd<=_;omega⟩;have:=Ep (dat:=bV.dat) hx
  simp only [bV.dat,dD,nA] at this
  omega
end
end
section
open Go.ChangeShapes Go.RowKit Go.Deep
section
variable {H:Type} {enc:TypeId × ah->H} {W:World} {base:Nat} {spare:Nat->Bool} {held:Bool}
theorem amA:prog.cellsOf 3=1:=by kernel_rfl
theorem Td {n:Nat} {cs:List ah} {x:DataW H × List MemPlace} (h:DataW.trod enc prog W base spare held n 41 cs=some x) :
  ∃ (l:List Int) (v:ah),cs=[v]∧ak (qI W) (.sl 1 (l.map fun k=>[li k])) v∧fu (l.map fun k=>[li k])+8<=8*Rows.uptoBulk x.1 :=
 wB (dat:=fun k:Int=>[li k]) (sz:=1) O underlying41 amA h (fun n cs' D Pl hh _=>by
  obtain ⟨k,e,d,-⟩:=DataW.trod_int underlying3 hh
  have b:Rows.uptoBulk (D,Pl).1=1:=by rw [d];rfl
  dsimp only at b
  exact ⟨k,by rw [e];exact ⟨_,_,M,(by simp [ak,Value.oneCell']),M⟩,by rw [b];simp [dD,nA]⟩)
end
end
section
open Go.ChangeShapes Go.RowKit Go.Deep
section
variable {H:Type} {enc:TypeId × ah->H} {W:World} {base:Nat} {spare:Nat->Bool} {held:Bool}
theorem ajy:tY prog 79 4 [(41,0,1),(41,1,1),(41,2,1),(41,3,1)]:=⟨V,V,V⟩
theorem axZ {n:Nat} {cs:List ah} {x:DataW H × List MemPlace} (h:DataW.trod enc prog W base spare held n 79 cs=some x) (hb:Rows.uptoBulk x.1<=1048576):∃ (A R B S:List Int) (va vr vb vs:ah),cs=[va,vr,vb,vs]∧Mx (qI W) A R B S va vr vb vs:=by
 obtain ⟨xs,m,hx,hl,hxl,hf⟩:=vo ajy h
 match cs,hl,xs,hxl with
 | [c0,c1,c2,c3],_,[y0,y1,y2,y3],_ =>
  have h0:=hf 0 _ _ _ M;have h1:=hf 1 _ _ _ M;have h2:=hf 2 _ _ _ M;have h3:=hf 3 _ _ _ M
  have hD:Rows.uptoBulk x.1=Rows.uptoBulk y0.1+(Rows.uptoBulk y1.1+(Rows.uptoBulk y2.1+(Rows.uptoBulk y3.1+0)))+1:=by rw [hx];simp only [fD,sP,Rows.uptoBulk,Rows.uptoBulkAll]
  obtain ⟨A,va,e0,r0,d0⟩:=Td h0;obtain ⟨R,vr,e1,r1,d1⟩:=Td h1;obtain ⟨B,vb,e2,r2,d2⟩:=Td h2;obtain ⟨S,vs,e3,r3,d3⟩:=Td h3
  simp at e0 e1 e2 e3
  subst e0 e1 e2 e3;have l0:=pK (A.map fun k=>[li k]);have l1:=pK (R.map fun k=>[li k]);have l2:=pK (B.map fun k=>[li k]);have l3:=pK (S.map fun k=>[li k]);rw [bS] at l0 l1 l2 l3;exact ⟨A,R,B,S,_,_,_,_,M,r0,r1,r2,r3,O,O,O,O⟩
end
end
end Go.Proofs.YtdiflmikikiedaaGreat
