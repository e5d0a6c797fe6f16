/-
  What the claim stands on, part 3: Dl Lfl Dv Lpc Scn By Lps Lcl Dst Sty Stz Dsc Mi Ro Ri Chn Chk Dsv Mq Nck Cid Mt.
-/
import Derived.Test.YtdiflmikikiedaaGreatWib
import Derived.Lib.ConvBytes
namespace Go.Proofs.YtdiflmikikiedaaGreat
set_option linter.all false
open Go.Proofs.Tryz
open Go.RowKit
section
section
variable {N:Nat} {D:List Deferred} {w0:World} {F:Nat->Prop} {G0 G G1 G2:GH} {L L1 L2:OL} {T Xs:List (Nat × ah)}
variable {r:Option Nat} {P:Program} {Q:Exit->Act->World->Prop} {l:List Oper} {a a':Act} {w w':World}
theorem GR {pr:Nat->ah->GH->Prop} {S:Nat->Bool} {i d:Nat} {v:ah} (hok:pW l T i=true) (kD:∀ i v (G G':GH),(∀ k o,G k=some o->G' k=some o)->pr i v G->pr i v G') (hi:eT l i=some d)
  (HT:St N D w0 F G0 G1 L T a w) (Hb:St N D w0 F G0 G1 L (Xs++full N a) a w) (hG:∀ k o,G k=some o->G1 k=some o) (hv:∀ j d,j≠i->S j=true->eT l j=some d->∃ v,a.tmps[d]?=some v∧pr j v G1)
  (hG2:∀ k o,G1 k=some o->G2 k=some o) (hp:pr i v G2) (H:St N D w0 F G0 G2 L1 ((d,v) :: (Xs++full N a)) a' w'):DX N D w0 F G0 G L1 T l pr (dQ S i) a' w':=by
 have hok1:=hok
 rw [pW,hi] at hok1
 simp only [ow,Option.isNone_iff_eq_none,lq,vG] at hok1
 have hsame:∀ t,t≠d->a'.tmps[t]?=a.tmps[t]?:=by
  intro t ht
  by_cases hlt:t < N
  ·have h1:∃ u,lk (Xs++full N a) t=some u:=by
    rw [Q5]
    cases lk Xs t with
    | some u=>exact ⟨u,rfl⟩
    | none=>exact ⟨_,Q6 a hlt⟩
   obtain ⟨u,hu⟩:=h1
   rw [Hb.get t u hu,H.get t u (by rw [wY (Ne.symm ht)];exact hu)]
  ·rw [Array.getElem?_eq_none (by rw [H.oL];omega),Array.getElem?_eq_none (by rw [Hb.oL];omega)]
 refine ⟨G2,fun k o hk=>hG2 k o (hG k o hk),⟨H.oL,fun t u ht=>?_,H.uS,H.hp⟩,fun j e hj he=>?_⟩
 ·rw [hsame t (fun e=>by rw [e,hok1.1] at ht;cases ht)]
  exact HT.get t u ht
 ·by_cases hji:j=i
  ·subst hji
   rw [hi] at he
   simp only [pR] at he
   subst he
   exact ⟨v,H.get d v (xX _ _ _),hp⟩
  ·have hSj:S j=true:=by unfold dQ at hj;rwa [av hji] at hj
   obtain ⟨u,hu1,hu2⟩:=hv j e hji hSj he
   have hne:e≠d:=by
    intro e'
    subst e'
    have h2:=hok1.2 j (vK he)
    rw [tZ (fun h=>hji h.symm),he] at h2
    simp at h2
   exact ⟨u,by rw [hsame e hne];exact hu1,kD j u _ _ hG2 hu2⟩
theorem aiZ {id:Nat} {κ:Type} (k0:κ) (hm:P.follows .mixedOrders=true) (bX:List (List Nat)) (B:List Nat) (hk:zJ l bX=true) (hB:yw l bX B=true) (m1 m2 m3:Nat) (aea:B.contains m1=false) (aeb:B.contains m2=false) (WJ:B.contains m3=false) (hne:Nat.beq m1 m2=false) (aeg:Nat.beq m2 m3=false) (hne1:Nat.beq m1 m3=false) (h12:(bX.getD m2 []).contains m1=true) (gL:(bX.getD m3 []).contains m1=true) (h23:(bX.getD m3 []).contains m2=true)
  (C L2:OL) (ob:Obj) (L3:Nat->κ->OL) (hC:∀ x,x∈C->x∈L) (hC2:∀ x,x∈C->x∈L2) (hC3:∀ b k x,x∈C->x∈L3 b k) (pr:Nat->κ->Nat->ah->GH->Prop)
  (Ni:∀ b b' k i v G,Nat.beq i m2=false->(bX.getD i []).contains m2=false->pr b k i v G->pr b' k i v G)
  (arh:∀ b k k' i v G,Nat.beq i m3=false->(bX.getD i []).contains m3=false->pr b k i v G->pr b k' i v G)
  (H:St N D w0 F G0 G L T a w)
  (hstep:allI (fun i o=>∀ b k L' S a w G1,(∀ x,x∈C->x∈L')->B.contains i=false->Nat.beq i m1=false->Nat.beq i m2=false->Nat.beq i m3=false->S i=false->(∀ j∈bX.getD i [],S j=true)->(∀ k o,G k=some o->G1 k=some o)->St N D w0 F G0 G1 L' T a w->(∀ i d,S i=true->eT l i=some d->∃ v,a.tmps[d]?=some v∧pr b k i v G1) ->
   WL r P l.toArray (fun e a' w'=>e=.normal∧DX N D w0 F G0 G L' T l (pr b k) (dQ S i) a' w') [o] a w) 0 l)
  (WK:∀ o b k S a w G1,l[m1]?=some o->S m1=false->(∀ j∈bX.getD m1 [],S j=true)->(∀ k o,G k=some o->G1 k=some o)->St N D w0 F G0 G1 L T a w->(∀ i d,i≠m1->S i=true->eT l i=some d->∃ v,a.tmps[d]?=some v∧pr b k i v G1) ->
   WL r P l.toArray (fun e a' w'=>e=.normal∧DX N D w0 F G0 G L2 T l (pr b k) (dQ S m1) a' w') [o] a w)
  (WM:∀ o k S a w G1,l[m2]?=some o->S m2=false->(∀ j∈bX.getD m2 [],S j=true)->(∀ k o,G k=some o->G1 k=some o)->St N D w0 F G0 G1 L2 T a w->(∀ b i d,i≠m2->S i=true->eT l i=some d->∃ v,a.tmps[d]?=some v∧pr b k i v G1) ->
   WL r P l.toArray (fun e a' w'=>e=.normal∧∃ b,DX N D w0 F G0 G ((b,ob) :: L2) T l (pr b k) (dQ S m2) a' w') [o] a w)
  (WO:∀ o b S a w G1,l[m3]?=some o->S m3=false->(∀ j∈bX.getD m3 [],S j=true)->(∀ k o,G k=some o->G1 k=some o)->St N D w0 F G0 G1 ((b,ob) :: L2) T a w->(∀ k i d,i≠m3->S i=true->eT l i=some d->∃ v,a.tmps[d]?=some v∧pr b k i v G1) ->
   WL r P l.toArray (fun e a' w'=>e=.normal∧∃ k,DX N D w0 F G0 G (L3 b k) T l (pr b k) (dQ S m3) a' w') [o] a w)
  (hend:∀ b k a w G1,(∀ k o,G k=some o->G1 k=some o)->St N D w0 F G0 G1 (L3 b k) T a w->(∀ i d,B.contains i=false->eT l i=some d->∃ v,a.tmps[d]?=some v∧pr b k i v G1)->WL r P l.toArray (fun e a w=>e=.normal∧Q .normal a w) (qJ l B) a w)
  (M9:Nat.blt m2 l.length=true) (H9:Nat.blt m3 l.length=true):WP r P (.region id l.toArray true) Q a w:=by
 have afx:m1≠m2:=fun e=>by subst e;rw [Nat.beq_refl] at hne;cases hne
 have afz:m2≠m3:=fun e=>by subst e;rw [Nat.beq_refl] at aeg;cases aeg
 have afy:m1≠m3:=fun e=>by subst e;rw [Nat.beq_refl] at hne1;cases hne1
 refine Jz hm bX B hk hB (fun S a w=>(S m2=true->S m1=true)∧(S m3=true->S m2=true)∧∃ b k L',L'=(bif S m3 then L3 b k else bif S m2 then (b,ob) :: L2 else bif S m1 then L2 else L)∧DX N D w0 F G0 G L' T l (pr b k) S a w)
  ⟨fun h=>h,fun h=>h,0,k0,L,rfl,G,fun _ _ h=>h,H.move H.hp.drew,fun _ _ h=>absurd (show false=true from h) (by decide)⟩ ?_ ?_
 ·rintro i o S a w ho hb aP kJ hdesc ⟨QJ,ard,b,k,L',hL,G1,hG,HS,hv⟩
  have hsub:∀ x,x∈C->x∈L':=fun x hx=>by
   rw [hL]
   cases S m3 with
   | true=>exact hC3 b k x hx
   | false=>cases S m2 with
    | true=>exact gV _ (hC2 x hx)
    | false=>cases S m1 with
     | true=>exact hC2 x hx
     | false=>exact hC x hx
  have hno:∀ j,j < l.length->S j=true->(bX.getD j []).contains i=false:=fun j hjl hj=>by
   cases hc:(bX.getD j []).contains i with
   | false=>rfl
   | true =>
    have:=hdesc j hjl (by simpa using hc)
    rw [this] at hj;cases hj
  by_cases h1:i=m1
  ·subst h1
   have hS2:S m2=false:=hdesc m2 (Eq.mp Nat.blt_eq M9) (by simpa using h12)
   have AU:S m3=false:=hdesc m3 (Eq.mp Nat.blt_eq H9) (by simpa using gL)
   rw [AU,hS2,aP] at hL
   subst hL
   have h:=WK o b k S a w G1 ho aP kJ hG HS fun j d hj hSj hd=>hv j d hSj hd
   have e2:dQ S i m2=S m2:=av (fun e=>afx e.symm)
   have e3:dQ S i m3=S m3:=av (fun e=>afy e.symm)
   refine pE (fun e a' w' ⟨he,hD⟩=>⟨he,fun _=>aD rfl,fun h=>(by rw [e3,AU] at h;cases h),b,k,_,?_,hD⟩) h
   rw [show dQ S i i=true from aD rfl,e2,e3,hS2,AU]
   rfl
  ·by_cases h2:i=m2
   ·subst h2
    have hS1:S m1=true:=kJ m1 (by simpa using h12)
    have AU:S m3=false:=hdesc m3 (Eq.mp Nat.blt_eq H9) (by simpa using h23)
    rw [AU,aP,hS1] at hL
    subst hL
    have e1:dQ S i m1=S m1:=av afx
    have e3:dQ S i m3=S m3:=av (fun e=>afz e.symm)
    have h:=WM o k S a w G1 ho aP kJ hG HS fun b' j d hj hSj hd=>by
     obtain ⟨v,hv1,hv2⟩:=hv j d hSj hd
     exact ⟨v,hv1,Ni b b' k j v _ (tZ hj) (hno j (vK hd) hSj) hv2⟩
    refine pE (fun e a' w' ⟨he,b',hD⟩=>⟨he,fun _=>by rw [e1];exact hS1,fun _=>aD rfl,b',k,_,?_,hD⟩) h
    rw [show dQ S i i=true from aD rfl,e3,AU];rfl
   ·by_cases h3:i=m3
    ·subst h3
     have hS1:S m1=true:=kJ m1 (by simpa using gL)
     have hS2:S m2=true:=kJ m2 (by simpa using h23)
     rw [aP,hS2] at hL
     subst hL
     have e1:dQ S i m1=S m1:=av afy
     have e2:dQ S i m2=S m2:=av afz
     have h:=WO o b S a w G1 ho aP kJ hG HS fun k' j d hj hSj hd=>by
      obtain ⟨v,hv1,hv2⟩:=hv j d hSj hd
      exact ⟨v,hv1,arh b k k' j v _ (tZ hj) (hno j (vK hd) hSj) hv2⟩
     refine pE (fun e a' w' ⟨he,k',hD⟩=>⟨he,fun _=>by rw [e1];exact hS1,fun _=>by rw [e2];exact hS2,b,k',_,?_,hD⟩) h
     rw [show dQ S i i=true from aD rfl];rfl
    ·have h:=BX hstep i o ho
     rw [iA] at h
     have e1:dQ S i m1=S m1:=av (fun e=>h1 e.symm)
     have e2:dQ S i m2=S m2:=av (fun e=>h2 e.symm)
     have e3:dQ S i m3=S m3:=av (fun e=>h3 e.symm)
     refine pE (fun e a' w' ⟨he,hD⟩=>⟨he,by rw [e1,e2];exact QJ,by rw [e2,e3];exact ard,b,k,L',?_,hD⟩) (h b k L' S a w G1 hsub hb (tZ h1) (tZ h2) (tZ h3) aP kJ hG HS hv)
     rw [e1,e2,e3];exact hL
 ·rintro S a w hall Na ⟨_,_,b,k,L',hL,G1,hG,HS,hv⟩
  have hs3:S m3=true:=hall m3 (Eq.mp Nat.blt_eq H9) WJ
  rw [hs3] at hL
  subst hL
  exact hend b k a w G1 hG HS fun j d hb hd=>hv j d (hall j (vK hd) hb) hd
end
theorem axk {z:Int} (h1:0<=z) (h2:z < 256):IntKind.u8.wrap z=z:=by
 simp only [IntKind.wrap,IntKind.bits,IntKind.signed,LP,uK,if_false]
 omega
section
variable {N:Nat} {D:List Deferred} {w0:World} {F:Nat->Prop} {G0 G:GH} {L:OL} {T:List (Nat × ah)}
variable {r:Option Nat} {P:Program} {ops:Array Oper} {Q:Exit->Act->World->Prop} {rest:List Oper} {a:Act} {w:World}
variable {d:Nat} {ty:TypeId} {pos:String} {aO:Array Edge} {g:Option (Nat × Bool)}
theorem avX {x y:Operand} {t yt:TypeId} {p q:Int} (H:St N D w0 F G0 G L T a w) (hw:Region.wanted ⟨some d,.binOp .sub t x y yt,ty,pos,aO,g⟩ (yielded ops a.tmps)=true) (hx:ev T x=some (.int .u8 p)) (hy:ev T y=some (.int .u8 q)) (h1:0<=p - q) (h2:p - q < 256) (hd:Nat.blt d N=true)
  (k:∀ a',St N D w0 F G0 G L ((d,.int .u8 (p - q)) :: T) a' w->WL r P ops Q rest a' w):WL r P ops Q (⟨some d,.binOp .sub t x y yt,ty,pos,aO,g⟩ :: rest) a w :=
 gq (v:=.int .u8 (p - q)) (w':=w) hw rfl (by simp [execOp,eqGuard,binOp,Op.intArith,H.ev hx,H.ev hy,dY,axk h1 h2]) (k _ (H.put hd _ H.hp))
end
end
theorem amW:aQ 279:=aR func279 rfl
theorem Oc:Ty prog 313 1 24 [.slice none 0 0] false:=⟨by kernel_rfl,by kernel_rfl⟩
theorem anA:aQ 94:=aR func94 rfl
theorem Lb:prog.underlying 313=some (.slice 318):=by kernel_rfl
theorem KY:Ty prog 318 3 32 [.string ⟨#[]⟩,.int .i64 0,.bool false] true:=⟨by kernel_rfl,by kernel_rfl⟩
theorem amX:aQ 280:=aR func280 rfl
theorem MF:dX prog 340 2 2:=⟨by kernel_rfl⟩
theorem MG:dX prog 340 3 4:=⟨by kernel_rfl⟩
theorem ahb:qR prog 318 [(0,1),(1,1),(2,1)] [.string ⟨#[]⟩,.int .i64 0,.bool false]:=⟨by kernel_rfl,by kernel_rfl⟩
theorem U7:aQ 274:=aR func274 rfl
theorem Qc:dX prog 340 4 5:=⟨by kernel_rfl⟩
structure jQ where
 lit:ByteArray
 level:Int
 plain:Bool
def jQ.dat (x:jQ):List Dat:=[.lf (.string x.lit),li x.level,.lf (.bool x.plain)]
abbrev jQ.cells (x:jQ):List ah:=[.string x.lit,vi x.level,.bool x.plain]
theorem aay {p:Prop} (h:p:=by
 exact ⟨_,_,rfl,by simp [ak,Value.oneCell'],_,_,rfl,by simp [ak,Value.oneCell'],_,_,rfl,by simp [ak,Value.oneCell'],rfl⟩):p:=h
theorem afh (G:GH) (x:jQ):bD G x.dat x.cells:=by
 simp only [jQ.dat,jQ.cells,bD]
 exact aay
theorem afg {G:GH} {x:jQ} {cs:List ah} (h:bD G x.dat cs):cs=x.cells:=by
 simp only [jQ.dat,bD,ak] at h
 obtain ⟨_,_,rfl,⟨rfl,_⟩,_,_,rfl,⟨rfl,_⟩,_,_,rfl,⟨rfl,_⟩,rfl⟩:=h
 rfl
def Iw (l:List jQ):List ah:=(l.map jQ.cells).flatten
theorem aff (l:List jQ) (x:jQ):Iw (l++[x])=Iw l++x.cells:=by simp [Iw]
structure BO (b:Nat) (lit:List UInt8) (parts:List jQ) (p v q:ah) (Lp Lo:OL):Prop where
 ptr:p=.pointer none∨p=(aK b 2)
 buf:dR 5 1 v lit.length (Lib.byteCells lit) Lo
 prt:dR 318 3 q parts.length (Iw parts) Lp
def yO (lit:List UInt8) (parts:List jQ):List jQ:=if lit=[] then parts else parts++[⟨⟨lit.toArray⟩,0,false⟩]
theorem Dp {p:Prop} (h:p:=by
 exact GQ HT Hb hG hv (gy bq nG) H rfl):p:=h
theorem fV {p:Prop} (h:p:=by
 exact absurd hB (by decide)):p:=h
theorem LW {p:Prop} (h:p:=by
 exact abN (by kernel_rfl) rfl HT Hb hG (fun j e h1 h2 h3=>hv _ j e h1 h2 h3) (rfl) H):p:=h
theorem aaz {p:Prop} (h:p:=by
 first
  | exact H.hp.ng (L':=iP b s i _ _ _ pl e :: nG.2) (Dm _ _) ⟨_,_,_,nG.2,[],by rw [iF],⟨.inl rfl,dR.nil,by rw [yO,av hne];simpa using Nl⟩⟩
  | exact H.hp.gT ⟨_,_,_,Lp,Lo,by rw [uo],by
    have h0:lit=[]:=by
     cases lit with
     | nil=>rfl
     | cons x r=>simp at p6
    subst h0;exact ⟨ari,hbuf,by rw [yO,aD rfl];exact WY⟩⟩):p:=h
set_option maxHeartbeats 1000000 in
theorem Vs (G:GH) (Lp Lo:OL) (w0:World) (b:Nat) (s:ByteArray) (i:Int) (p v q:ah) (pl e:Int) (lit:List UInt8) (parts:List jQ) (hR:BO b lit parts p v q Lp Lo) (hO:gY G (iP b s i p v q pl e :: (Lp++Lo)) w0) (hl:lit.length<=4294967296) (hp:parts.length<=4294967296) :
  Calls prog 274 #[(aK b 0)] w0 (gF w0 G (iP b s i p v q pl e :: (Lp++Lo)) fun u G' L'=>∃ p' v' q' sO mE,L'=iP b s i p' v' q' pl e :: (sO++mE)∧BO b [] (yO lit parts) p' v' q' sO mE):=by
 obtain ⟨ari,hbuf,WY⟩:=hR;have hml:maxLen=9223372036854775807:=rfl;obtain ⟨A,c,rfl,aeH,aeI⟩:=hbuf.shape;obtain ⟨B,d,rfl,aeu,aev⟩:=WY.shape;obtain ⟨Lt,uo⟩:∃ x,x=Lp++Lo:=⟨_,rfl⟩;rw [<- uo] at hO |-;refine jD (N:=25) (T:=[(0,_)]) func274 rfl ntmps274 rfl rfl hO ?_;intro a H;refine kP H (SR fun _ K1=>Rm rfl (Rk rfl (Rf MF rfl ?_)));clear H;intro a H;refine iE amW (Li:=[]) (L:=iP b s i p (.slice A lit.length c) (.slice B parts.length d) pl e :: Lt) H wn rfl (awM _ _ _ b s i p A lit.length c B parts.length d pl e (Hp.owns (Li:=[]) H.hp)) rfl ?_;clear H;rintro v5 _ L5 a w ⟨rfl,rfl,rfl⟩ Fa H;dsimp only [List.nil_append] at H;refine kH H (Rc rfl (Kz K1 (Cd rfl ?_ ?_))) <;> clear H K1
 ·intro h6 a H
  try have p6:=dT h6
  have hne:lit≠[]:=fun e=>by rw [e] at p6;simp at p6
  subst uo;refine bR (fun _ K2=>?_)
  have gy:Mo2 (fun (bq:Nat) (nG:(Option Addr × Nat) × OL) (dh:Nat) (v:ah) (G:GH)=>match dh with|0=>v=(aK b 0)|1=>v=(aK b 0)|2=>v=(aK b 0)|3=>v=(aK b 4)|4=>v=.slice B parts.length d|5=>v=(aK b 0)|6=>v=(aK b 0)|7=>v=(aK b 2)|8=>v=.string ⟨lit.toArray⟩|9=>v=.agg (jQ.cells ⟨⟨lit.toArray⟩,0,false⟩).toArray|10=>v=.slice (some ⟨bq,0,none⟩) 1 1|11=>v=.slice nG.1.1 (parts.length+1) nG.1.2∧dR 318 3 v (parts.length+1) (Iw (parts++[⟨⟨lit.toArray⟩,0,false⟩])) nG.2|_=>True):=by intro bq nG dh v G G' hm h;(iterate 15 (rcases dh with _|dh;(first|exact h)));exact trivial
  refine aiZ (κ:=(Option Addr × Nat) × OL) (((none,0),[])) (hmx) [[],[],[1],[1,2],[1,2,3],[],[5],[5,6],[5,6,7],ra 5 4,ra 5 5,ra 1 10,ra 0 12,ra 0 13,ra 0 14] [12,13,14] (by kernel_rfl) (by kernel_rfl) 8 10 11 (by decide) (by decide) (by decide) (by decide) (by decide) (by decide) (by decide) (by decide) (by decide) [iP b s i p (.slice A lit.length c) (.slice B parts.length d) pl e] (iP b s i p (.slice A lit.length c) (.slice B parts.length d) pl e :: Lp) (.cells (jQ.cells ⟨⟨lit.toArray⟩,0,false⟩).toArray 318 (0,0)) (fun b_ k_=>(b_,.cells (jQ.cells ⟨⟨lit.toArray⟩,0,false⟩).toArray 318 (0,0)) :: iP b s i p (.slice A lit.length c) (.slice B parts.length d) pl e :: k_.2) (fun x hx=>by rw [pU.1 hx];exact fE) (fun x hx=>by rw [pU.1 hx];exact fE) (fun _ _ x hx=>by rw [pU.1 hx];exact gV _ fE) (fun (bq:Nat) (nG:(Option Addr × Nat) × OL) (dh:Nat) (v:ah) (G:GH)=>match dh with|0=>v=(aK b 0)|1=>v=(aK b 0)|2=>v=(aK b 0)|3=>v=(aK b 4)|4=>v=.slice B parts.length d|5=>v=(aK b 0)|6=>v=(aK b 0)|7=>v=(aK b 2)|8=>v=.string ⟨lit.toArray⟩|9=>v=.agg (jQ.cells ⟨⟨lit.toArray⟩,0,false⟩).toArray|10=>v=.slice (some ⟨bq,0,none⟩) 1 1|11=>v=.slice nG.1.1 (parts.length+1) nG.1.2∧dR 318 3 v (parts.length+1) (Iw (parts++[⟨⟨lit.toArray⟩,0,false⟩])) nG.2|_=>True) (fun b b' k i v G hi hc h=>by (iterate 15 (rcases i with _|i;(first|exact h|exact absurd hi (by decide)|exact absurd hc (by decide))));exact trivial) (fun b k k' i v G hi hc h=>by (iterate 15 (rcases i with _|i;(first|exact h|exact absurd hi (by decide)|exact absurd hc (by decide))));exact trivial) H ?_ ?_ ?_ ?_ ?_ (by kernel_rfl) (by kernel_rfl)
  ·clear H;refine aC ?_ ?_ ?_ ?_ (aC ?_ ?_ ?_ ?_ (aC ?_ ?_ ?_ ?_ (bP ?_ (bP ?_ (bP ?_ dH)))))
   ·intro bq nG fI aT a w G1 fZ _ _ _ _ aP hc hG HT hv;have H:=HT;clear aP;have Hb:=H.full;have H:=Hb;clear hc;refine kH H (Rm rfl ?_);clear H;intro a H;refine aB ⟨rfl,?_⟩;exact Dp
   ·intro bq nG fI aT a w G1 fZ _ _ _ _ aP hc hG HT hv;have H:=HT;clear aP;have Hb:=H.full;have H:=Hb;clear hc;refine kH H (Rm rfl ?_);clear H;intro a H;refine aB ⟨rfl,?_⟩;exact Dp
   ·intro bq nG fI aT a w G1 fZ _ _ _ _ aP hc hG HT hv;have H:=HT;clear aP;have H:=H.aN (hv 1 8 (hc 1 (by decide)) rfl) rfl;have Hb:=H.full;have H:=Hb;clear hc;refine kH H (Rk rfl ?_);clear H;intro a H;refine aB ⟨rfl,?_⟩;exact Dp
   ·intro bq nG fI aT a w G1 fZ _ _ _ _ aP hc hG HT hv;have H:=HT;clear aP;have H:=H.aN (hv 2 9 (hc 2 (by decide)) rfl) rfl;have Hb:=H.full;have H:=Hb;clear hc;refine kH H (Rf MG rfl ?_);clear H;intro a H;refine aB ⟨rfl,?_⟩;exact Dp
   ·intro bq nG fI aT a w G1 fZ _ _ _ _ aP hc hG HT hv;have H:=HT;clear aP;have H:=H.aN (hv 3 10 (hc 3 (by decide)) rfl) rfl;have Hb:=H.full;have H:=Hb;clear hc;refine rO Oc H wn rfl (H.hp.CG (fZ _ fE) rfl) rfl ?_;clear H;intro a H;refine aB ⟨rfl,?_⟩;exact Dp
   ·intro bq nG fI aT a w G1 fZ _ _ _ _ aP hc hG HT hv;have H:=HT;clear aP;have Hb:=H.full;have H:=Hb;clear hc;refine kH H (Rm rfl ?_);clear H;intro a H;refine aB ⟨rfl,?_⟩;exact Dp
   ·intro bq nG fI aT a w G1 fZ _ _ _ _ aP hc hG HT hv;have H:=HT;clear aP;have H:=H.aN (hv 5 12 (hc 5 (by decide)) rfl) rfl;have Hb:=H.full;have H:=Hb;clear hc;refine kH H (Rk rfl ?_);clear H;intro a H;refine aB ⟨rfl,?_⟩;exact Dp
   ·intro bq nG fI aT a w G1 fZ _ _ _ _ aP hc hG HT hv;have H:=HT;clear aP;have H:=H.aN (hv 6 13 (hc 6 (by decide)) rfl) rfl;have Hb:=H.full;have H:=Hb;clear hc;refine kH H (Rf MF rfl ?_);clear H;intro a H;refine aB ⟨rfl,?_⟩;exact Dp
   ·intro _ _ _ _ _ _ _ _ _ hB;exact fV
   ·intro bq nG fI aT a w G1 fZ _ _ _ _ aP hc hG HT hv;have H:=HT;clear aP;have H:=H.aN (hv 8 15 (hc 8 (by decide)) rfl) rfl;have Hb:=H.full;have H:=Hb;clear hc;refine jF ahb [_,_,_] H wn rfl rfl rfl rfl ?_;clear H;intro a H;refine aB ⟨rfl,?_⟩;exact Dp
   ·intro _ _ _ _ _ _ _ _ _ _ hB;exact fV
   ·intro _ _ _ _ _ _ _ _ _ _ _ hB;exact fV
   ·intro _ _ _ _ _ _ _ _ hB;exact fV
   ·intro _ _ _ _ _ _ _ _ hB;exact fV
   intro _ _ _ _ _ _ _ _ hB;exact fV
  ·clear H;intro o_ bq nG aT a w G1 oN _ hc hG HT hv;obtain rfl:_=o_:=Option.some.inj oN;clear oN;have H:=HT;have H:=H.aN (hv 7 14 (by decide) (hc 7 (by decide)) rfl) rfl;have Hb:=H.full;have H:=Hb;clear hc;refine iE anA (Li:=[]) (L:=iP b s i p (.slice A lit.length c) (.slice B parts.length d) pl e :: (Lp++Lo)) H wn rfl (axd _ _ _ _ b s i p _ B parts.length d pl e lit (Hp.owns (Li:=[]) H.hp) hbuf hne) rfl ?_;clear H;rintro v15 Df Tw a w ⟨rfl,rfl⟩ DL H;dsimp only [List.nil_append] at H;refine aB ⟨rfl,?_⟩;exact GR (by kernel_rfl) (gy bq nG) rfl HT Hb hG (fun j e h1 h2 h3=>hv j e h1 h2 h3) DL (rfl) H
  ·clear H;intro o_ nG aT a w G1 oN _ hc hG HT hv;obtain rfl:_=o_:=Option.some.inj oN;clear oN;have H:=HT;have H:=H.aN (hv 0 9 16 (by decide) (hc 9 (by decide)) rfl) rfl;have Hb:=H.full;have H:=Hb;clear hc;refine iV Lb KY [_,_,_] [_,_,_] H wn rfl rfl rfl rfl rfl (by intro i q h;match i,h with|0,h=>exact h|n+1,h=>simp at h) rfl rfl ?_;clear H;intro b17 a w Wo H;refine aB ⟨rfl,b17,?_⟩;exact LW
  ·clear H;intro o_ bq aT a w G1 oN _ hc hG HT hv;obtain rfl:_=o_:=Option.some.inj oN;clear oN;have H:=HT;have H:=H.aN (hv (((none,0),[])) 4 11 (by decide) (hc 4 (by decide)) rfl) rfl;have H:=H.aN (hv (((none,0),[])) 10 17 (by decide) (hc 10 (by decide)) rfl) rfl;have Hb:=H.full;have H:=Hb;clear hc;refine oZ (Li:=[_,_]) (Lo:=Lp) (news:=jQ.cells ⟨⟨lit.toArray⟩,0,false⟩) Lb KY rfl rfl H wn rfl rfl WY rfl (H.hp.cB 0 rfl rfl) rfl (by omega) (by omega) rfl ?_;clear H;intro v18 aiu a w Nl H;obtain ⟨A18,c18,rfl,-,-⟩:=Nl.shape;rw [<- aff] at Nl;refine aB ⟨rfl,((A18,c18),aiu),?_⟩;exact abN (by kernel_rfl) rfl HT Hb hG (fun j e h1 h2 h3=>hv _ j e h1 h2 h3) (⟨rfl,Nl⟩) H
  clear H;intro b17 nG a w G jy H hv;have H:=H.aN (hv 0 7 rfl rfl) rfl;obtain ⟨u18,Xd,Nf⟩:=hv 11 18 (by decide) rfl;(try dsimp only at Nf);obtain ⟨rfl,Nl⟩:=Nf;have H:=H.jC Xd;clear hv;refine kH H (Rk rfl (Rf MG rfl ?_));clear H;intro a H;refine bK Oc 1 (vs:=[_]) H wn rfl ?_;clear H;intro w H;refine aB ⟨rfl,?_⟩;refine K2 _ _ ?_;clear K2;refine kP H (SC (Rm rfl (Rk rfl (Rf MF rfl ?_))));clear H;intro a H;refine iE amX (Li:=[_]) (L:=iP b s i p (.slice A lit.length c) (.slice nG.1.1 (parts.length+1) nG.1.2) pl e :: nG.2) H wn rfl (axb _ _ _ b s i p A lit.length c nG.1.1 (parts.length+1) nG.1.2 pl e (Hp.owns (Li:=[_]) H.hp)) rfl ?_;clear H;rintro v24 _ L24 a w ⟨rfl,rfl⟩ H6 H;dsimp only [lca,bM] at H;refine aB ?_;refine (leave0 H results274 ?_).2
  exact aaz
 intro h6 a H
 try have p6:=dF h6
 refine iG ?_;refine (leave0 H results274 ?_).2
 exact aaz
theorem afV (G:GH) (Lp Lo:OL) (w0:World) (b:Nat) (s:ByteArray) (i:Int) (p v q:ah) (pl e:Int) (lit:List UInt8) (parts:List jQ) (ch:Int) (plain:Bool) (hR:BO b lit parts p v q Lp Lo) (hO:gY G (iP b s i p v q pl e :: (Lp++Lo)) w0) (hl:lit.length<=4294967296) (hp:parts.length<=4294967290) (hc:49<=ch∧ch<=57) (hpl:0<=pl∧pl<=4294967296) :
  Calls prog 278 #[(aK b 0),.int .u8 ch,.bool plain] w0 (gF w0 G (iP b s i p v q pl e :: (Lp++Lo)) fun u G' L'=>∃ p' v' q' sO mE,L'=iP b s i p' v' q' (pl+1) e :: (sO++mE)∧BO b [] (yO lit parts++[⟨⟨#[]⟩,ch - 48,plain⟩]) p' v' q' sO mE):=by
 have hml:maxLen=9223372036854775807:=rfl
 have hfl:(yO lit parts).length<=parts.length+1:=by unfold yO;split <;> simp
 obtain ⟨A,c,rfl,aeH,aeI⟩:=hR.buf.shape;obtain ⟨B,d,rfl,aeu,aev⟩:=hR.prt.shape;obtain ⟨Lt,uo⟩:∃ x,x=Lp++Lo:=⟨_,rfl⟩;rw [<- uo] at hO |-;refine jD (N:=29) (T:=[(0,_),(1,_),(2,_)]) func278 rfl ntmps278 rfl rfl hO ?_;intro a H;refine kP H (SR fun _ K1=>Rm rfl ?_);clear H;intro a H;refine iE U7 (Li:=[]) (L:=iP b s i p (.slice A lit.length c) (.slice B parts.length d) pl e :: Lt) H wn rfl (by subst uo;exact Vs _ Lp Lo _ b s i p _ _ pl e lit parts hR (Hp.owns (Li:=[]) H.hp) hl (by omega)) rfl ?_;clear H;rintro v7 G7 L7 a w ⟨p',v',q',sO,mE,rfl,MR⟩ yR H;dsimp only [List.nil_append] at H;obtain ⟨A7,c7,rfl,-,-⟩:=MR.buf.shape;obtain ⟨B7,d7,rfl,-,-⟩:=MR.prt.shape;refine K1 _ _ ?_;clear K1;refine kP H (SR fun _ K2=>Rm rfl (Rm rfl (Rk rfl (bO MG Oc 0 rfl rfl (Rm rfl ?_)))));clear H;intro a H;refine avX H wn rfl rfl (by omega) (by omega) rfl ?_;clear H;intro a H;refine CP _ mJ Oi H wn rfl rfl rfl ?_;clear H;intro a H;rw [Im (by omega) (by omega)] at H;refine kH H (Rm rfl ?_);clear H;intro a H;refine jF ahb [_,_,_] H wn rfl rfl rfl rfl ?_;clear H;intro a H;refine iV Lb KY [_,_,_] [_,_,_] H wn rfl rfl rfl rfl rfl (by intro i q h;match i,h with|0,h=>exact h|n+1,h=>simp at h) rfl rfl ?_;clear H;intro b18 a w Qs H;have H:=(St.cast H (show _=[_,_]++(sO++mE) from rfl)).perm (List.Perm.append_left _ wG);have H:=St.un H;refine oZ (Li:=[_,_]++mE) (Lo:=sO) (news:=jQ.cells ⟨⟨#[]⟩,ch - 48,plain⟩) Lb KY rfl rfl H wn rfl rfl MR.prt rfl (H.hp.cB 0 rfl rfl) rfl (by omega) (by omega) rfl ?_;clear H;intro v19 Z7 a w zR H;obtain ⟨I4,c19,rfl,-,-⟩:=zR.shape;rw [<- aff] at zR;have H:=H.assoc.perm (List.Perm.append_left _ wG);dsimp only [lca,bM] at H;refine kH H (Rk rfl (Rf MG rfl ?_));clear H;intro a H;refine bK Oc 1 (vs:=[_]) H wn rfl ?_;clear H;intro w H;refine K2 _ _ ?_;clear K2;refine kP H (SC (Rm rfl (Rk rfl (bO Qc aG 1 rfl rfl (Rd rfl (Rk rfl (Rf Qc rfl ?_)))))));clear H;intro a H;refine bK aG 1 (vs:=[_]) H wn rfl ?_;clear H;intro w H;refine aB ?_;refine (leave0 H results278 ?_).2;exact H.hp.ng (L':=iP b s i _ _ _ (pl+1) e :: (Z7++mE)) (Dm _ _) ⟨_,_,_,Z7,mE,rfl,MR.ptr,MR.buf,by simpa using zR⟩
section
section
variable {N:Nat} {D:List Deferred} {w0:World} {F:Nat->Prop} {G0 G:GH} {L:OL} {T Xs:List (Nat × ah)}
variable {r:Option Nat} {P:Program} {Q:Exit->Act->World->Prop} {l:List Oper} {a a':Act} {w w':World}
abbrev Zn:Type:=Nat × ah × Nat × Bool
def Zo (ent:List Zn) (S:Nat->Bool) (a:Act):Prop:=∀ e∈ent,S e.2.2.1=e.2.2.2->a.tmps[e.1]?=some e.2.1
theorem Zo.at {ent:List Zn} {S:Nat->Bool} {a:Act} (h:Zo ent S a) (k:Nat) {t:Nat} {v:ah} {j:Nat} {b:Bool} (hk:ent[k]?=some (t,v,j,b)) (hS:S j=b):a.tmps[t]?=some v:=h _ (lV hk) hS
theorem avW {ops:Array Oper} {rest:List Oper} {d:Nat} {ty:TypeId} {pos:String} {aO:Array Edge} {g:Option (Nat × Bool)} {t:TypeId} {x y:Operand} {s:ByteArray} {ky:IntKind} {p:Int} (hi:Nat) (ht:P.underlying t=some .string) (H:St N D w0 F G0 G L T a w) (hw:Region.wanted ⟨some d,.slice t x none (some y) none,ty,pos,aO,g⟩ (yielded ops a.tmps)=true) (hx:ev T x=some (.string s)) (hy:ev T y=some (.int ky p)) (hp:p=(hi:Int)) (h1:hi<=s.size) (hd:Nat.blt d N=true)
  (k:∀ a',St N D w0 F G0 G L ((d,.string (s.extract 0 hi)) :: T) a' w->WL r P ops Q rest a' w):WL r P ops Q (⟨some d,.slice t x none (some y) none,ty,pos,aO,g⟩ :: rest) a w:=by
 subst hp
 have hr:=run_slice_string_h (P:=P) w t s ht ky (hi:Int) (by omega) (by omega)
 rw [Int.toNat_natCast] at hr
 refine gq (v:=.string (s.extract 0 hi)) (w':=w) hw rfl ?_ (k _ (H.put hd _ H.hp))
 simp only [execOp,H.ev hx,wE,Option.map_none,H.ev hy,dY,run_sliceAt_string w t _ _ _ _ ht,hr,nP,tV]
end
end
theorem amY:aQ 281:=aR func281 rfl
theorem yM:dX prog 340 0 0:=⟨by kernel_rfl⟩
theorem aco:aQ 273:=aR func273 rfl
theorem acp:aQ 277:=aR func277 rfl
theorem acr:aQ 278:=aR func278 rfl
theorem rZ:dX prog 340 1 1:=⟨by kernel_rfl⟩
theorem U8:aQ 276:=aR func276 rfl
theorem Ci:dX prog 340 5 6:=⟨by kernel_rfl⟩
def vV (s p:ByteArray):Bool:=decide (p.size<=s.size) && ((s.extract 0 p.size).toList == p.toList)
theorem apK (G:GH) (w0:World) (hG:Hold G w0) (s p:ByteArray) (hs:s.size<=4611686018427387904) (hp:p.size<=4611686018427387904):Calls prog 281 #[.string s,.string p] w0 (bE w0 G fun u G'=>u=.bool (vV s p)∧G=G'):=by
 refine eN [(0,_),(1,_)] func281 rfl ntmps281 rfl rfl hG ?_;intro a H;refine kP H (SR fun _ K1=>aj K1 rfl (SR fun _ K2=>Rm rfl (Rv iT rfl (Rm rfl (Rv iT rfl (Rc rfl (Rm rfl (Sp 10 rfl ?_ ?_)))))))) <;> clear H K1
 ·intro h10 a H
  try have jd:=dT h10
  refine kH H (YM h10 rfl (YM h10 rfl ?_));clear H;intro a H;refine FJ iT H (wg H rfl rfl h10) rfl rfl ?_;clear H;intro a H;refine avW p.size iT H (wg H rfl rfl h10) rfl rfl rfl (by omega) rfl ?_;clear H;intro a H;refine kH H (YM h10 rfl ?_);clear H;intro a H;refine CU H (wg H rfl rfl h10) rfl rfl rfl ?_;clear H;intro a H;exact kH H (Pt h10 rfl (aj K2 rfl (LR results281 rfl fun H=>H.rt ⟨gK (by unfold vV;first|(simp_all;done)|(simp_all;omega)),rfl⟩)))
 intro h10 a H
 try have jd:=dF h10
 exact kH H (aM h10 rfl (aM h10 rfl (Pf h10 rfl (aj K2 rfl (LR results281 rfl fun H=>H.rt ⟨gK (by unfold vV;first|(simp_all;done)|(simp_all;omega)),rfl⟩)))))
theorem Wm (G:GH) (w0:World) (hG:Hold G w0) (s p:ByteArray) (hs:s.size<=4611686018427387904) (hp:p.size<=4611686018427387904):Calls prog 276 #[.string s,.string p] w0 (bE w0 G fun u G'=>u=.bool (vV s p)∧G=G'):=by
 refine eN [(0,_),(1,_)] func276 rfl ntmps276 rfl rfl hG ?_;intro a H;refine kP H (SR fun _ K1=>aj K1 rfl (SR fun _ K2=>Rm rfl (Rm rfl ?_)));clear H K1;intro a H;refine s_call amY H wn rfl (apK _ _ H.ro s p hs hp) rfl ?_;clear H;rintro v7 _ a w ⟨rfl,rfl⟩ - H;exact kH H (aj K2 rfl (LR results276 rfl fun H=>H.rt ⟨rfl,rfl⟩))
def yH (s:ByteArray) (k:Nat):Bool:=decide (k < s.size) && decide (49<=ig s k) && decide (ig s k<=57)
theorem abK (G:GH) (L:OL) (w0:World) (b:Nat) (s:ByteArray) (i:Int) (p v q:ah) (pl e:Int) (k:Nat) (hs:s.size<=4611686018427387904) (hO:gY G (iP b s i p v q pl e :: L) w0) :
  Calls prog 277 #[(aK b 0),vi k] w0 (gF w0 G (iP b s i p v q pl e :: L) fun u G' L'=>u=.bool (yH s k)∧L'=iP b s i p v q pl e :: L∧G'=G):=by
 refine jD (N:=30) (T:=[(0,_),(1,_)]) func277 rfl ntmps277 rfl rfl hO ?_;intro a H;refine kP H (SR fun _ K1=>aj K1 rfl (SR fun _ K2=>Rm rfl (Rm rfl (Rk rfl (bO yM iR 0 rfl rfl (Rv iT rfl (Rc rfl (Rm rfl (Sp 12 rfl ?_ ?_))))))))) <;> clear H K1
 ·intro h12 a H
  try have rM:=dT h12
  refine kH H (YM h12 rfl ?_);clear H;intro a H;refine wo H (wg H rfl rfl h12) rfl rfl ?_;clear H;intro a H;refine kH H (YF yM h12 rfl (YO iR 0 h12 rfl (YM h12 rfl ?_)));clear H;intro a H;refine qK k iT H (wg H rfl rfl h12) rfl rfl rfl (by omega) rfl ?_;clear H;intro a H;rw [<- mY] at H;refine kH H (YC h12 rfl (Pt h12 rfl (Rm rfl (Sp 21 rfl ?_ ?_)))) <;> clear H
  ·intro h21 a H
   try have Ec:=dT h21
   refine kH H (YM h21 rfl ?_);clear H;intro a H;refine wo H (wg H rfl rfl h21) rfl rfl ?_;clear H;intro a H;refine kH H (YF yM h21 rfl (YO iR 0 h21 rfl (YM h21 rfl ?_)));clear H;intro a H;refine qK k iT H (wg H rfl rfl h21) rfl rfl rfl (by omega) rfl ?_;clear H;intro a H;rw [<- mY] at H;exact kH H (YC h21 rfl (Pt h21 rfl (aj K2 rfl (LR results277 rfl fun H=>H.hp.gT ⟨gK (by unfold yH;first|(simp_all;done)|(simp_all;omega)),rfl,rfl⟩))))
  intro h21 a H
  try have Ec:=dF h21
  exact kH H (aM h21 rfl (aJ h21 rfl (aJ h21 rfl (Pf h21 rfl (aj K2 rfl (LR results277 rfl fun H=>H.hp.gT ⟨gK (by unfold yH;first|(simp_all;done)|(simp_all;omega)),rfl,rfl⟩))))))
 intro h12 a H
 try have rM:=dF h12
 exact kH H (aM h12 rfl (aJ h12 rfl (aJ h12 rfl (Pf h12 rfl (Rm rfl (aM rfl rfl (aJ rfl rfl (aJ rfl rfl (Pf rfl rfl (aj K2 rfl (LR results277 rfl fun H=>H.hp.gT ⟨gK (by unfold yH;first|(simp_all;done)|(simp_all;omega)),rfl,rfl⟩)))))))))))
structure wC where
 i:Nat
 lit:List UInt8
 parts:List jQ
 pl:Nat
 e:Int
def yg (s:ByteArray) (x:wC):wC :=
 if vV (s.extract x.i s.size) ⟨#[37,37]⟩=true then ⟨x.i+2,x.lit++[37],x.parts,x.pl,x.e⟩
 else if yH s (x.i+1)=true then ⟨x.i+2,[],yO x.lit x.parts++[⟨⟨#[]⟩,ig s (x.i+1) - 48,false⟩],x.pl+1,x.e⟩
 else if vV (s.extract x.i s.size) ⟨#[37,100]⟩=true∧yH s (x.i+2)=true then ⟨x.i+3,[],yO x.lit x.parts++[⟨⟨#[]⟩,ig s (x.i+2) - 48,true⟩],x.pl+1,x.e⟩
 else ⟨x.i,x.lit,x.parts,x.pl,14⟩
abbrev yj (b:Nat) (s:ByteArray) (x:wC) (p v q:ah):Nat × Obj:=iP b s x.i p v q x.pl x.e
theorem abJ {s:ByteArray} {k:Nat} (h:yH s k=true):k < s.size∧49<=ig s k∧ig s k<=57:=by
 simpa [yH,and_assoc] using h
theorem TV {p:Prop} (h:p:=by
 first
  | exact H.hp.gT ⟨_,_,_,TB,TA,by rw [yg,av Kw,av Kv,aD ⟨c1,iL⟩];rfl,by rw [yg,av Kw,av Kv,aD ⟨c1,iL⟩];exact Hw⟩
  | (have hn3:¬ (vV (s.extract i s.size) ⟨#[37,100]⟩=true∧yH s (i+2)=true):=by simp_all
     exact H.hp.gT ⟨_,_,_,Lp,Lo,by rw [yg,av Kw,av Kv,av hn3,uo],by rw [yg,av Kw,av Kv,av hn3];exact hR⟩)):p:=h
set_option maxHeartbeats 1000000 in
theorem auf (G:GH) (Lp Lo:OL) (w0:World) (b:Nat) (s:ByteArray) (x:wC) (p v q:ah) (hR:BO b x.lit x.parts p v q Lp Lo) (hO:gY G (yj b s x p v q :: (Lp++Lo)) w0) (hs:s.size<=4294967290) (hi:x.i < s.size) (hl:x.lit.length<=4294967290) (hp:x.parts.length<=4294967290) (hpl:x.pl<=4294967290) :
    Calls prog 272 #[(aK b 0)] w0 (gF w0 G (yj b s x p v q :: (Lp++Lo)) fun u G' L'=>∃ p' v' q' sO mE,L'=yj b s (yg s x) p' v' q' :: (sO++mE)∧BO b (yg s x).lit (yg s x).parts p' v' q' sO mE):=by
  obtain ⟨i,lit,parts,pl,e⟩:=x;dsimp only [yj] at *
  have hex:(s.extract i s.size).size<=4611686018427387904:=by rw [ByteArray.size_extract];omega
  obtain ⟨A,c,rfl,aeH,aeI⟩:=hR.buf.shape;obtain ⟨B,d,rfl,aeu,aev⟩:=hR.prt.shape;obtain ⟨Lt,uo⟩:∃ x,x=Lp++Lo:=⟨_,rfl⟩;rw [<- uo] at hO |-;refine jD (N:=93) (T:=[(0,_)]) func272 rfl ntmps272 rfl rfl hO ?_;intro a H;refine EJ ?_;refine bR (fun _ K1=>?_);refine dI hmx [[],[0],[0,1],[0,1,2],[],[4],[4,5],[4,5,6],ra 0 8,ra 0 9,ra 0 10] [] (by kernel_rfl) [_,_,_,.string s,_,_,_,vi i,.string (s.extract i s.size),.bool (vV (s.extract i s.size) ⟨#[37,37]⟩),_] H (aC (Z0 rfl (Rm rfl)) (Z1 0 6 rfl (Rk rfl)) (Z1 1 7 rfl (Rf yM rfl)) (Z1 2 8 rfl (Ro iR 0 rfl)) (aC (Z0 rfl (Rm rfl)) (Z1 4 10 rfl (Rk rfl)) (Z1 5 11 rfl (Rf rZ rfl)) (Z1 6 12 rfl (Ro aG 0 rfl)) (bP ?_ (bP ?_ (bP (Z1 9 15 rfl (Ra rfl)) dH))))) ?_
  · refine dO 3 9 7 13 rfl rfl fun _ a w G1 hG HT H fin=>?_;refine Yy i iT H wn rfl rfl rfl (by omega) rfl ?_;clear H;intro a H;exact dZ
  · refine eY 8 14 rfl rfl fun _ a w G1 hG HT H fin=>?_;refine s_call U8 H wn rfl (Wm _ _ H.ro _ _ hex (by decide)) rfl ?_;clear H;rintro v15 Df a w ⟨rfl,rfl⟩ DL H;exact fin H DL (rfl)
  clear H;intro a w G jy H hv;have H:=H.aN (hv 10 5 rfl rfl) rfl;clear hv;refine aB ⟨rfl,?_⟩;refine K1 _ _ ?_;clear K1;refine jr H rfl ?_ ?_
  · intro h5
    try have p5:=dT h5
    refine kP H (SR fun _ K2=>Rm rfl (Rk rfl (Rf MF rfl ?_)));clear H;intro a H;refine iE aco (Li:=[]) (L:=iP b s i p (.slice A lit.length c) (.slice B parts.length d) pl e :: Lt) H wn rfl (by subst uo;exact ahL _ Lp Lo _ b s i p _ B parts.length d pl e lit.length _ 37 hR.ptr (Hp.owns (Li:=[]) H.hp) hR.buf (by omega)) rfl ?_;clear H;rintro v19 _ L19 a w ⟨azC,F6,rfl,zR,rfl⟩ tu H;dsimp only [List.nil_append] at H;obtain ⟨I4,c19,rfl,-,-⟩:=zR.shape;refine K2 _ _ ?_;clear K2;refine kP H (SC (Rm rfl (Rk rfl (bO rZ aG 0 rfl rfl (Rd rfl (Rk rfl (Rf rZ rfl ?_)))))));clear H;intro a H;refine bK aG 0 (vs:=[_]) H wn rfl ?_;clear H;intro w H;refine aB ?_;refine (leave0 H results272 ?_).2;exact H.hp.gT ⟨_,_,_,Lp,F6,by rw [yg,aD h5];rfl,by rw [yg,aD h5];exact ⟨.inr rfl,by simpa [Lib.byteCells] using zR,hR.prt⟩⟩
  intro h5
  try have p5:=dF h5
  refine kP H (SR fun _ K3=>Rm rfl (Rm rfl (Rk rfl (bO rZ aG 0 rfl rfl (Rd rfl ?_)))));clear H;intro a H;rw [show ((i:Int)+1)=((i+1:Nat):Int) from rfl] at H;refine iE acp (Li:=[]) (L:=iP b s i p (.slice A lit.length c) (.slice B parts.length d) pl e :: Lt) H wn rfl (abK _ Lt _ b s i p _ _ pl e (i+1) (by omega) (Hp.owns (Li:=[]) H.hp)) rfl ?_;clear H;rintro v34 _ L34 a w ⟨rfl,rfl,rfl⟩ Kl H;dsimp only [List.nil_append] at H;refine kH H (aj K3 rfl (Cd rfl ?_ ?_)) <;> clear H K3
  · intro h27 a H
    try have p27:=dT h27
    have hd1:=abJ h27;refine bR (fun _ K4=>?_);refine dI hmx [[],[],[1],[1,2],[1,2,3],[],[5],[5,6],[5,6,7],ra 5 4,ra 1 9,ra 0 11] [11] (by kernel_rfl) [_,_,_,_,.string s,_,_,_,vi i,_,.int .u8 (ig s (i+1))] H (aC (Z0 rfl (Rm rfl)) (Z0 rfl (Rm rfl)) (Z1 1 36 rfl (Rk rfl)) (Z1 2 37 rfl (Rf yM rfl)) (aC (Z1 3 38 rfl (Ro iR 0 rfl)) (Z0 rfl (Rm rfl)) (Z1 5 40 rfl (Rk rfl)) (Z1 6 41 rfl (Rf rZ rfl)) (aC (Z1 7 42 rfl (Ro aG 0 rfl)) (Z1 8 43 rfl (Rd rfl)) ?_ (bU rfl) dH))) ?_
    · refine dO 4 39 9 44 rfl rfl fun _ a w G1 hG HT H fin=>?_;refine qK (i+1) iT H wn rfl rfl rfl hd1.1 rfl ?_;clear H;intro a H;rw [<- mY] at H;exact dZ
    clear H;intro a w G oz H hv;have H:=H.aN (hv 0 35 rfl rfl) rfl;have H:=H.aN (hv 10 45 rfl rfl) rfl;clear hv;refine iE acr (Li:=[]) (L:=iP b s i p (.slice A lit.length c) (.slice B parts.length d) pl e :: Lt) H wn rfl (by subst uo;exact afV _ Lp Lo _ b s i p _ _ pl e lit parts (ig s (i+1)) false hR (Hp.owns (Li:=[]) H.hp) (by omega) (by omega) hd1.2 (by omega)) rfl ?_;clear H;rintro v46 Zx L46 a w ⟨p46,axG,q46,TB,TA,rfl,Hw⟩ adW H;dsimp only [List.nil_append] at H;obtain ⟨A46,c46,rfl,-,-⟩:=Hw.buf.shape;obtain ⟨B46,d46,rfl,-,-⟩:=Hw.prt.shape;refine aB ⟨rfl,?_⟩;refine K4 _ _ ?_;clear K4;refine kP H (SC (Rm rfl (Rk rfl (bO rZ aG 0 rfl rfl (Rd rfl (Rk rfl (Rf rZ rfl ?_)))))));clear H;intro a H;refine bK aG 0 (vs:=[_]) H wn rfl ?_;clear H;intro w H;refine aB ?_;refine (leave0 H results272 ?_).2;exact H.hp.gT ⟨_,_,_,TB,TA,by rw [yg,av (by simp [h5]),aD h27];rfl,by rw [yg,av (by simp [h5]),aD h27];exact Hw⟩
  intro h27 a H
  try have p27:=dF h27
  refine bR (fun _ K5=>?_)
  by_cases c1:vV (s.extract i s.size) ⟨#[37,100]⟩=true
  · skip;refine dI hmx [[],[0],[0,1],[0,1,2],[],[4],[4,5],[4,5,6],ra 0 8,ra 0 9,ra 0 10,ra 0 11,ra 0 11,(ra 0 11++[12]),(ra 0 11++[12,13]),(ra 0 11++[12,13,14]),(ra 0 11++ra 12 4),ra 0 17,ra 0 18,ra 0 19] [] (by kernel_rfl) [_,_,_,.string s,_,_,_,vi i,.string (s.extract i s.size),.bool (vV (s.extract i s.size) ⟨#[37,100]⟩),.bool (decide (vV (s.extract i s.size) ⟨#[37,100]⟩=true)),_,_,(aK b 0),_,vi i,vi ((i+2:Nat):Int),.bool (yH s (i+2)),_,_] H (aC (Z0 rfl (Rm rfl)) (Z1 0 55 rfl (Rk rfl)) (Z1 1 56 rfl (Rf yM rfl)) (Z1 2 57 rfl (Ro iR 0 rfl)) (aC (Z0 rfl (Rm rfl)) (Z1 4 59 rfl (Rk rfl)) (Z1 5 60 rfl (Rf rZ rfl)) (Z1 6 61 rfl (Ro aG 0 rfl)) (aC ?_ ?_ ?_ (Z1 10 65 rfl (YM (aH c1) rfl)) (aC (Z1 10 65 rfl (YM (aH c1) rfl)) ?_ (Z2 13 68 10 65 rfl (YF rZ (aH c1) rfl)) (Z2 14 69 10 65 rfl (YO aG 0 (aH c1) rfl)) (aC ?_ ?_ (Z2 10 65 17 72 rfl (Pt (aH c1) rfl)) (Z1 18 73 rfl (Ra rfl)) dH))))) ?_
    · refine dO 3 58 7 62 rfl rfl fun _ a w G1 hG HT H fin=>?_;refine Yy i iT H wn rfl rfl rfl (by omega) rfl ?_;clear H;intro a H;exact dZ
    · refine eY 8 63 rfl rfl fun _ a w G1 hG HT H fin=>?_;refine s_call U8 H wn rfl (Wm _ _ H.ro _ _ hex (by decide)) rfl ?_;clear H;rintro v64 G64 a w ⟨rfl,rfl⟩ V5 H;exact fin H V5 (rfl)
    · refine eY 9 64 rfl rfl fun _ a w G1 hG HT H fin=>?_;refine kH H (Rm rfl ?_);clear H;intro a H;exact TS
    · refine dO 12 67 10 65 rfl rfl fun _ a w G1 hG HT H fin=>?_;refine wo H (wg H rfl rfl (aH c1)) rfl rfl ?_;clear H;intro a H;exact dZ
    · refine dO 15 70 10 65 rfl rfl fun _ a w G1 hG HT H fin=>?_;refine NV _ H (wg H rfl rfl (aH c1)) rfl rfl rfl (by omega) (by omega) rfl ?_;clear H;intro a H;exact dZ
    · refine zy 11 66 16 71 10 65 rfl rfl fun _ a w G1 hG HT H fin=>?_;refine iE acp (Li:=[]) (L:=iP b s i p (.slice A lit.length c) (.slice B parts.length d) pl e :: Lt) H (wg H rfl rfl (aH c1)) rfl (abK _ Lt _ b s i p _ _ pl e (i+2) (by omega) (Hp.owns (Li:=[]) H.hp)) rfl ?_;clear H;rintro v72 G72 L72 a w ⟨rfl,rfl,rfl⟩ apr H;dsimp only [List.nil_append] at H;exact fin H apr (rfl)
    clear H;intro a w G J5 H hv;have H:=H.aN (hv 19 54 rfl rfl) rfl;clear hv;refine aB ⟨rfl,?_⟩;refine K5 _ _ ?_;clear K5;refine jr H rfl ?_ ?_
    · intro iL
      try have p54:=dT iL
      have hd2:=abJ iL;refine bR (fun _ K6=>?_);refine dI hmx [[],[],[1],[1,2],[1,2,3],[],[5],[5,6],[5,6,7],ra 5 4,ra 1 9,ra 0 11] [11] (by kernel_rfl) [_,_,_,_,.string s,_,_,_,vi i,_,.int .u8 (ig s (i+2))] H (aC (Z0 rfl (Rm rfl)) (Z0 rfl (Rm rfl)) (Z1 1 75 rfl (Rk rfl)) (Z1 2 76 rfl (Rf yM rfl)) (aC (Z1 3 77 rfl (Ro iR 0 rfl)) (Z0 rfl (Rm rfl)) (Z1 5 79 rfl (Rk rfl)) (Z1 6 80 rfl (Rf rZ rfl)) (aC (Z1 7 81 rfl (Ro aG 0 rfl)) (Z1 8 82 rfl (Rd rfl)) ?_ (bU rfl) dH))) ?_
      · refine dO 4 78 9 83 rfl rfl fun _ a w G1 hG HT H fin=>?_;refine qK (i+2) iT H wn rfl rfl rfl hd2.1 rfl ?_;clear H;intro a H;rw [<- mY] at H;exact dZ
      clear H;intro a w G qy H hv;have H:=H.aN (hv 0 74 rfl rfl) rfl;have H:=H.aN (hv 10 84 rfl rfl) rfl;clear hv;refine iE acr (Li:=[]) (L:=iP b s i p (.slice A lit.length c) (.slice B parts.length d) pl e :: Lt) H wn rfl (by subst uo;exact afV _ Lp Lo _ b s i p _ _ pl e lit parts (ig s (i+2)) true hR (Hp.owns (Li:=[]) H.hp) (by omega) (by omega) hd2.2 (by omega)) rfl ?_;clear H;rintro v85 G85 L85 a w ⟨p46,axG,q46,TB,TA,rfl,Hw⟩ azc H;dsimp only [List.nil_append] at H;obtain ⟨A46,c46,rfl,-,-⟩:=Hw.buf.shape;obtain ⟨B46,d46,rfl,-,-⟩:=Hw.prt.shape;refine aB ⟨rfl,?_⟩;refine K6 _ _ ?_;clear K6;refine kP H (SC (Rm rfl (Rk rfl (bO rZ aG 0 rfl rfl (Rd rfl (Rk rfl (Rf rZ rfl ?_)))))));clear H;intro a H;refine bK aG 0 (vs:=[_]) H wn rfl ?_;clear H;intro w H;refine aB ?_;refine (leave0 H results272 ?_).2
      have Kw:¬ vV (s.extract i s.size) ⟨#[37,37]⟩=true:=by simp [h5]
      have Kv:¬ yH s (i+1)=true:=by simp [h27]
      exact TV
    intro iL
    try have p54:=dF iL
    refine kP H (SC (Rm rfl (Rk rfl (Rf Ci rfl ?_))));clear H;intro a H;refine bK iQ 0 (vs:=[_]) H wn rfl ?_;clear H;intro w H;refine aB ?_;refine (leave0 H results272 ?_).2
    have Kw:¬ vV (s.extract i s.size) ⟨#[37,37]⟩=true:=by simp [h5]
    have Kv:¬ yH s (i+1)=true:=by simp [h27]
    exact TV
  skip;refine dI hmx [[],[0],[0,1],[0,1,2],[],[4],[4,5],[4,5,6],ra 0 8,ra 0 9,ra 0 10,ra 0 11,ra 0 11,(ra 0 11++[12]),(ra 0 11++[12,13]),(ra 0 11++[12,13,14]),(ra 0 11++ra 12 4),ra 0 17,ra 0 18,ra 0 19] [] (by kernel_rfl) [_,_,_,.string s,_,_,_,vi i,.string (s.extract i s.size),.bool (vV (s.extract i s.size) ⟨#[37,100]⟩),.bool (decide (vV (s.extract i s.size) ⟨#[37,100]⟩=true)),undef,undef,undef,undef,undef,undef,undef,_,_] H (aC (Z0 rfl (Rm rfl)) (Z1 0 55 rfl (Rk rfl)) (Z1 1 56 rfl (Rf yM rfl)) (Z1 2 57 rfl (Ro iR 0 rfl)) (aC (Z0 rfl (Rm rfl)) (Z1 4 59 rfl (Rk rfl)) (Z1 5 60 rfl (Rf rZ rfl)) (Z1 6 61 rfl (Ro aG 0 rfl)) (aC ?_ ?_ ?_ (aZ 10 (aY c1) rfl rfl) (aC (aZ 10 (aY c1) rfl rfl) (aZ 10 (aY c1) rfl rfl) (aZ 10 (aY c1) rfl rfl) (aZ 10 (aY c1) rfl rfl) (aC (aZ 10 (aY c1) rfl rfl) (aZ 10 (aY c1) rfl rfl) (Z2 10 65 17 72 rfl (Pf (aY c1) rfl)) (Z1 18 73 rfl (Ra rfl)) dH))))) ?_
  · refine dO 3 58 7 62 rfl rfl fun _ a w G1 hG HT H fin=>?_;refine Yy i iT H wn rfl rfl rfl (by omega) rfl ?_;clear H;intro a H;exact dZ
  · refine eY 8 63 rfl rfl fun _ a w G1 hG HT H fin=>?_;refine s_call U8 H wn rfl (Wm _ _ H.ro _ _ hex (by decide)) rfl ?_;clear H;rintro v64 G64 a w ⟨rfl,rfl⟩ V5 H;exact fin H V5 (rfl)
  · refine eY 9 64 rfl rfl fun _ a w G1 hG HT H fin=>?_;refine kH H (Rm rfl ?_);clear H;intro a H;exact TS
  clear H;intro a w G J5 H hv;have H:=H.aN (hv 19 54 rfl rfl) rfl;clear hv;refine aB ⟨rfl,?_⟩;refine K5 _ _ ?_;clear K5;refine sS H rfl rfl ?_;refine kP H (SC (Rm rfl (Rk rfl (Rf Ci rfl ?_))));clear H;intro a H;refine bK iQ 0 (vs:=[_]) H wn rfl ?_;clear H;intro w H;refine aB ?_;refine (leave0 H results272 ?_).2
  have Kw:¬ vV (s.extract i s.size) ⟨#[37,37]⟩=true:=by simp [h5]
  have Kv:¬ yH s (i+1)=true:=by simp [h27]
  exact TV
theorem amV:aQ 272:=aR func272 rfl
def Pb (s:ByteArray) (i:Nat):UInt8:=if h:i < s.size then s[i] else 0
theorem aiM (s:ByteArray) (i:Nat):ig s i=((Pb s i).toNat:Int):=by
 unfold ig Pb;split <;> rfl
def qB (s:ByteArray) (x:wC):wC:=if ig s x.i=37 then yg s x else ⟨x.i+1,x.lit++[Pb s x.i],x.parts,x.pl,x.e⟩
def Ei (s:ByteArray):Nat->wC->wC
 | 0,x=>x
 | f+1,x=>if x.i < s.size∧x.e=0 then Ei s f (qB s x) else x
def mS (s:ByteArray) (x:wC):Nat:=if x.e=0 then s.size - x.i else 0
theorem agQ {s:ByteArray} {f:Nat} {x:wC} (h:¬ (x.i < s.size∧x.e=0)):Ei s f x=x:=by
 cases f with
 | zero=>rfl
 | succ f=>rw [Ei,av h]
theorem aoJ (lit:List UInt8) (parts:List jQ):(yO lit parts).length<=parts.length+1:=by unfold yO;split <;> simp
theorem ahg (s:ByteArray) (x:wC) (h:x.i < s.size∧x.e=0) (h1:x.lit.length<=x.i) (h2:x.parts.length<=2*x.i) (h3:x.pl<=x.i) :
  (qB s x).i<=x.i+3∧(qB s x).lit.length<=(qB s x).i∧(qB s x).parts.length<=2*(qB s x).i∧(qB s x).pl<=(qB s x).i∧mS s (qB s x) < mS s x∧mS s x<=s.size:=by
 have hf:=aoJ x.lit x.parts;have hm:mS s x=s.size - x.i:=aD h.2
 unfold qB yg
 split
 ·split
  ·refine ⟨?_,?_,?_,?_,?_,?_⟩ <;> simp only [mS,jM,lg,List.length_nil] at*<;> simp only [h.2,if_true] at*<;> omega
  split
  ·refine ⟨?_,?_,?_,?_,?_,?_⟩ <;> simp only [mS,jM,lg,List.length_nil] at*<;> simp only [h.2,if_true] at*<;> omega
  split
  ·refine ⟨?_,?_,?_,?_,?_,?_⟩ <;> simp only [mS,jM,lg,List.length_nil] at*<;> simp only [h.2,if_true] at*<;> omega
  refine ⟨?_,?_,?_,?_,?_,?_⟩ <;> simp only [mS,jM,lg,List.length_nil] at*<;> simp only [h.2,if_true] at*<;> (try omega) <;> (simp;omega)
 refine ⟨?_,?_,?_,?_,?_,?_⟩ <;> simp only [mS,jM,lg,List.length_nil] at*<;> simp only [h.2,if_true] at*<;> omega
def CV:wC:=⟨0,[],[],0,0⟩
def mq (s:ByteArray):wC:=Ei s s.size CV
def KT (x:wC):Int:=if x.e=0∧9 < (x.pl:Int) then 9 else x.e
theorem Jq {p:Prop} (h:p:=by
 first
  | exact H.hp.gT ⟨_,_,_,_,_,by rw [KT,aD ⟨by assumption,by assumption⟩],Hy⟩
  | exact H.hp.gT ⟨_,_,_,_,_,by rw [KT,av (by first|exact fun h=>p58 h.1|exact fun h=>p64 h.2)],Hy⟩):p:=h
set_option maxHeartbeats 1000000 in
theorem awg (G:GH) (OX OW:OL) (w0:World) (b:Nat) (s:ByteArray) (p0 v0 q0:ah) (hR:BO b [] [] p0 v0 q0 OX OW) (hO:gY G (yj b s CV p0 v0 q0 :: (OX++OW)) w0) (hs:s.size<=1073741824) :
  Calls prog 266 #[(aK b 0)] w0 (gF w0 G (yj b s CV p0 v0 q0 :: (OX++OW)) fun u G' L'=>∃ p' v' q' sO mE,L'=iP b s (mq s).i p' v' q' (mq s).pl (KT (mq s)) :: (sO++mE)∧BO b [] (yO (mq s).lit (mq s).parts) p' v' q' sO mE):=by
 obtain ⟨A0,c0,rfl,-,-⟩:=hR.buf.shape;obtain ⟨B0,d0,rfl,-,-⟩:=hR.prt.shape;refine jD (N:=68) (T:=[(0,_)]) func266 rfl ntmps266 rfl rfl hO ?_;intro a H;refine bR (fun _ K1=>?_);refine EJ ?_;skip;refine fF (ι:=Nat × wC × ah × Option Addr × Nat × Option Addr × Nat × OL × OL × GH) (Tc:=[(0,_)]) (Lc:=[]) (fun gh=>[]) (fun gh=>[yj b s gh.2.1 gh.2.2.1 (.slice gh.2.2.2.1 gh.2.1.lit.length gh.2.2.2.2.1) (.slice gh.2.2.2.2.2.1 gh.2.1.parts.length gh.2.2.2.2.2.2.1)]++(gh.2.2.2.2.2.2.2.1++gh.2.2.2.2.2.2.2.2.1)) (fun gh=>gh.2.2.2.2.2.2.2.2.2) (fun gh=>BO b gh.2.1.lit gh.2.1.parts gh.2.2.1 (.slice gh.2.2.2.1 gh.2.1.lit.length gh.2.2.2.2.1) (.slice gh.2.2.2.2.2.1 gh.2.1.parts.length gh.2.2.2.2.2.2.1) gh.2.2.2.2.2.2.2.1 gh.2.2.2.2.2.2.2.2.1∧Ei s gh.1 gh.2.1=mq s∧mS s gh.2.1<=gh.1∧gh.1<=s.size∧gh.2.1.i<=s.size+3∧gh.2.1.lit.length<=gh.2.1.i∧gh.2.1.parts.length<=2*gh.2.1.i∧gh.2.1.pl<=gh.2.1.i) (fun gh=>gh.1) ((s.size,CV,p0,A0,c0,B0,d0,OX,OW,G)) (by exact H.sub ⟨rfl,ay⟩) ?_ ?_
 ·exact ⟨hR,rfl,by simp [mS,CV],eP _,by simp [CV],by simp [CV],by simp [CV],by simp [CV]⟩
 clear H;rintro ⟨k,x,p,vA,vc,qA,qc,Lp,Lo,g⟩ a w hI H;dsimp only at hI H;obtain ⟨hR,hsc,hmk,hks,hxi,hx1,hx2,hx3⟩:=hI;dsimp only [lca,bM] at H;refine bR (fun _ K2=>?_);refine bR (fun _ K3=>?_)
 by_cases c0:(x.i:Int) < (s.size:Int)
 ·skip
  by_cases c1:x.e=0
  ·skip;refine dI hmx [[],[0],[0,1],[0,1,2],[],[4],[4,5],[4,5,6],ra 4 4,ra 0 9,ra 0 10,ra 0 11,ra 0 12,ra 0 13,ra 0 14,ra 0 15,ra 0 16] [] (by kernel_rfl) [_,_,_,vi x.i,_,_,_,.string s,_,_,_,_,(aK b 0),_,vi x.e,_,_] H (aC (Z0 rfl (Rm rfl)) (Z1 0 2 rfl (Rk rfl)) (Z1 1 3 rfl (Rf rZ rfl)) (Z1 2 4 rfl (Ro aG 0 rfl)) (aC (Z0 rfl (Rm rfl)) (Z1 4 6 rfl (Rk rfl)) (Z1 5 7 rfl (Rf yM rfl)) (Z1 6 8 rfl (Ro iR 0 rfl)) (aC (Z1 7 9 rfl (Rv iT rfl)) (Z2 3 5 8 10 rfl (Rc rfl)) (Z1 9 11 rfl (Rm rfl)) (Z1 10 12 rfl (YM (aH c0) rfl)) (aC ?_ (Z2 12 14 10 12 rfl (YF Ci (aH c0) rfl)) (Z2 13 15 10 12 rfl (YO iQ 0 (aH c0) rfl)) (Z2 14 16 10 12 rfl (YC (aH c0) rfl)) (bP (Z2 10 12 15 17 rfl (Pt (aH c0) rfl)) dH))))) ?_
   ·refine dO 11 13 10 12 rfl rfl fun _ a w G1 hG HT H fin=>?_;refine wo H (wg H rfl rfl (aH c0)) rfl rfl ?_;clear H;intro a H;exact dZ
   clear H;intro a w G adn H hv;have H:=H.aN (hv 16 18 rfl rfl) rfl;clear hv;refine aB ⟨rfl,?_⟩;refine K3 _ _ ?_;clear K3;refine Ce H rfl (aH c1) ?_;refine kP H (Kc K2 (SB (SQ fun _ K4=>SQ fun _ K5=>?_)));clear H K2;intro a H;refine dI hmx [[],[0],[0,1],[0,1,2],[],[4],[4,5],[4,5,6],ra 0 8,ra 0 9] [] (by kernel_rfl) [_,_,_,.string s,_,_,_,vi x.i,.int .u8 (ig s x.i),_] H (aC (Z0 rfl (Rm rfl)) (Z1 0 19 rfl (Rk rfl)) (Z1 1 20 rfl (Rf yM rfl)) (Z1 2 21 rfl (Ro iR 0 rfl)) (aC (Z0 rfl (Rm rfl)) (Z1 4 23 rfl (Rk rfl)) (Z1 5 24 rfl (Rf rZ rfl)) (Z1 6 25 rfl (Ro aG 0 rfl)) (bP ?_ (bP (Z1 8 27 rfl (Rc rfl)) dH)))) ?_
   ·refine dO 3 22 7 26 rfl rfl fun _ a w G1 hG HT H fin=>?_;refine qK x.i iT H wn rfl rfl rfl (by omega) rfl ?_;clear H;intro a H;rw [<- mY] at H;exact dZ
   clear H;intro a w G jy H hv;have H:=H.aN (hv 9 28 rfl rfl) rfl;clear hv;refine aB ⟨rfl,?_⟩;refine K5 _ _ ?_;clear K5;refine jr H rfl ?_ ?_
   ·intro gD
    try have p28:=dT gD
    refine kP H (SR fun _ K6=>Rm rfl ?_);clear H;intro a H;refine iE amV (Li:=[]) (L:=yj b s x p (.slice vA x.lit.length vc) (.slice qA x.parts.length qc) :: (Lp++Lo)) H wn rfl (auf _ Lp Lo _ b s x p _ _ hR (Hp.owns (Li:=[]) H.hp) (by omega) (by omega) (by omega) (by omega) (by omega)) rfl ?_;clear H;rintro v30 BG L30 a w ⟨p',v',q',sO,mE,rfl,Qp⟩ E9 H;dsimp only [List.nil_append] at H;have hst:qB s x=yg s x:=aD p28;have hok:=ahg s x ⟨by omega,c1⟩ hx1 hx2 hx3
    have hkk:k=(k - 1)+1:=by omega
    have Xc:Ei s (k - 1) (qB s x)=mq s:=by rw [hkk,Ei,aD ⟨by omega,c1⟩] at hsc;exact hsc
    rw [<- hst] at H Qp;obtain ⟨A30,c30,rfl,-,-⟩:=Qp.buf.shape;obtain ⟨B30,d30,rfl,-,-⟩:=Qp.prt.shape;refine K6 _ _ ?_;clear K6;refine eu ?_;refine dJ ((k - 1,qB s x,p',A30,c30,B30,d30,sO,mE,BG)) (by exact H.sub ⟨rfl,ay⟩) ?_
    (try dsimp only);exact ⟨Qp,Xc,by omega,by omega,by omega,by omega,by omega,by omega⟩
   intro gD
   try have p28:=dF gD
   refine iG ?_;refine K4 _ _ ?_;clear K4;refine bR (fun _ K7=>?_);refine dI hmx [[],[0],[0,1],[],[3],[3,4],[3,4,5],[],[7],[7,8],[7,8,9],ra 3 8,ra 0 12] [12] (by kernel_rfl) [_,_,_,_,_,_,.string s,_,_,_,vi x.i,.int .u8 (ig s x.i)] H (aC (Z0 rfl (Rm rfl)) (Z1 0 31 rfl (Rk rfl)) (Z1 1 32 rfl (Rf MF rfl)) (Z0 rfl (Rm rfl)) (aC (Z1 3 34 rfl (Rk rfl)) (Z1 4 35 rfl (Rf yM rfl)) (Z1 5 36 rfl (Ro iR 0 rfl)) (Z0 rfl (Rm rfl)) (aC (Z1 7 38 rfl (Rk rfl)) (Z1 8 39 rfl (Rf rZ rfl)) (Z1 9 40 rfl (Ro aG 0 rfl)) ?_ (bP (bU rfl) dH)))) ?_
   ·refine dO 6 37 10 41 rfl rfl fun _ a w G1 hG HT H fin=>?_;refine qK x.i iT H wn rfl rfl rfl (by omega) rfl ?_;clear H;intro a H;rw [<- mY] at H;exact dZ
   clear H;intro a w G wP H hv;have H:=H.aN (hv 2 33 rfl rfl) rfl;have H:=H.aN (hv 11 42 rfl rfl) rfl;clear hv;refine iE aco (Li:=[]) (L:=yj b s x p (.slice vA x.lit.length vc) (.slice qA x.parts.length qc) :: (Lp++Lo)) H wn rfl (ahL _ Lp Lo _ b s x.i p _ qA x.parts.length qc x.pl x.e x.lit.length _ (ig s x.i) hR.ptr (Hp.owns (Li:=[]) H.hp) hR.buf (by omega)) rfl ?_;clear H;rintro v43 _ L43 a w ⟨azD,Tz,rfl,aeD,rfl⟩ DY H;dsimp only [List.nil_append] at H;obtain ⟨Td,Ul,rfl,-,-⟩:=aeD.shape;have hst:qB s x=⟨x.i+1,x.lit++[Pb s x.i],x.parts,x.pl,x.e⟩:=av p28;have hok:=ahg s x ⟨by omega,c1⟩ hx1 hx2 hx3
   have hkk:k=(k - 1)+1:=by omega
   have Xc:Ei s (k - 1) (qB s x)=mq s:=by rw [hkk,Ei,aD ⟨by omega,c1⟩] at hsc;exact hsc
   have apI:BO b (qB s x).lit (qB s x).parts (aK b 2) (.slice Td (qB s x).lit.length Ul) (.slice qA (qB s x).parts.length qc) Lp Tz:=by
    rw [hst];exact ⟨.inr rfl,by simpa [Lib.byteCells,aiM] using aeD,hR.prt⟩
   refine aB ⟨rfl,?_⟩;refine K7 _ _ ?_;clear K7;refine kP H (SC (Rm rfl (Rk rfl (bO rZ aG 0 rfl rfl (Rd rfl (Rk rfl (Rf rZ rfl ?_)))))));clear H;intro a H;refine bK aG 0 (vs:=[_]) H wn rfl ?_;clear H;intro w H;replace H:St _ _ _ _ _ _ (yj b s (qB s x) (aK b 2) (.slice Td (qB s x).lit.length Ul) (.slice qA (qB s x).parts.length qc) :: (Lp++Tz)) _ _ _:=H.cast (by rw [hst];simp [yj,iP]);refine aB ?_;refine dJ ((k - 1,qB s x,(aK b 2),Td,Ul,qA,qc,Lp,Tz,_)) (by exact H.sub ⟨rfl,ay⟩) ?_
   (try dsimp only);exact ⟨apI,Xc,by omega,by omega,by omega,by omega,by omega,by omega⟩
  skip;refine dI hmx [[],[0],[0,1],[0,1,2],[],[4],[4,5],[4,5,6],ra 4 4,ra 0 9,ra 0 10,ra 0 11,ra 0 12,ra 0 13,ra 0 14,ra 0 15,ra 0 16] [] (by kernel_rfl) [_,_,_,vi x.i,_,_,_,.string s,_,_,_,_,(aK b 0),_,vi x.e,_,_] H (aC (Z0 rfl (Rm rfl)) (Z1 0 2 rfl (Rk rfl)) (Z1 1 3 rfl (Rf rZ rfl)) (Z1 2 4 rfl (Ro aG 0 rfl)) (aC (Z0 rfl (Rm rfl)) (Z1 4 6 rfl (Rk rfl)) (Z1 5 7 rfl (Rf yM rfl)) (Z1 6 8 rfl (Ro iR 0 rfl)) (aC (Z1 7 9 rfl (Rv iT rfl)) (Z2 3 5 8 10 rfl (Rc rfl)) (Z1 9 11 rfl (Rm rfl)) (Z1 10 12 rfl (YM (aH c0) rfl)) (aC ?_ (Z2 12 14 10 12 rfl (YF Ci (aH c0) rfl)) (Z2 13 15 10 12 rfl (YO iQ 0 (aH c0) rfl)) (Z2 14 16 10 12 rfl (YC (aH c0) rfl)) (bP (Z2 10 12 15 17 rfl (Pt (aH c0) rfl)) dH))))) ?_
  ·refine dO 11 13 10 12 rfl rfl fun _ a w G1 hG HT H fin=>?_;refine wo H (wg H rfl rfl (aH c0)) rfl rfl ?_;clear H;intro a H;exact dZ
  clear H;intro a w G adn H hv;have H:=H.aN (hv 16 18 rfl rfl) rfl;clear hv;refine aB ⟨rfl,?_⟩;refine K3 _ _ ?_;clear K3;refine sS H rfl (aY c1) ?_;refine eu ?_;refine K1 _ _ ?_;clear K1;refine bR (fun _ K8=>?_)
  have Xl:x=mq s:=by
   rw [agQ (by first|exact fun h=>c0 (by omega)|exact fun h=>c1 h.2)] at hsc;exact hsc
  subst Xl;refine kP H (SC (Rm rfl ?_));clear H;intro a H;refine iE U7 (Li:=[]) (L:=yj b s (mq s) p (.slice vA (mq s).lit.length vc) (.slice qA (mq s).parts.length qc) :: (Lp++Lo)) H wn rfl (Vs _ Lp Lo _ b s (mq s).i p _ _ (mq s).pl (mq s).e (mq s).lit (mq s).parts hR (Hp.owns (Li:=[]) H.hp) (by omega) (by omega)) rfl ?_;clear H;rintro v52 Zz L52 a w ⟨p52,axH,q52,aiv,air,rfl,Hy⟩ aqN H;dsimp only [List.nil_append] at H;obtain ⟨I5,Jy,rfl,-,-⟩:=Hy.buf.shape;obtain ⟨B52,d52,rfl,-,-⟩:=Hy.prt.shape;refine kH H (Kn K8 (SR fun _ K9=>Rm rfl (Rk rfl (bO Ci iQ 0 rfl rfl (Rc rfl (Rm rfl (Sp 58 rfl ?_ ?_))))))) <;> clear H K8
  ·intro mg a H
   try have p58:=dT mg
   refine kH H (YM mg rfl ?_);clear H;intro a H;refine wo H (wg H rfl rfl mg) rfl rfl ?_;clear H;intro a H;refine kH H (YF Qc mg rfl (YO aG 0 mg rfl (YC mg rfl (Pt mg rfl (Kz K9 (Cd rfl ?_ ?_)))))) <;> clear H K9
   ·intro h64 a H
    try have p64:=dT h64
    refine kP H (SC (Rm rfl (Rk rfl (Rf Ci rfl ?_))));clear H;intro a H;refine bK iQ 0 (vs:=[_]) H wn rfl ?_;clear H;intro w H;refine aB ?_;refine (leave0 H results266 ?_).2
    exact Jq
   intro h64 a H
   try have p64:=dF h64
   refine iG ?_;refine (leave0 H results266 ?_).2
   exact Jq
  intro mg a H
  try have p58:=dF mg
  refine kH H (aM mg rfl (aJ mg rfl (Pf mg rfl (Kz K9 (Cf rfl rfl ?_)))));clear H K9;intro a H;refine iG ?_;refine (leave0 H results266 ?_).2
  exact Jq
 skip;refine dI hmx [[],[0],[0,1],[0,1,2],[],[4],[4,5],[4,5,6],ra 4 4,ra 0 9,ra 0 10,ra 0 11,ra 0 12,ra 0 13,ra 0 14,ra 0 15,ra 0 16] [] (by kernel_rfl) [_,_,_,vi x.i,_,_,_,.string s,_,_,_,undef,undef,undef,undef,undef,_] H (aC (Z0 rfl (Rm rfl)) (Z1 0 2 rfl (Rk rfl)) (Z1 1 3 rfl (Rf rZ rfl)) (Z1 2 4 rfl (Ro aG 0 rfl)) (aC (Z0 rfl (Rm rfl)) (Z1 4 6 rfl (Rk rfl)) (Z1 5 7 rfl (Rf yM rfl)) (Z1 6 8 rfl (Ro iR 0 rfl)) (aC (Z1 7 9 rfl (Rv iT rfl)) (Z2 3 5 8 10 rfl (Rc rfl)) (Z1 9 11 rfl (Rm rfl)) (aZ 10 (aY c0) rfl rfl) (aC (aZ 10 (aY c0) rfl rfl) (aZ 10 (aY c0) rfl rfl) (aZ 10 (aY c0) rfl rfl) (aZ 10 (aY c0) rfl rfl) (bP (Z2 10 12 15 17 rfl (Pf (aY c0) rfl)) dH))))) ?_
 clear H;intro a w G adn H hv;have H:=H.aN (hv 16 18 rfl rfl) rfl;clear hv;refine aB ⟨rfl,?_⟩;refine K3 _ _ ?_;clear K3;refine sS H rfl rfl ?_;refine eu ?_;refine K1 _ _ ?_;clear K1;refine bR (fun _ aS=>?_)
 have Xl:x=mq s:=by
  rw [agQ (by first|exact fun h=>c0 (by omega)|exact fun h=>c1 h.2)] at hsc;exact hsc
 subst Xl;refine kP H (SC (Rm rfl ?_));clear H;intro a H;refine iE U7 (Li:=[]) (L:=yj b s (mq s) p (.slice vA (mq s).lit.length vc) (.slice qA (mq s).parts.length qc) :: (Lp++Lo)) H wn rfl (Vs _ Lp Lo _ b s (mq s).i p _ _ (mq s).pl (mq s).e (mq s).lit (mq s).parts hR (Hp.owns (Li:=[]) H.hp) (by omega) (by omega)) rfl ?_;clear H;rintro v52 Zz L52 a w ⟨p52,axH,q52,aiv,air,rfl,Hy⟩ aqN H;dsimp only [List.nil_append] at H;obtain ⟨I5,Jy,rfl,-,-⟩:=Hy.buf.shape;obtain ⟨B52,d52,rfl,-,-⟩:=Hy.prt.shape;refine kH H (Kn aS (SR fun _ bH=>Rm rfl (Rk rfl (bO Ci iQ 0 rfl rfl (Rc rfl (Rm rfl (Sp 58 rfl ?_ ?_))))))) <;> clear H aS
 ·intro mg a H
  try have p58:=dT mg
  refine kH H (YM mg rfl ?_);clear H;intro a H;refine wo H (wg H rfl rfl mg) rfl rfl ?_;clear H;intro a H;refine kH H (YF Qc mg rfl (YO aG 0 mg rfl (YC mg rfl (Pt mg rfl (Kz bH (Cd rfl ?_ ?_)))))) <;> clear H bH
  ·intro h64 a H
   try have p64:=dT h64
   refine kP H (SC (Rm rfl (Rk rfl (Rf Ci rfl ?_))));clear H;intro a H;refine bK iQ 0 (vs:=[_]) H wn rfl ?_;clear H;intro w H;refine aB ?_;refine (leave0 H results266 ?_).2
   exact Jq
  intro h64 a H
  try have p64:=dF h64
  refine iG ?_;refine (leave0 H results266 ?_).2
  exact Jq
 intro mg a H
 try have p58:=dF mg
 refine kH H (aM mg rfl (aJ mg rfl (Pf mg rfl (Kz bH (Cf rfl rfl ?_)))));clear H bH;intro a H;refine iG ?_;refine (leave0 H results266 ?_).2
 exact Jq
section
def Bw (c:Int):List Dat:=[.lf (.int .u8 c)]
theorem ahr {G:GH} {c:Int} {cs:List ah} (h:bD G (Bw c) cs):cs=[.int .u8 c]:=by
 simp only [Bw,bD,ak] at h
 obtain ⟨_,_,rfl,⟨rfl,_⟩,rfl⟩:=h
 rfl
def Jw (s:ByteArray):List Int:=s.data.toList.map fun b=>(b.toNat:Int)
theorem aiW (G:GH) (l:List Int):dK G 1 (l.map Bw) (l.map fun c=>Value.int .u8 c):=by
 refine ⟨l.map fun c=>[.int .u8 c],by induction l with|nil=>rfl|cons x r ih=>simp [ih],by simp,fun j r cs hr hc=>?_⟩
 rw [tT] at hr hc
 obtain ⟨x,hx,rfl⟩:=qU.1 hr
 rw [hx] at hc
 cases hc
 exact ⟨by simp only [Bw,bD];exact ⟨_,_,rfl,by simp [ak,Value.oneCell'],rfl⟩,rfl⟩
theorem auO {G:GH} {sz b o n cap:Nat} {cur:Array ah} {e:TypeId} {fz:Nat × Nat} {rows:List (List Dat)} (hb:G b=some (.cells cur e fz)) (h:ak (fun k=>if k=b then some (.cells cur e (0,0)) else G k) (.sl sz rows) (.slice (some ⟨b,o,none⟩) n cap)) (hr:∀ r∈rows,∃ c,r=Bw c):ak G (.sl sz rows) (.slice (some ⟨b,o,none⟩) n cap):=by
 simp only [ak] at h |-
 obtain ⟨A,c,h1,h2,h3,h4⟩:=h
 refine ⟨A,c,h1,h2,h3,fun hn=>?_⟩
 obtain ⟨b',o',e',hrr⟩:=h4 hn
 injection h1 with e1
 subst e1
 injection e' with e2
 injection e2 with e3 e4
 subst e3;subst e4
 refine ⟨_,_,rfl,ou.mk fun k r hk=>?_⟩
 obtain ⟨cs,g1,g2,g3⟩:=hrr.get hk
 refine ⟨cs,g1,fun j u hj=>?_,?_⟩
 ·have:=g2 j u hj
  unfold aI at this |-
  simp only [if_true] at this
  rw [hb];exact this
 ·obtain ⟨c,rfl⟩:=hr r (lV hk)
  have:=ahr g3
  subst this
  simp only [Bw,bD];exact ⟨_,_,rfl,by simp [ak,Value.oneCell'],rfl⟩
section
variable {N:Nat} {D:List Deferred} {w0:World} {F:Nat->Prop} {G0 G:GH} {L:OL} {T:List (Nat × ah)}
variable {r:Option Nat} {P:Program} {ops:Array Oper} {Q:Exit->Act->World->Prop} {rest:List Oper} {a:Act} {w:World}
variable {d:Nat} {ty:TypeId} {pos:String} {aO:Array Edge} {g:Option (Nat × Bool)}
theorem axz {w:World} {b o n:Nat} {c:Array ah} {e:TypeId} {fz:Nat × Nat} (h:w.heap[b]?=some (.cells c e fz)) (hn:n≠0):∃ Hg,wD b (.cells c e Hg) w (w.freeze ⟨b,o,none⟩ n):=by
 unfold World.freeze
 rw [av hn]
 refine ⟨if fz.1 == fz.2 then (o,o+n) else (min fz.1 o,max fz.2 (o+n)),rfl,rfl,rfl,by simp,?_,fun k hk=>?_⟩
 ·simp [Array.getElem?_modify,h]
 ·simp [Array.getElem?_modify,Ne.symm hk]
theorem avG {t u e:TypeId} {x:Operand} {s:ByteArray} (ht:P.underlying t=some .string) (hu:P.underlying u=some (.slice e)) (he:P.underlying e=some (.int .u8)) (H:St N D w0 F G0 G L T a w) (hw:Region.wanted ⟨some d,.convert t u x,ty,pos,aO,g⟩ (yielded ops a.tmps)=true) (hx:ev T x=some (.string s)) (hz:s.size<=4294967296) (hd:Nat.blt d N=true)
  (k:∀ v G' a' w',(∀ k o,G k=some o->G' k=some o)->ak G' (.sl 1 ((Jw s).map Bw)) v->St N D w0 F G0 G' L ((d,v) :: T) a' w'->WL r P ops Q rest a' w'):WL r P ops Q (⟨some d,.convert t u x,ty,pos,aO,g⟩ :: rest) a w:=by
 have hc:=Lib.run_convert_string_bytes (P:=P) w t u e s ht hu he
 have hge:=grownCap_ge w s.size 0 e
 have hml:s.size<=maxLen:=by
  have:maxLen=9223372036854775807:=rfl
  omega
 have hgm:=grownCap_le_maxLen w s.size 0 e hml
 have H1:=H.hp.drew.alloc (.cells (Lib.bytesCells w e s) e)
 have hw1:(w.drew.alloc (.cells (Lib.bytesCells w e s) e)).heap[w.drew.heap.size]?=some (.cells (Lib.bytesCells w e s) e (0,0)):=H1.own _ fE
 obtain ⟨fz,hu2⟩:=axz (o:=(Lib.bytesCells w e s).size) (n:=1) hw1 (by decide)
 have H2:=H1.upd (i:=0) rfl hu2
 have H3:St N D w0 F G0 G ((w.heap.size,.cells (Lib.bytesCells w e s) e fz) :: L) ((d,.slice (some ⟨w.heap.size,0,none⟩) s.size (grownCap w s.size 0 e)) :: T) (a.put (some d) (.slice (some ⟨w.heap.size,0,none⟩) s.size (grownCap w s.size 0 e))) (Lib.bytesWorld w e s):=H.put hd _ H2
 obtain ⟨G',hm,hb,H4⟩:=H3.fO
 have hlen:(Jw s).length=s.size:=by rw [Jw,bQ,vE];rfl
 have hrep:ak G' (.sl 1 ((Jw s).map Bw)) (.slice (some ⟨w.heap.size,0,none⟩) s.size (grownCap w s.size 0 e)):=by
  refine auO hb ?_ (fun r hr=>by obtain ⟨c,-,rfl⟩:=List.mem_map.1 hr;exact ⟨c,rfl⟩)
  refine ak.vZ (cur:=Lib.bytesCells w e s) (e:=e) (n:=s.size) (cap:=grownCap w s.size 0 e) (by simp) (by rw [bQ,hlen]) hge hgm ?_ (aiW _ _)
  rw [Lib.bytesCells,Array.toList_append,Nat.mul_one,List.take_left' (by rw [Array.toList_map,bQ,vE];rfl)]
  simp [Jw]
 have k2:=k _ _ _ _ hm hrep H4
 refine gq (v:=.slice (some ⟨w.heap.size,0,none⟩) s.size (grownCap w s.size 0 e)) (w':=Lib.bytesWorld w e s) hw rfl ?_ k2
 simp only [execOp,H.ev hx,dY,hc,nP,tV]
theorem avM {t yt:TypeId} {x y:Operand} {p q:ByteArray} (H:St N D w0 F G0 G L T a w) (hw:Region.wanted ⟨some d,.binOp .lss t x y yt,ty,pos,aO,g⟩ (yielded ops a.tmps)=true) (hx:ev T x=some (.string p)) (hy:ev T y=some (.string q)) (hd:Nat.blt d N=true)
  (k:∀ a',St N D w0 F G0 G L ((d,.bool (Op.bytesLess p.toList q.toList)) :: T) a' w->WL r P ops Q rest a' w):WL r P ops Q (⟨some d,.binOp .lss t x y yt,ty,pos,aO,g⟩ :: rest) a w:=by
 refine gq (v:=.bool (Op.bytesLess p.toList q.toList)) (w':=w) hw rfl ?_ (k _ (H.put hd _ H.hp))
 simp [execOp,H.ev hx,H.ev hy,dY,eqGuard,binOp,Op.stringOp]
end
end
theorem amU:aQ 271:=aR func271 rfl
theorem amQ:aQ 266:=aR func266 rfl
theorem amO:aQ 264:=aR func264 rfl
theorem awZ:qR prog 340 [(0,1),(1,1),(2,2),(4,1),(5,1),(6,1)] [.string ⟨#[]⟩,.int .i64 0,.pointer none,.slice none 0 0,.slice none 0 0,.int .i64 0,.int .i64 0]:=⟨by kernel_rfl,by kernel_rfl⟩
theorem amR:aQ 267:=aR func267 rfl
theorem aoy:dX prog 318 1 1:=⟨by kernel_rfl⟩
theorem amC:aQ 246:=aR func246 rfl
theorem amD:aQ 247:=aR func247 rfl
theorem amP:aQ 265:=aR func265 rfl
theorem amE:aQ 248:=aR func248 rfl
def TM (fv:ah) (G:GH) (c:Int) (b:Bool):Prop:=∀ (G1:GH) (w1:World),(∀ b o,G b=some o->G1 b=some o)->Hold G1 w1->sK prog fv [.int .u8 c] w1 (bE w1 G1 fun u G'=>u=.bool b)
theorem ash (G:GH) (w0:World) (hG:Hold G w0) (l:List Int) (p:Int->Bool) (v fv:ah) (hv:ak G (.sl 1 (l.map Bw)) v) (hf:∀ c∈l,TM fv G c (p c)) :
  Calls prog 271 #[v,fv] w0 (bE w0 G fun u G'=>u=vi (oG (l.findIdx? p))):=by
 obtain ⟨A,c,rfl,hc1,hc2,hg⟩:=hv.slice;have hml:maxLen=9223372036854775807:=rfl;rw [bQ] at *;refine eN [(0,_),(1,_)] func271 rfl ntmps271 rfl rfl hG ?_;intro a H;refine kP H (SR fun _ K1=>aj K1 rfl (SQ fun _ K2=>SR fun _ K3=>Rm rfl (Rl IY rfl (Rm rfl (Kz K3 (SB ?_))))));clear H K1 K3;intro a H;skip;refine fF (ι:=Nat × GH) (Tc:=[(0,_),(1,_),(7,_)]) (Lc:=[]) (fun gh=>[(8,vi gh.1)]) (fun gh=>[]) (fun gh=>gh.2) (fun gh=>gh.1<=l.length∧(l.take gh.1).findIdx? p=none∧(∀ b o,G b=some o->gh.2 b=some o)) (fun gh=>l.length - gh.1) ((0,G)) (by exact H.sub ⟨rfl,rfl,rfl,rfl,ay⟩) ?_ ?_
 ·exact rW
 clear H;rintro ⟨k,g⟩ a w hI H;dsimp only at hI H;obtain ⟨hk,hno,hgm⟩:=hI;dsimp only [lca,bM] at H;refine kP H (SR fun _ K4=>Rc rfl (Kz K4 (SQ fun _ K5=>Cd rfl ?_ ?_))) <;> clear H K4
 ·intro h9 a H
  try have p9:=dT h9
  have hk2:k < l.length:=by omega
  obtain ⟨b,o,cs,rfl,hcl,hrow,hr⟩:=hg k (Bw l[k]) (by simp [hk2]);obtain rfl:=ahr hr
  have hcell:aI G b (o+k*1)=some (.int .u8 l[k]):=by simpa using hrow 0 _ rfl
  refine kP H (Kc K5 (SQ fun _ K6=>SB (SR fun _ K7=>Rm rfl (aj K7 rfl (SR fun _ K8=>Rm rfl (Rm rfl (Rm rfl (Ri IY Sz rfl rfl (Rg Sz rfl (aF hgm hcell) ?_)))))))));clear H K5 K7;intro a H;refine jJ H wn rfl rfl (hf _ (lC hk2) _ _ hgm H.ro) rfl ?_;clear H;rintro v16 ql a w rfl nA H;refine K8 _ _ ?_;clear K8;refine jr H rfl ?_ ?_
  ·intro h16
   try have p16:=dT h16
   refine kP H (SR fun _ K9=>Rm rfl (aj K9 rfl ?_));clear H K9;intro a H;refine lr H results271 rfl ?_
   exact xJ
  intro h16
  try have p16:=dF h16
  refine kP H (Kc K6 (SC (Rd rfl (Rm rfl ?_))));clear H K6;intro a H;refine aB ?_;refine dJ ((k+1,ql)) (by exact H.sub ⟨rfl,rfl,rfl,rfl,ay⟩) ?_
  (try dsimp only);exact ED
 intro h9 a H
 try have p9:=dF h9
 refine eu ?_;refine K2 _ _ ?_;clear K2;refine kP H (SR fun _ aS=>aj aS rfl ?_);clear H aS;intro a H;refine lr H results271 rfl ?_
 exact xJ
theorem Xv (o:Option Nat):decide (0<=oG o)=o.isSome:=by cases o <;> simp [oG]
theorem akw (G:GH) (w0:World) (hG:Hold G w0) (l:List Int) (p:Int->Bool) (v fv:ah) (hv:ak G (.sl 1 (l.map Bw)) v) (hf:∀ c∈l,TM fv G c (p c)) :
  Calls prog 264 #[v,fv] w0 (bE w0 G fun u G'=>u=.bool (l.findIdx? p).isSome):=by
 obtain ⟨A,c,rfl,hc1,hc2,-⟩:=hv.slice;rw [bQ] at *;refine eN [(0,_),(1,_)] func264 rfl ntmps264 rfl rfl hG ?_;intro a H;refine kP H (SR fun _ K1=>aj K1 rfl (SR fun _ K2=>Rm rfl (Rm rfl ?_)));clear H K1;intro a H;refine s_call amU H wn rfl (ash _ _ H.ro l p _ _ hv hf) rfl ?_;clear H;rintro v7 G7 a w rfl yR H;exact kH H (Rc rfl (aj K2 rfl (LR results264 rfl fun H=>H.rt (gK (Xv _)))))
def Mk (c:Int):Bool:=decide (c < 32) || decide (c=127)
theorem aky (G:GH) (c:Int):TM (.func (.func 265) #[] #[]) G c (Mk c):=by
 intro G1 w0 hm hG;refine jv (caps:=[]) amP ?_;refine eN [(0,_)] func265 rfl ntmps265 rfl rfl hG ?_;intro a H;refine kP H (SR fun _ K1=>aj K1 rfl (SR fun _ K2=>Rm rfl (Rc rfl (Rm rfl (Sp 5 rfl ?_ ?_))))) <;> clear H K1
 ·intro h5 a H
  try have p5:=dT h5
  exact kH H (aJ h5 rfl (Pt h5 rfl (aj K2 rfl (LR results265 rfl fun H=>H.rt (gK (by unfold Mk;first|(simp_all;done)|(simp_all;omega)))))))
 intro h5 a H
 try have p5:=dF h5
 exact kH H (YM h5 rfl (YC h5 rfl (Pf h5 rfl (aj K2 rfl (LR results265 rfl fun H=>H.rt (gK (by unfold Mk;first|(simp_all;done)|(simp_all;omega))))))))
def za (t:ByteArray):Int:=if 64 < t.size then 10 else if sJ t=false then 12 else if ((Jw t).findIdx? Mk).isSome=true then 5 else KT (mq t)
def RI (t:ByteArray):List jQ:=if za t=0 then yO (mq t).lit (mq t).parts else []
theorem asP (G:GH) (l:List jQ):dK G 3 (l.map jQ.dat) (Iw l):=by
 refine ⟨l.map jQ.cells,rfl,by simp,fun j r cs hr hc=>?_⟩;rw [tT] at hr hc;obtain ⟨x,hx,rfl⟩:=qU.1 hr;rw [hx] at hc
 cases hc
 exact ⟨afh G x,rfl⟩
theorem LX {p:Prop} (h:p:=by
 first
  | exact H.rt ⟨_,by rw [he0],by rw [RI,aD he0];exact hrep⟩
  | exact H.rt ⟨_,by rw [he],by rw [RI,av (by rw [he];first|decide|assumption)];exact ak.oQ rfl (by decide)⟩):p:=h
theorem aud (G:GH) (w0:World) (hG:Hold G w0) (t:ByteArray) (ht:t.size < 4611686018427387904) :
  Calls prog 246 #[.string t] w0 (bE w0 G fun u G'=>∃ x,u=.tuple #[x,vi (za t)]∧ak G' (.sl 3 ((RI t).map jQ.dat)) x):=by
 refine eN [(0,_)] func246 rfl ntmps246 rfl rfl hG ?_;intro a H;refine kP H (SR fun _ K1=>Ra rfl (aj K1 rfl (SQ fun _ K2=>SB (SR fun _ K3=>Rm rfl (Rv iT rfl (Rc rfl (aj K3 rfl (Cd rfl ?_ ?_)))))))) <;> clear H K1 K3
 ·intro h5 a H
  try have p5:=dT h5
  refine bR (fun _ K4=>?_)
  have he:za t=10:=by rw [za,nE]
  refine kP H (SC (Ra rfl (bG K4 rfl ?_)));clear H K4;intro a H;refine dw ?_;refine (fJ H results246 (.cons (bB H rfl) (.cons (bB H rfl) .nil)) ?_).1
  exact LX
 intro h5 a H
 try have p5:=dF h5
 refine kP H (SR fun _ K5=>Rm rfl ?_);clear H;intro a H;refine s_call Mv H wn rfl (Ot _ _ H.ro t ht) rfl ?_;clear H;rintro v11 _ a w ⟨rfl,rfl⟩ - H;refine kH H (Rn rfl (aj K5 rfl (Cd rfl ?_ ?_))) <;> clear H K5
 ·intro h9 a H
  try have p9:=dT h9
  refine bR (fun _ K6=>?_)
  have he:za t=12:=by rw [za,dL,aD (by simpa using h9)]
  refine kP H (SC (Ra rfl (bG K6 rfl ?_)));clear H K6;intro a H;refine dw ?_;refine (fJ H results246 (.cons (bB H rfl) (.cons (bB H rfl) .nil)) ?_).1
  exact LX
 intro h9 a H
 try have p9:=dF h9
 refine kP H (SR fun _ K7=>Rm rfl ?_);clear H;intro a H;refine avG iT IY Oi H wn rfl (by omega) rfl ?_;clear H;intro v15 Df a w A9 aeG H;obtain ⟨Zj,c15,rfl,-,-,-⟩:=aeG.slice;refine s_call amO H wn rfl (akw _ _ H.ro _ Mk _ _ aeG (fun c _=>aky _ c)) rfl ?_;clear H;rintro v16 ql a w rfl nA H;refine kH H (aj K7 rfl (Cd rfl ?_ ?_)) <;> clear H K7
 ·intro gL a H
  try have sG:=dT gL
  refine bR (fun _ K8=>?_)
  have he:za t=5:=by rw [za,dL,av (by simpa using h9),aD gL]
  refine kP H (SC (Ra rfl (bG K8 rfl ?_)));clear H K8;intro a H;refine dw ?_;refine (fJ H results246 (.cons (bB H rfl) (.cons (bB H rfl) .nil)) ?_).1
  exact LX
 intro gL a H
 try have sG:=dF gL
 refine kP H (Kc K2 (SR fun _ K9=>Rm rfl ?_));clear H K2;intro a H;refine jF awZ [_,_,_,_,_,_,_] H wn rfl rfl rfl rfl ?_;clear H;intro a H;refine eB (cs:=[_,_,_,_,_,_,_]) H wn rfl rfl rfl ?_;clear H;intro b19 a w apQ H;refine kH H (aj K9 rfl (SQ fun _ aS=>SR fun _ bH=>Rm rfl ?_));clear H K9;intro a H;refine iE amQ (Li:=[]) (L:=[yj b19 t CV (.pointer none) (.slice none 0 0) (.slice none 0 0)]) H wn rfl (awg _ [] [] _ b19 t _ _ _ ⟨.inl rfl,dR.nil,dR.nil⟩ (Hp.owns (Li:=[]) H.hp) (by omega)) rfl ?_;clear H;rintro v21 Tg L21 a w ⟨p',v',q',sO,mE,rfl,Wj⟩ Cw H;dsimp only [List.nil_append] at H;obtain ⟨A21,c21,rfl,-,-⟩:=Wj.buf.shape;obtain ⟨B21,d21,rfl,-,-⟩:=Wj.prt.shape;refine bH _ _ ?_;clear bH;refine bR (fun _ bT=>?_)
 have he:za t=KT (mq t):=by rw [za,dL,av (by simpa using h9),av (by simp [gL])]
 refine kP H (SC (Rm rfl (Rk rfl (bO Ci iQ 0 rfl rfl (Rc rfl (Kn bT (Cd rfl ?_ ?_))))))) <;> clear H bT
 ·intro jw a H
  try have p26:=dT jw
  refine bR (fun _ cK=>?_);have H:=H.sub (T':=[(4,_)]) ⟨rfl,ay⟩;refine dI hmx [[],[0],[0,1],[0,1,2],[],ra 0 5] [] (by kernel_rfl) [_,_,_,vi (KT (mq t)),_,_] H (aC (Z0 rfl (Rm rfl)) (Z1 0 27 rfl (Rk rfl)) (Z1 1 28 rfl (Rf Ci rfl)) (Z1 2 29 rfl (Ro iQ 0 rfl)) (bP (Z0 rfl (Ra rfl)) (bP (Z1 3 30 rfl (Ra rfl)) dH))) ?_
  clear H;intro a w G tq H hv;have H:=H.aN (hv 4 2 rfl rfl) rfl;have H:=H.aN (hv 5 3 rfl rfl) rfl;clear hv;refine aB ⟨rfl,?_⟩;refine cK _ _ ?_;clear cK;refine dw ?_;refine (fJ H results246 (.cons (bB H rfl) (.cons (bB H rfl) .nil)) ?_).1
  exact LX
 intro jw a H
 try have p26:=dF jw
 refine iG ?_;refine aS _ _ ?_;clear aS;refine bR (fun _ dB=>?_)
 have he0:za t=0:=by rw [he];omega
 have H:=(St.cast H (show _=[_]++(sO++mE) from rfl)).perm (List.Perm.append_left _ wG);have H:=St.un H;obtain ⟨Gr,hmr,hrep,H⟩:=St.qG (Li:=[_]++mE) (Lo:=sO) H Wj.prt (rows:=(yO (mq t).lit (mq t).parts).map jQ.dat) (by simp) (asP _ _);dsimp only [lca,bM] at H;refine kP H (SC (Rm rfl (Rk rfl (bO MG Oc 0 rfl rfl (Ra rfl (bG dB rfl ?_))))));clear H dB;intro a H;refine dw ?_;refine (fJ H results246 (.cons (bB H rfl) (.cons (bB H rfl) .nil)) ?_).1
 exact LX
structure jR where
 fmt:Int
 start:Int
 zk:ByteArray
 restart:Int
def jR.dat (x:jR):List Dat:=[li x.fmt,li x.start,.lf (.string x.zk),li x.restart]
abbrev jR.cells (x:jR):List ah:=[vi x.fmt,vi x.start,.string x.zk,vi x.restart]
theorem XH {G:GH} {x:jR} {cs:List ah} (h:bD G x.dat cs):cs=x.cells:=by
 simp only [jR.dat,bD,ak] at h
 obtain ⟨_,_,rfl,⟨rfl,_⟩,_,_,rfl,⟨rfl,_⟩,_,_,rfl,⟨rfl,_⟩,_,_,rfl,⟨rfl,_⟩,rfl⟩:=h
 rfl
theorem ase (G:GH) (w0:World) (hG:Hold G w0) (l:List jQ) (p:jQ->Bool) (v fv:ah) (hv:ak G (.sl 3 (l.map jQ.dat)) v) (hf:∀ x∈l,uJ fv G x.dat (p x)) :
  Calls prog 267 #[v,fv] w0 (bE w0 G fun u G'=>u=vi (oG (l.findIdx? p))):=by
 obtain ⟨A,c,rfl,hc1,hc2,hg⟩:=hv.slice;have hml:maxLen=9223372036854775807:=rfl;rw [bQ] at *;refine eN [(0,_),(1,_)] func267 rfl ntmps267 rfl rfl hG ?_;intro a H;refine kP H (SR fun _ K1=>aj K1 rfl (SQ fun _ K2=>SR fun _ K3=>Rm rfl (Rl Lb rfl (Rm rfl (Kz K3 (SB ?_))))));clear H K1 K3;intro a H;skip;refine fF (ι:=Nat × GH) (Tc:=[(0,_),(1,_),(7,_)]) (Lc:=[]) (fun gh=>[(8,vi gh.1)]) (fun gh=>[]) (fun gh=>gh.2) (fun gh=>gh.1<=l.length∧(l.take gh.1).findIdx? p=none∧(∀ b o,G b=some o->gh.2 b=some o)) (fun gh=>l.length - gh.1) ((0,G)) (by exact H.sub ⟨rfl,rfl,rfl,rfl,ay⟩) ?_ ?_
 ·exact rW
 clear H;rintro ⟨k,g⟩ a w hI H;dsimp only at hI H;obtain ⟨hk,hno,hgm⟩:=hI;dsimp only [lca,bM] at H;refine kP H (SR fun _ K4=>Rc rfl (Kz K4 (SQ fun _ K5=>Cd rfl ?_ ?_))) <;> clear H K4
 ·intro h9 a H
  try have p9:=dT h9
  have hk2:k < l.length:=by omega
  obtain ⟨b,o,cs,rfl,hcl,hrow,hr⟩:=hg k l[k].dat (by simp [hk2]);obtain rfl:=afg hr;refine kP H (Kc K5 (SQ fun _ K6=>SB (SR fun _ K7=>Rm rfl (aj K7 rfl (SR fun _ K8=>Rm rfl (Rm rfl (Rm rfl (Ri Lb KY rfl rfl ?_))))))));clear H K5 K7;intro a H;refine aV KY (cs:=l[k].cells) H wn rfl rfl (fun j v hj=>H.hp.aI (aF hgm (hrow j v hj))) rfl ?_;clear H;intro a H;refine jJ H wn rfl rfl (hf _ (lC hk2) _ _ _ hgm H.ro (afh _ l[k])) rfl ?_;clear H;rintro v16 ql a w rfl nA H;refine K8 _ _ ?_;clear K8;refine jr H rfl ?_ ?_
  ·intro h16
   try have p16:=dT h16
   refine kP H (SR fun _ K9=>Rm rfl (aj K9 rfl ?_));clear H K9;intro a H;refine lr H results267 rfl ?_
   exact xJ
  intro h16
  try have p16:=dF h16
  refine kP H (Kc K6 (SC (Rd rfl (Rm rfl ?_))));clear H K6;intro a H;refine aB ?_;refine dJ ((k+1,ql)) (by exact H.sub ⟨rfl,rfl,rfl,rfl,ay⟩) ?_
  (try dsimp only);exact ED
 intro h9 a H
 try have p9:=dF h9
 refine eu ?_;refine K2 _ _ ?_;clear K2;refine kP H (SR fun _ aS=>aj aS rfl ?_);clear H aS;intro a H;refine lr H results267 rfl ?_
 exact xJ
theorem akv (G:GH) (w0:World) (hG:Hold G w0) (l:List jQ) (p:jQ->Bool) (v fv:ah) (hv:ak G (.sl 3 (l.map jQ.dat)) v) (hf:∀ x∈l,uJ fv G x.dat (p x)) :
  Calls prog 247 #[v,fv] w0 (bE w0 G fun u G'=>u=.bool (l.findIdx? p).isSome):=by
 obtain ⟨A,c,rfl,hc1,hc2,-⟩:=hv.slice;rw [bQ] at *;refine eN [(0,_),(1,_)] func247 rfl ntmps247 rfl rfl hG ?_;intro a H;refine kP H (SR fun _ K1=>aj K1 rfl (SR fun _ K2=>Rm rfl (Rm rfl ?_)));clear H K1;intro a H;refine s_call amR H wn rfl (ase _ _ H.ro l p _ _ hv hf) rfl ?_;clear H;rintro v7 G7 a w rfl yR H;exact kH H (Rc rfl (aj K2 rfl (LR results247 rfl fun H=>H.rt (gK (Xv _)))))
theorem asT {G:GH} {bl:Nat} {k:Int} (hb:aI G bl 0=some (vi k)) (x:jQ):uJ (.func (.func 248) #[] #[(aK bl 0)]) G x.dat (decide (k < x.level)):=by
 intro G1 w0 cs hm hG hr;refine jv (caps:=[(aK bl 0)]) amE ?_;obtain rfl:=afg hr;replace hb:=aF hm hb;refine eN [(0,_),(1,_)] func248 rfl ntmps248 rfl rfl hG ?_;intro a H;refine dz (fun _ K1=>?_);refine eB (cs:=[_,_,_]) H wn rfl rfl rfl ?_;clear H;intro b2 a w hb2 H;refine kH H (aj K1 rfl (SR fun _ K2=>bO aoy aG 0 rfl rfl (Rg aG rfl (by assumption) ?_)));clear H K1;intro a H;exact kH H (Rc rfl (aj K2 rfl (LR results248 rfl fun H=>H.rt rfl)))
def KF (t:ByteArray) (k:Int):Int:=if k < 1∨9 < k then 2 else if za t=0∧((RI t).findIdx? fun x=>decide (k < x.level)).isSome=true then 6 else za t
theorem LY {p:Prop} (h:p:=by
 exact H.rt (cO vi (by unfold KF;(repeat' split) <;> first|rfl|(exfalso;simp_all;done)|(exfalso;simp_all;omega)|(simp_all;done)))):p:=h
theorem asR (G:GH) (w0:World) (hG:Hold G w0) (t:ByteArray) (k:Int) (ht:t.size < 4611686018427387904) :
  Calls prog 223 #[.string t,vi k] w0 (bE w0 G fun u G'=>u=vi (KF t k)):=by
 refine eN [(0,_),(1,_)] func223 rfl ntmps223 rfl rfl hG ?_;intro a H;refine dz (fun _ K1=>?_);refine eB (cs:=[_]) H wn rfl rfl rfl ?_;clear H;intro b3 a w hb3 H;refine kH H (aj K1 rfl (SQ fun _ K2=>SR fun _ K3=>Ro aG 0 rfl (Rc rfl (Rm rfl (Sp 9 rfl ?_ ?_))))) <;> clear H K1
 ·intro h9 a H
  try have p9:=dT h9
  refine kH H (aJ h9 rfl (Pt h9 rfl (Kz K3 (Ct rfl rfl (SR fun _ K4=>aj K4 rfl ?_)))));clear H K3 K4;intro a H;refine lr H results223 rfl ?_
  exact LY
 intro h9 a H
 try have p9:=dF h9
 refine kH H (YO aG 0 h9 rfl (YC h9 rfl (Pf h9 rfl (Kz K3 (Cd rfl ?_ ?_))))) <;> clear H K3
 ·intro h12 a H
  try have rM:=dT h12
  refine kP H (SR fun _ K5=>aj K5 rfl ?_);clear H K5;intro a H;refine lr H results223 rfl ?_
  exact LY
 intro h12 a H
 try have rM:=dF h12
 refine iG ?_;refine K2 _ _ ?_;clear K2;refine bR (fun _ K6=>?_);obtain ⟨Ga,hma,wQ,H⟩:=H.fO
 have hbk:aI Ga b3 0=some (vi k):=by unfold aI;rw [wQ];rfl
 refine kP H (SC (Rm rfl ?_));clear H;intro a H;refine s_call amC H wn rfl (aud _ _ H.ro t ht) rfl ?_;clear H;rintro v15 Df a w ⟨x15,rfl,aeJ⟩ A9 H;obtain ⟨Zj,c15,rfl,-,-,-⟩:=aeJ.slice;replace hbk:=aF A9 hbk;refine kH H (Rm rfl ?_);clear H;intro a H;(iterate 2 refine mh H wn rfl rfl rfl ?_;clear H;intro a H);refine kH H (Ra rfl (bG K6 rfl (SQ fun _ K7=>SR fun _ K8=>Rm rfl (Rc rfl (Rm rfl (Sp 20 rfl ?_ ?_)))))) <;> clear H K6
 ·intro h20 a H
  try have II:=dT h20
  refine kH H (YM h20 rfl ?_);clear H;intro a H;refine qd H (wg H rfl rfl h20) rfl rfl ?_;clear H;intro a H;refine s_call amD H (wg H rfl rfl h20) rfl (akv _ _ H.ro _ (fun x=>decide (k < x.level)) _ _ aeJ (fun x _=>asT hbk x)) rfl ?_;clear H;rintro v23 Zr a w rfl E5 H;refine kH H (Pt h20 rfl (Kz K8 (Cd rfl ?_ ?_))) <;> clear H K8
  ·intro bS a H
   try have jP:=dT bS
   refine kP H (SC (bG K7 rfl (SR fun _ K9=>Rm rfl (aj K9 rfl ?_))));clear H K7 K9;intro a H;refine lr H results223 rfl ?_
   exact LY
  intro bS a H
  try have jP:=dF bS
  refine kP H (Kc K7 (SR fun _ aS=>Rm rfl (aj aS rfl ?_)));clear H K7 aS;intro a H;refine lr H results223 rfl ?_
  exact LY
 intro h20 a H
 try have II:=dF h20
 refine kH H (aM h20 rfl (Pf h20 rfl (Kz K8 (Cf rfl rfl (Kc K7 (SR fun _ bH=>Rm rfl (aj bH rfl ?_)))))));clear H K8 K7 bH;intro a H;refine lr H results223 rfl ?_
 exact LY
theorem Bv:Ty prog 96 4 40 [.int .i64 0,.int .i64 0,.string ⟨#[]⟩,.int .i64 0] true:=⟨by kernel_rfl,by kernel_rfl⟩
theorem zo:prog.underlying 91=some (.slice 96):=by kernel_rfl
theorem acN:dX prog 96 0 0:=⟨by kernel_rfl⟩
theorem acO:dX prog 96 1 1:=⟨by kernel_rfl⟩
theorem aoz:dX prog 96 2 2:=⟨by kernel_rfl⟩
theorem amr:aQ 223:=aR func223 rfl
theorem acP:dX prog 96 3 3:=⟨by kernel_rfl⟩
def GL:Nat->List jR->Int
 | _,[]=>0
 | i,x :: r=>if x.fmt < 1∨7 < x.fmt then 3 else if x.start < 0∨32767 < x.start then 2 else if KF x.zk ((i+1:Nat):Int)≠0 then KF x.zk ((i+1:Nat):Int) else if x.restart < 0∨(i:Int) < x.restart then 5 else GL (i+1) r
def Ar (l:List jR):Int:=if l.length=0 then 11 else if 9 < l.length then 9 else GL 0 l
theorem Mi {l:List jR} {k:Nat} (h:k < l.length):GL k (l.drop k)=if l[k].fmt < 1∨7 < l[k].fmt then 3 else if l[k].start < 0∨32767 < l[k].start then 2 else if KF l[k].zk ((k+1:Nat):Int)≠0 then KF l[k].zk ((k+1:Nat):Int) else if l[k].restart < 0∨(k:Int) < l[k].restart then 5 else GL (k+1) (l.drop (k+1)):=by
 rw [rU h,GL]
theorem Cc {p:Prop} (h:p:=by
 first
  | exact H.rt (cO vi (by rw [Ar,nE]))
  | exact H.rt (cO vi (by rw [Ar,dL,nE]))
  | exact H.rt (cO vi (by rw [Ar,dL,dL,<- he,Mi hk2,nE]))
  | exact H.rt (cO vi (by rw [Ar,dL,dL,<- he,Mi hk2,dL,nE]))
  | exact H.rt (cO vi (by rw [Ar,dL,dL,<- he,Mi hk2,dL,dL,aD p45]))
  | exact H.rt (cO vi (by rw [Ar,dL,dL,<- he,Mi hk2,dL,dL,av p45,nE]))
  | exact H.rt (cO vi (by rw [Ar,dL,dL,<- he,tX (by omega)];rfl))):p:=h
theorem ajG (G:GH) (w0:World) (hG:Hold G w0) (l:List jR) (v:ah) (hv:ak G (.sl 4 (l.map jR.dat)) v) (ht:∀ x∈l,x.zk.size < 4611686018427387904) :
  Calls prog 185 #[v] w0 (bE w0 G fun u G'=>u=vi (Ar l)):=by
 obtain ⟨A,c,rfl,hc1,hc2,hg⟩:=hv.slice;have hml:maxLen=9223372036854775807:=rfl;rw [bQ] at *;refine eN [(0,_)] func185 rfl ntmps185 rfl rfl hG ?_;intro a H;refine kP H (SR fun _ K1=>aj K1 rfl (SQ fun _ K2=>SB (SR fun _ K3=>Rm rfl (Rl zo rfl (Rc rfl (aj K3 rfl (Cd rfl ?_ ?_))))))) <;> clear H K1 K3
 ·intro h6 a H
  try have p6:=dT h6
  refine kP H (SR fun _ K4=>aj K4 rfl ?_);clear H K4;intro a H;refine lr H results185 rfl ?_
  exact Cc
 intro h6 a H
 try have p6:=dF h6
 refine kP H (SR fun _ K5=>Rm rfl (Rl zo rfl (Rc rfl (aj K5 rfl (Cd rfl ?_ ?_))))) <;> clear H K5
 ·intro h10 a H
  try have jd:=dT h10
  refine kP H (SR fun _ K6=>aj K6 rfl ?_);clear H K6;intro a H;refine lr H results185 rfl ?_
  exact Cc
 intro h10 a H
 try have jd:=dF h10
 refine kP H (Kc K2 (SQ fun _ K7=>SR fun _ K8=>Rm rfl (Rl zo rfl (Rm rfl (Kz K8 (SB ?_))))));clear H K2 K8;intro a H;skip;refine fF (ι:=Nat × GH) (Tc:=[(14,_),(15,_)]) (Lc:=[]) (fun gh=>[(16,vi gh.1)]) (fun gh=>[]) (fun gh=>gh.2) (fun gh=>gh.1<=l.length∧GL gh.1 (l.drop gh.1)=GL 0 l∧(∀ b o,G b=some o->gh.2 b=some o)) (fun gh=>l.length - gh.1) ((0,G)) (by exact H.sub ⟨rfl,rfl,rfl,ay⟩) ?_ ?_
 ·exact EF
 clear H;rintro ⟨k,g⟩ a w hI H;dsimp only at hI H;obtain ⟨hk,he,hgm⟩:=hI;dsimp only [lca,bM] at H;refine kP H (SR fun _ K9=>Rc rfl (Kz K9 (SQ fun _ aS=>Cd rfl ?_ ?_))) <;> clear H K9
 ·intro cu a H
  try have lN:=dT cu
  have hk2:k < l.length:=by omega
  obtain ⟨b,o,cs,rfl,hcl,hrow,hr⟩:=hg k l[k].dat (by simp [hk2]);obtain rfl:=XH hr;refine kP H (Kc aS (SQ fun _ bH=>SB (SR fun _ bT=>Rm rfl (Ri zo Bv rfl rfl ?_))));clear H aS;intro a H;refine aV Bv (cs:=l[k].cells) H wn rfl rfl (fun j v hj=>H.hp.aI (aF hgm (hrow j v hj))) rfl ?_;clear H;intro a H;refine dP Bv H wn rfl ?_;clear H;intro b4 a w hb4 H;refine kH H (Ra rfl ?_);clear H;intro a H;refine bK Bv 0 (vs:=[_,_,_,_]) H wn rfl ?_;clear H;intro w H;refine bT _ _ ?_;clear bT;refine kP H (SQ fun _ cK=>SB (SR fun _ dB=>bO acN aG 0 rfl rfl (Rc rfl (Rm rfl (Sp 25 rfl ?_ ?_))))) <;> clear H
  ·intro kS a H
   try have p25:=dT kS
   refine kH H (aM kS rfl (Pt kS rfl (aj dB rfl (Ct rfl rfl (SR fun _ eU=>aj eU rfl ?_)))));clear H dB eU;intro a H;refine lr H results185 rfl ?_
   exact Cc
  intro kS a H
  try have p25:=dF kS
  refine kH H (YF acN kS rfl (YO aG 0 kS rfl (YC kS rfl (Pf kS rfl (aj dB rfl (Cd rfl ?_ ?_)))))) <;> clear H dB
  ·intro h21 a H
   try have Ec:=dT h21
   refine kP H (SR fun _ eX=>aj eX rfl ?_);clear H eX;intro a H;refine lr H results185 rfl ?_
   exact Cc
  intro h21 a H
  try have Ec:=dF h21
  refine kP H (SR fun _ eG=>bO acO aG 0 rfl rfl (Rc rfl (Rm rfl (Sp 34 rfl ?_ ?_)))) <;> clear H
  ·intro fu a H
   try have p34:=dT fu
   refine kH H (aM fu rfl (Pt fu rfl (aj eG rfl (Ct rfl rfl (SR fun _ fC=>aj fC rfl ?_)))));clear H eG fC;intro a H;refine lr H results185 rfl ?_
   exact Cc
  intro fu a H
  try have p34:=dF fu
  refine kH H (YF acO fu rfl (YO aG 0 fu rfl (YC fu rfl (Pf fu rfl (aj eG rfl (Cd rfl ?_ ?_)))))) <;> clear H eG
  ·intro iX a H
   try have p30:=dT iX
   refine kP H (SR fun _ gX=>aj gX rfl ?_);clear H gX;intro a H;refine lr H results185 rfl ?_
   exact Cc
  intro iX a H
  try have p30:=dF iX
  refine kP H (Kc cK (SQ fun _ fM=>SR fun _ iI=>bO aoz iR 0 rfl rfl (Rm rfl (Rd rfl ?_))));clear H cK;intro a H;rw [show ((k:Int)+1)=((k+1:Nat):Int) from rfl] at H;refine s_call amr H wn rfl (asR _ _ H.ro l[k].zk ((k+1:Nat):Int) (ht _ (lC hk2))) rfl ?_;clear H;rintro v43 LB a w rfl DY H;refine kH H (aj iI rfl (SR fun _ jH=>Rm rfl (Rc rfl (Kz jH (Cd rfl ?_ ?_))))) <;> clear H iI jH
  ·intro h45 a H
   try have p45:=dT h45
   refine kP H (SR fun _ mK=>Rm rfl (aj mK rfl ?_));clear H mK;intro a H;refine lr H results185 rfl ?_
   exact Cc
  intro h45 a H
  try have p45:=dF h45
  refine kP H (Kc fM (SR fun _ mD=>bO acP aG 0 rfl rfl (Rc rfl (Rm rfl (Sp 50 rfl ?_ ?_))))) <;> clear H fM
  ·intro h50 a H
   try have p50:=dT h50
   refine kH H (aJ h50 rfl (aJ h50 rfl (Pt h50 rfl (Kz mD (Ct rfl rfl (SR fun _ kY=>aj kY rfl ?_))))));clear H mD kY;intro a H;refine lr H results185 rfl ?_
   exact Cc
  intro h50 a H
  try have p50:=dF h50
  refine kH H (YF acP h50 rfl (YO aG 0 h50 rfl (YM h50 rfl (YC h50 rfl (Pf h50 rfl (Kz mD (Cd rfl ?_ ?_))))))) <;> clear H mD
  ·intro qx a H
   try have p55:=dT qx
   refine kP H (SR fun _ om=>aj om rfl ?_);clear H om;intro a H;refine lr H results185 rfl ?_
   exact Cc
  intro qx a H
  try have p55:=dF qx
  refine kP H (Kc bH (SC (Rd rfl (Rm rfl ?_))));clear H bH;intro a H;refine aB ?_;refine dJ ((k+1,LB)) (by exact (H.fG (Pl:=[_]) (eH:=[]) [] (by decide) rfl).sub ⟨rfl,rfl,rfl,ay⟩) ?_
  (try dsimp only);exact ⟨by omega,by rw [Mi hk2,dL,dL,av p45,dL] at he;exact he,fun b o h=>DY b o (hgm b o h)⟩
 intro cu a H
 try have lN:=dF cu
 refine eu ?_;refine K7 _ _ ?_;clear K7;refine kP H (SR fun _ oq=>aj oq rfl ?_);clear H oq;intro a H;refine lr H results185 rfl ?_
 exact Cc
theorem zl:Ty prog 32 1 24 [.slice none 0 0] false:=⟨by kernel_rfl,by kernel_rfl⟩
theorem tN:prog.underlying 32=some (.slice 93):=by kernel_rfl
theorem rP:Ty prog 93 2 32 [.int .i64 0,.slice none 0 0] true:=⟨by kernel_rfl,by kernel_rfl⟩
theorem Qf:dX prog 93 0 0:=⟨by kernel_rfl⟩
theorem Od:Ty prog 91 1 24 [.slice none 0 0] false:=⟨by kernel_rfl,by kernel_rfl⟩
theorem UN:aQ 125:=aR func125 rfl
theorem MJ:dX prog 93 1 1:=⟨by kernel_rfl⟩
theorem alW:aQ 185:=aR func185 rfl
theorem JI:aQ 123:=aR func123 rfl
theorem alV:aQ 184:=aR func184 rfl
theorem alU:aQ 183:=aR func183 rfl
structure fD where
 id:Int
 levels:List jR
def fD.dat (x:fD):List Dat:=[li x.id,.sl 4 (x.levels.map jR.dat)]
structure gI where
 id:Int
 parent:Int
 author:ByteArray
 time:Int
 text:ByteArray
 done:Bool
def gI.dat (x:gI):List Dat:=[li x.id,li x.parent,.lf (.string x.author),li x.time,.lf (.string x.text),.lf (.bool x.done)]
abbrev gI.cells (x:gI):List ah:=[vi x.id,vi x.parent,.string x.author,vi x.time,.string x.text,.bool x.done]
structure jl where
 name:ByteArray
 value:ByteArray
def jl.dat (x:jl):List Dat:=[.lf (.string x.name),.lf (.string x.value)]
abbrev jl.cells (x:jl):List ah:=[.string x.name,.string x.value]
theorem PL {G:GH} {x:gI} {cs:List ah} (h:bD G x.dat cs):cs=x.cells:=by
 simp only [gI.dat,bD,ak] at h
 obtain ⟨_,_,rfl,⟨rfl,_⟩,_,_,rfl,⟨rfl,_⟩,_,_,rfl,⟨rfl,_⟩,_,_,rfl,⟨rfl,_⟩,_,_,rfl,⟨rfl,_⟩,_,_,rfl,⟨rfl,_⟩,rfl⟩:=h
 rfl
theorem Y6 {G:GH} {x:jl} {cs:List ah} (h:bD G x.dat cs):cs=x.cells:=by
 simp only [jl.dat,bD,ak] at h
 obtain ⟨_,_,rfl,⟨rfl,_⟩,_,_,rfl,⟨rfl,_⟩,rfl⟩:=h
 rfl
theorem XF {G:GH} {l:List fD} {A:Option Addr} {n c k:Nat} (hv:ak G (.sl 2 (l.map fD.dat)) (.slice A n c)) (hk:k < l.length):∃ b o B d,A=some ⟨b,o,none⟩∧(∀ j u,[vi l[k].id,.slice B l[k].levels.length d][j]?=some u->aI G b (o+k*2+j)=some u)∧ak G (.sl 4 (l[k].levels.map jR.dat)) (.slice B l[k].levels.length d):=by
 obtain ⟨A',c',he,_,_,hg⟩:=hv.slice
 injection he with e1 e2 e3
 subst e1;obtain ⟨b,o,cs,h1,h2,h3,h4⟩:=hg k l[k].dat (by simp [hk])
 simp only [fD.dat,bD] at h4
 obtain ⟨v1,_,rfl,⟨rfl,-⟩,v2,_,rfl,hl,rfl⟩:∃ v vs,cs=v :: vs∧ak G (li l[k].id) v∧∃ v2 vs2,vs=v2 :: vs2∧ak G (.sl 4 (l[k].levels.map jR.dat)) v2∧vs2=[]:=h4;obtain ⟨B,d,rfl,-,-,-⟩:=hl.slice;rw [bQ] at *;exact ⟨b,o,B,d,h1,h3,hl⟩
theorem asI {G:GH} {bl:Nat} {l:List fD} {A:Option Addr} {n c:Nat} (hb:aI G bl 0=some (.slice A n c)) (hv:ak G (.sl 2 (l.map fD.dat)) (.slice A n c)):vC (.func (.func 184) #[] #[(aK bl 0)]) G l.length fun k=>(l[k]?.map fD.id).getD 0:=by
 intro k hk G1 w0 hm hG;refine jv (caps:=[(aK bl 0)]) alV ?_;replace hb:=aF hm hb
 obtain rfl:n=l.length:=by have:=hv.len;simpa using this
 obtain ⟨b,o,B,d,rfl,hrow,-⟩:=XF (hv.mono hm) hk;have hq:=hrow 0 _ rfl;refine eN [(0,_),(1,_)] func184 rfl ntmps184 rfl rfl hG ?_;intro a H;refine kP H (SR fun _ K1=>aj K1 rfl (SR fun _ K2=>Rg zl rfl (by assumption) ?_));clear H K1;intro a H;refine kH H (Rm rfl (Ri tN rP rfl rfl (Rf Qf rfl (Rg aG rfl (by assumption) ?_))));clear H;intro a H;exact kH H (aj K2 rfl (LR results184 rfl fun H=>H.rt (by dsimp only;rw [eD hk];rfl)))
def Iu (l:List fD) (i:Nat):Int:=dS [wW (fun k=>(l[k]?.map fD.id).getD 0) i,Ar ((l[i]?.map fD.levels).getD [])]
theorem Js {p:Prop} (h:p:=by
 exact fin H jU (rfl)):p:=h
theorem asK {G:GH} {bl:Nat} {l:List fD} {A:Option Addr} {n c:Nat} (hb:aI G bl 0=some (.slice A n c)) (hv:ak G (.sl 2 (l.map fD.dat)) (.slice A n c)) (hl:l.length<=4294967296) (ht:∀ x∈l,∀ y∈x.levels,y.zk.size < 4611686018427387904):vC (.func (.func 183) #[] #[(aK bl 0)]) G l.length (Iu l):=by
 intro k hk G1 w0 hm hG;refine jv (caps:=[(aK bl 0)]) alU ?_;replace hb:=aF hm hb;replace hv:=hv.mono hm;have hcb:=asI hb hv
 obtain rfl:n=l.length:=by have:=hv.len;simpa using this
 obtain ⟨b,o,B,d,rfl,hrow,hlv⟩:=XF hv hk;have hq:=hrow 1 _ rfl
 have he:Iu l k=dS [wW (fun k=>(l[k]?.map fD.id).getD 0) k,Ar l[k].levels]:=by unfold Iu;rw [eD hk];rfl
 refine eN [(0,_),(1,_)] func183 rfl ntmps183 rfl rfl hG ?_;intro a H;refine kP H (SR fun _ K1=>aj K1 rfl (SQ fun _ K2=>?_));clear H K1;intro a H;have H:=H.sub (T':=[(0,_),(1,_)]) ⟨rfl,rfl,ay⟩;refine dI hmx [[],[],[0,1],[],[],[3,4],[3,4,5],ra 3 4,ra 0 8,ra 0 9,ra 0 10,ra 0 11] [9,10,11] (by kernel_rfl) [_,.func (.func 184) #[] #[(aK bl 0)],vi (wW (fun k=>(l[k]?.map fD.id).getD 0) k),_,_,_,_,_,vi (Ar l[k].levels)] H (aC (Z0 rfl (Rm rfl)) ?_ ?_ (X0 rfl fun hG=>Rg zl rfl (aF hG hb)) (aC (Z0 rfl (Rm rfl)) (Z2 3 7 4 8 rfl (Ri tN rP rfl rfl)) (Z1 5 9 rfl (Rf MJ rfl)) (X1 6 10 rfl fun hG=>Rg Od rfl (aF hG hq)) (aC ?_ (bU rfl) (bU rfl) (bU rfl) dH))) ?_
 ·refine Dh rfl fun _ a w G1 hG HT H fin=>?_;refine qd H wn rfl rfl ?_;clear H;intro a H;exact dZ
 ·refine dO 0 4 1 5 rfl rfl fun _ a w G1 hG HT H fin=>?_;refine s_call UN H wn rfl (Xq _ _ H.ro k _ _ (by omega) (fun i hi=>(hcb.mono hG) i (by omega))) rfl ?_;clear H;rintro v6 G6 a w rfl jU H;exact Js
 ·refine eY 7 11 rfl rfl fun _ a w G1 hG HT H fin=>?_;refine s_call alW H wn rfl (ajG _ _ H.ro _ _ (hlv.mono hG) (ht _ (lC hk))) rfl ?_;clear H;rintro v12 BF a w rfl oM H;exact fin H oM (rfl)
 clear H;intro a w G jy H hv;have H:=H.aN (hv 2 6 rfl rfl) rfl;have H:=H.aN (hv 8 12 rfl rfl) rfl;clear hv;refine iV rQ iQ [_,_] [_,_] H wn rfl rfl rfl rfl rfl (by intro i q h;match i,h with|0,h=>exact h|1,h=>exact h|n+2,h=>simp at h) rfl rfl ?_;clear H;intro b13 a w Qr H;obtain ⟨I7,M0,apN,H⟩:=H.fO;refine s_call sU H wn rfl (sW _ _ H.ro _ _ (zZ apN)) rfl ?_;clear H;rintro v14 _ a w ⟨rfl,rfl⟩ - H;refine kH H (Ra rfl ?_);clear H;intro a H;refine aB ⟨rfl,?_⟩;refine K2 _ _ ?_;clear K2;refine lr H results183 rfl ?_;exact H.rt (by rw [he])
def Mf (l:List fD):Int:=dS [dG (decide (64 < (l.length:Int))) 9,iW (Iu l) (min l.length 64)]
theorem vC.le {fv:ah} {G:GH} {n m:Nat} {E:Nat->Int} (h:vC fv G n E) (hm:m<=n):vC fv G m E:=fun i hi=>h i (by omega)
theorem Pm {p:Prop} (h:p:=by
 exact fin H iJ (cO vi (by omega))):p:=h
theorem Gw {p:Prop} (h:p:=by
 exact fin H pX (rfl)):p:=h
theorem ajH (G:GH) (w0:World) (hG:Hold G w0) (l:List fD) (v:ah) (hv:ak G (.sl 2 (l.map fD.dat)) v) (hl:l.length<=4294967296) (ht:∀ x∈l,∀ y∈x.levels,y.zk.size < 4611686018427387904) :
  Calls prog 120 #[v] w0 (bE w0 G fun u G'=>u=vi (Mf l)):=by
 obtain ⟨A,c,rfl,hc1,hc2,-⟩:=hv.slice;rw [bQ] at *;refine eN [(0,_)] func120 rfl ntmps120 rfl rfl hG ?_;intro a H;refine dz (fun _ K1=>?_);refine eB (cs:=[_]) H wn rfl rfl rfl ?_;clear H;intro b1 a w hb1 H;refine kH H (aj K1 rfl (SQ fun _ K2=>?_));clear H K1;intro a H;have H:=H.sub (T':=[(1,_)]) ⟨rfl,ay⟩;obtain ⟨Ga,hma,hb1',H⟩:=H.fO
 have hbl:aI Ga b1 0=some (.slice A l.length c):=by unfold aI;rw [hb1'];rfl
 have hcb:=asK hbl (hv.mono hma) hl ht;refine dI hmx [[],[0],[0,1],[0,1,2],[],[4],[4,5],[],ra 0 8,ra 0 9,ra 0 10,ra 0 11] [9,10,11] (by kernel_rfl) [_,_,_,vi (dG (decide (64 < (l.length:Int))) 9),_,_,vi ((min l.length 64:Nat):Int),.func (.func 183) #[] #[(aK b1 0)],vi (iW (Iu l) (min l.length 64))] H (aC (X0 rfl fun hG=>Rg zl rfl (aF hG hbl)) (Z1 0 3 rfl (Rl tN rfl)) (Z1 1 4 rfl (Rc rfl)) ?_ (aC (X0 rfl fun hG=>Rg zl rfl (aF hG hbl)) (Z1 4 7 rfl (Rl tN rfl)) ?_ ?_ (aC ?_ (bU rfl) (bU rfl) (bU rfl) dH))) ?_
 ·refine eY 2 5 rfl rfl fun _ a w G1 hG HT H fin=>?_;refine s_call kr H wn rfl (kF _ _ H.ro _ 9) rfl ?_;clear H;rintro v6 G6 a w ⟨rfl,-⟩ jU H;exact Js
 ·refine eY 5 8 rfl rfl fun _ a w G1 hG HT H fin=>?_;refine Si H wn rfl rfl rfl ?_;clear H;intro a H;exact Pm
 ·refine Dh rfl fun _ a w G1 hG HT H fin=>?_;refine qd H wn rfl rfl ?_;clear H;intro a H;exact dZ
 ·refine dO 6 9 7 10 rfl rfl fun _ a w G1 hG HT H fin=>?_;refine s_call JI H wn rfl (LU _ _ H.ro (min l.length 64) (Iu l) _ (by omega) ((hcb.mono hG).le (Nat.min_le_left _ _))) rfl ?_;clear H;rintro v11 uG a w rfl pX H;exact Gw
 clear H;intro a w G jy H hv;have H:=H.aN (hv 3 6 rfl rfl) rfl;have H:=H.aN (hv 8 11 rfl rfl) rfl;clear hv;refine iV rQ iQ [_,_] [_,_] H wn rfl rfl rfl rfl rfl (by intro i q h;match i,h with|0,h=>exact h|1,h=>exact h|n+2,h=>simp at h) rfl rfl ?_;clear H;intro b12 a w Ka H;obtain ⟨BF,yQ,Hz,H⟩:=H.fO;refine s_call sU H wn rfl (sW _ _ H.ro _ _ (zZ Hz)) rfl ?_;clear H;rintro v13 _ a w ⟨rfl,rfl⟩ - H;refine kH H (Ra rfl ?_);clear H;intro a H;refine aB ⟨rfl,?_⟩;refine K2 _ _ ?_;clear K2;refine lr H results120 rfl ?_;exact xK
theorem lQ:prog.underlying 31=some (.slice 192):=by kernel_rfl
theorem jg:Ty prog 192 6 72 [.int .i64 0,.int .i64 0,.string ⟨#[]⟩,.int .i64 0,.int .i64 0,.slice none 0 0] true:=⟨by kernel_rfl,by kernel_rfl⟩
theorem xQ:dX prog 192 1 1:=⟨by kernel_rfl⟩
theorem EN:dX prog 192 2 2:=⟨by kernel_rfl⟩
theorem vN:dX prog 192 0 0:=⟨by kernel_rfl⟩
theorem acj:aQ 243:=aR func243 rfl
theorem amq:aQ 221:=aR func221 rfl
theorem amA:aQ 244:=aR func244 rfl
theorem amB:aQ 245:=aR func245 rfl
structure bY where
 id:Int
 kind:Int
 name:ByteArray
 base:Int
 next:Int
 props:List aL
def bY.dat (x:bY):List Dat:=[li x.id,li x.kind,.lf (.string x.name),li x.base,li x.next,.sl 2 (x.props.map aL.dat)]
theorem N8 {G:GH} {x:bY} {cs:List ah} (h:bD G x.dat cs):∃ A c,cs=[vi x.id,vi x.kind,.string x.name,vi x.base,vi x.next,.slice A x.props.length c]∧ak G (.sl 2 (x.props.map aL.dat)) (.slice A x.props.length c):=by
 simp only [bY.dat,bD] at h
 obtain ⟨v1,_,rfl,h1,v2,_,rfl,h2,v3,_,rfl,h3,v4,_,rfl,h4,v5,_,rfl,h5,v6,_,rfl,h6,rfl⟩:=h
 simp only [ak] at h1 h2 h3 h4 h5
 obtain ⟨rfl,-⟩:=h1;obtain ⟨rfl,-⟩:=h2;obtain ⟨rfl,-⟩:=h3;obtain ⟨rfl,-⟩:=h4;obtain ⟨rfl,-⟩:=h5;obtain ⟨A,c,rfl,-,-,-⟩:=h6.slice;rw [bQ] at *;exact ⟨A,c,rfl,h6⟩
theorem El {G:GH} {l:List bY} {A:Option Addr} {n c k:Nat} (hv:ak G (.sl 6 (l.map bY.dat)) (.slice A n c)) (hk:k < l.length):∃ b o pA pc,A=some ⟨b,o,none⟩∧(∀ j u,[vi l[k].id,vi l[k].kind,.string l[k].name,vi l[k].base,vi l[k].next,.slice pA l[k].props.length pc][j]?=some u->aI G b (o+k*6+j)=some u)∧ak G (.sl 2 (l[k].props.map aL.dat)) (.slice pA l[k].props.length pc) ∧
  bD G l[k].dat [vi l[k].id,vi l[k].kind,.string l[k].name,vi l[k].base,vi l[k].next,.slice pA l[k].props.length pc]:=by
 obtain ⟨A',c',he,_,_,hg⟩:=hv.slice
 injection he with e1 e2 e3
 subst e1;obtain ⟨b,o,cs,h1,h2,h3,h4⟩:=hg k l[k].dat (by simp [hk]);obtain ⟨pA,pc,rfl,hp⟩:=N8 h4;exact ⟨b,o,pA,pc,h1,h3,hp,h4⟩
def okB (x:Int):Bool:=decide (32<=x∧x<=126)
def IB (s:ByteArray) (k:Nat):Bool:=(List.range k).all fun i=>okB (ig s i)
def KD (s:ByteArray):Bool:=decide (s.size≠0∧s.size<=40∧ig s 0≠32∧ig s (s.size - 1)≠32) && IB s s.size
theorem atj (s:ByteArray) (k:Nat):IB s (k+1)=(IB s k && okB (ig s k)):=by simp [IB,List.range_succ]
theorem ati {s:ByteArray} {k:Nat} (hk:k < s.size) (h:okB (ig s k)=false):IB s s.size=false:=by
 rw [IB,List.all_eq_false];exact ⟨k,by simpa using hk,by simp [h]⟩
theorem Gx {p:Prop} (h:p:=by
 first
  | exact H.rt (gK (by rw [KD,nk (by omega),LP]))
  | exact H.rt (gK (by rw [KD,mM (by omega),show s.size=k by omega,hno];rfl))
  | exact H.rt (gK (by rw [KD,ati (k:=k) (by omega) (nk (by omega)),Bool.and_false]))):p:=h
theorem QX (G:GH) (w0:World) (hG:Hold G w0) (s:ByteArray) (hs:s.size<=4611686018427387904):Calls prog 218 #[.string s] w0 (bE w0 G fun u G'=>u=.bool (KD s)):=by
 refine eN [(0,_)] func218 rfl ntmps218 rfl rfl hG ?_;intro a H;refine kP H (SR fun _ K1=>aj K1 rfl (SQ fun _ K2=>SR fun _ K3=>Rm rfl (Rv iT rfl (Rc rfl (Rm rfl (Sp 7 rfl ?_ ?_)))))) <;> clear H K1
 ·intro h7 a H
  try have p7:=dT h7
  refine kH H (aM h7 rfl (Pt h7 rfl (Rm rfl (aM rfl rfl (Pt rfl rfl (Rm rfl (aM rfl rfl (aM rfl rfl (Pt rfl rfl (Kz K3 (Ct rfl rfl (SR fun _ K4=>aj K4 rfl ?_))))))))))));clear H K3 K4;intro a H;refine lr H results218 rfl ?_
  exact Gx
 intro h7 a H
 try have p7:=dF h7
 refine kH H (YM h7 rfl ?_);clear H;intro a H;refine FJ iT H (wg H rfl rfl h7) rfl rfl ?_;clear H;intro a H;refine kH H (YC h7 rfl (Pf h7 rfl (Rm rfl (Sp 12 rfl ?_ ?_)))) <;> clear H
 ·intro h12 a H
  try have rM:=dT h12
  refine kH H (aM h12 rfl (Pt h12 rfl (Rm rfl (aM rfl rfl (aM rfl rfl (Pt rfl rfl (Kz K3 (Ct rfl rfl (SR fun _ K5=>aj K5 rfl ?_)))))))));clear H K3 K5;intro a H;refine lr H results218 rfl ?_
  exact Gx
 intro h12 a H
 try have rM:=dF h12
 refine kH H (YM h12 rfl ?_);clear H;intro a H;refine qK 0 iT H (wg H rfl rfl h12) rfl rfl rfl (by omega) rfl ?_;clear H;intro a H;rw [<- mY] at H;refine kH H (YC h12 rfl (Pf h12 rfl (Rm rfl (Sp 17 rfl ?_ ?_)))) <;> clear H
 ·intro cu a H
  try have lN:=dT cu
  refine kH H (aM cu rfl (aM cu rfl (Pt cu rfl (Kz K3 (Ct rfl rfl (SR fun _ K6=>aj K6 rfl ?_))))));clear H K3 K6;intro a H;refine lr H results218 rfl ?_
  exact Gx
 intro cu a H
 try have lN:=dF cu
 refine kH H (YM cu rfl (YM cu rfl ?_));clear H;intro a H;refine FJ iT H (wg H rfl rfl cu) rfl rfl ?_;clear H;intro a H;refine nL _ H (wg H rfl rfl cu) rfl rfl rfl (by omega) (by omega) rfl ?_;clear H;intro a H;refine qK (s.size - 1) iT H (wg H rfl rfl cu) rfl rfl (by omega) (by omega) rfl ?_;clear H;intro a H;rw [<- mY] at H;refine kH H (YC cu rfl (Pf cu rfl (Kz K3 (Cd rfl ?_ ?_)))) <;> clear H K3
 ·intro bS a H
  try have jP:=dT bS
  refine kP H (SR fun _ K7=>aj K7 rfl ?_);clear H K7;intro a H;refine lr H results218 rfl ?_
  exact Gx
 intro bS a H
 try have jP:=dF bS
 refine kP H (Kc K2 (SQ fun _ K8=>SR fun _ K9=>Rm rfl (Rv iT rfl (Rm rfl (Kz K9 (SB ?_))))));clear H K2 K9;intro a H;skip;refine fF (ι:=Nat) (Tc:=[(0,_),(26,_)]) (Lc:=[]) (fun gh=>[(27,vi gh)]) (fun gh=>[]) (fun gh=>G) (fun gh=>gh<=s.size∧IB s gh=true) (fun gh=>s.size - gh) (0) (by exact H.sub ⟨rfl,rfl,rfl,ay⟩) ?_ ?_
 ·exact Jp
 clear H;intro k a w hI H;obtain ⟨hk,hno⟩:=hI;dsimp only [lca,bM] at H;refine kP H (SR fun _ aS=>Rc rfl (Kz aS (SQ fun _ bH=>Cd rfl ?_ ?_))) <;> clear H aS
 ·intro gD a H
  try have p28:=dT gD
  refine kP H (Kc bH (SQ fun _ bT=>SB (SR fun _ cK=>Rm rfl (aj cK rfl (SR fun _ dB=>Rm rfl (Rm rfl ?_))))));clear H bH cK;intro a H;refine qK k iT H wn rfl rfl rfl (by omega) rfl ?_;clear H;intro a H;rw [<- mY] at H;refine kH H (Rc rfl (Rm rfl (Sp 34 rfl ?_ ?_))) <;> clear H
  ·intro fu a H
   try have p34:=dT fu
   refine kH H (aJ fu rfl (aJ fu rfl (Pt fu rfl (Kz dB (Ct rfl rfl (SR fun _ eU=>aj eU rfl ?_))))));clear H dB eU;intro a H;refine lr H results218 rfl ?_
   exact Gx
  intro fu a H
  try have p34:=dF fu
  refine kH H (YM fu rfl (YM fu rfl ?_));clear H;intro a H;refine qK k iT H (wg H rfl rfl fu) rfl rfl rfl (by omega) rfl ?_;clear H;intro a H;rw [<- mY] at H;refine kH H (YC fu rfl (Pf fu rfl (Kz dB (Cd rfl ?_ ?_)))) <;> clear H dB
  ·intro jI a H
   try have p39:=dT jI
   refine kP H (SR fun _ eX=>aj eX rfl ?_);clear H eX;intro a H;refine lr H results218 rfl ?_
   exact Gx
  intro jI a H
  try have p39:=dF jI
  refine kP H (Kc bT (SC (Rd rfl (Rm rfl ?_))));clear H bT;intro a H;refine aB ?_;refine dJ ((k+1)) (by exact H.sub ⟨rfl,rfl,rfl,ay⟩) ?_
  exact ⟨by omega,by rw [atj,hno];simp [okB];omega⟩
 intro gD a H
 try have p28:=dF gD
 refine eu ?_;refine K8 _ _ ?_;clear K8;refine kP H (SR fun _ eG=>aj eG rfl ?_);clear H eG;intro a H;refine lr H results218 rfl ?_
 exact Gx
theorem aeR (G:GH) (w0:World) (hG:Hold G w0) (l:List bY) (p:bY->Bool) (v fv:ah) (hv:ak G (.sl 6 (l.map bY.dat)) v) (hf:∀ x∈l,uJ fv G x.dat (p x)) :
  Calls prog 243 #[v,fv] w0 (bE w0 G fun u G'=>u=vi (oG (l.findIdx? p))):=by
 obtain ⟨A,c,rfl,hc1,hc2,-⟩:=hv.slice;have hml:maxLen=9223372036854775807:=rfl;rw [bQ] at *;refine eN [(0,_),(1,_)] func243 rfl ntmps243 rfl rfl hG ?_;intro a H;refine kP H (SR fun _ K1=>aj K1 rfl (SQ fun _ K2=>SR fun _ K3=>Rm rfl (Rl lQ rfl (Rm rfl (Kz K3 (SB ?_))))));clear H K1 K3;intro a H;skip;refine fF (ι:=Nat × GH) (Tc:=[(0,_),(1,_),(7,_)]) (Lc:=[]) (fun gh=>[(8,vi gh.1)]) (fun gh=>[]) (fun gh=>gh.2) (fun gh=>gh.1<=l.length∧(l.take gh.1).findIdx? p=none∧(∀ b o,G b=some o->gh.2 b=some o)) (fun gh=>l.length - gh.1) ((0,G)) (by exact H.sub ⟨rfl,rfl,rfl,rfl,ay⟩) ?_ ?_
 ·exact rW
 clear H;rintro ⟨k,g⟩ a w hI H;dsimp only at hI H;obtain ⟨hk,hno,hgm⟩:=hI;dsimp only [lca,bM] at H;refine kP H (SR fun _ K4=>Rc rfl (Kz K4 (SQ fun _ K5=>Cd rfl ?_ ?_))) <;> clear H K4
 ·intro h9 a H
  try have p9:=dT h9
  have hk2:k < l.length:=by omega
  obtain ⟨b,o,pA,pc,rfl,hrow,hp,hrep⟩:=El (hv.mono hgm) hk2;refine kP H (Kc K5 (SQ fun _ K6=>SB (SR fun _ K7=>Rm rfl (aj K7 rfl (SR fun _ K8=>Rm rfl (Rm rfl (Rm rfl (Ri lQ jg rfl rfl ?_))))))));clear H K5 K7;intro a H;refine aV jg (cs:=[_,_,_,_,_,_]) H wn rfl rfl (fun j v hj=>H.hp.aI (hrow j v hj)) rfl ?_;clear H;intro a H;refine jJ H wn rfl rfl (hf _ (lC hk2) _ _ _ hgm H.ro hrep) rfl ?_;clear H;rintro v16 ql a w rfl nA H;refine K8 _ _ ?_;clear K8;refine jr H rfl ?_ ?_
  ·intro h16
   try have p16:=dT h16
   refine kP H (SR fun _ K9=>Rm rfl (aj K9 rfl ?_));clear H K9;intro a H;refine lr H results243 rfl ?_
   exact xJ
  intro h16
  try have p16:=dF h16
  refine kP H (Kc K6 (SC (Rd rfl (Rm rfl ?_))));clear H K6;intro a H;refine aB ?_;refine dJ ((k+1,ql)) (by exact H.sub ⟨rfl,rfl,rfl,rfl,ay⟩) ?_
  (try dsimp only);exact ED
 intro h9 a H
 try have p9:=dF h9
 refine eu ?_;refine K2 _ _ ?_;clear K2;refine kP H (SR fun _ aS=>aj aS rfl ?_);clear H aS;intro a H;refine lr H results243 rfl ?_
 exact xJ
def NI (p q:ByteArray):Bool:=p.toList == q.toList
theorem aoB {G:GH} {bk bn:Nat} {kind:Int} {name:ByteArray} (hk:aI G bk 0=some (vi kind)) (hn:aI G bn 0=some (.string name)) (x:bY):uJ (.func (.func 244) #[] #[(aK bk 0),(aK bn 0)]) G x.dat (decide (x.kind=kind) && NI x.name name):=by
 intro G1 w0 cs hm hG hr;refine jv (caps:=[(aK bk 0),(aK bn 0)]) amA ?_;obtain ⟨pA,pc,rfl,-⟩:=N8 hr;replace hk:=aF hm hk;replace hn:=aF hm hn;refine eN [(0,_),(1,_),(2,_)] func244 rfl ntmps244 rfl rfl hG ?_;intro a H;refine dz (fun _ K1=>?_);refine eB (cs:=[_,_,_,_,_,_]) H wn rfl rfl rfl ?_;clear H;intro b3 a w hb3 H;refine kH H (aj K1 rfl (SR fun _ K2=>bO xQ aG 0 rfl rfl (Rg aG rfl (by assumption) ?_)));clear H K1;intro a H;refine kH H (Rc rfl (Rm rfl (Sp 9 rfl ?_ ?_))) <;> clear H
 ·intro h9 a H
  try have p9:=dT h9
  refine kH H (YF EN h9 rfl (YO iR 0 h9 rfl (YR iR h9 rfl (by assumption) ?_)));clear H;intro a H;refine CU H (wg H rfl rfl h9) rfl rfl rfl ?_;clear H;intro a H;exact kH H (Pt h9 rfl (aj K2 rfl (LR results244 rfl fun H=>H.rt (by unfold NI;simp_all))))
 intro h9 a H
 try have p9:=dF h9
 exact kH H (aJ h9 rfl (aJ h9 rfl (Pf h9 rfl (aj K2 rfl (LR results244 rfl fun H=>H.rt (by unfold NI;simp_all))))))
theorem aoA {G:GH} {bi:Nat} {id:Int} (hb:aI G bi 0=some (vi id)) (x:bY):uJ (.func (.func 245) #[] #[(aK bi 0)]) G x.dat (decide (x.id=id)):=by
 intro G1 w0 cs hm hG hr;refine jv (caps:=[(aK bi 0)]) amB ?_;obtain ⟨pA,pc,rfl,-⟩:=N8 hr;replace hb:=aF hm hb;refine eN [(0,_),(1,_)] func245 rfl ntmps245 rfl rfl hG ?_;intro a H;refine dz (fun _ K1=>?_);refine eB (cs:=[_,_,_,_,_,_]) H wn rfl rfl rfl ?_;clear H;intro b2 a w hb2 H;refine kH H (aj K1 rfl (SR fun _ K2=>bO vN aG 0 rfl rfl (Rg aG rfl (by assumption) ?_)));clear H K1;intro a H;exact kH H (Rc rfl (aj K2 rfl (LR results245 rfl fun H=>H.rt rfl)))
def EP (l:List bY) (kind:Int) (name:ByteArray):Option Nat:=l.findIdx? fun x=>decide (x.kind=kind) && NI x.name name
def Qg (l:List bY) (id:Int):Option Nat:=l.findIdx? fun x=>decide (x.id=id)
theorem aeX (o:Option Nat):decide (0<=oG o)=o.isSome:=by cases o <;> simp [oG]
theorem aoC (G:GH) (w0:World) (hG:Hold G w0) (l:List bY) (kind:Int) (name:ByteArray) (v:ah) (hv:ak G (.sl 6 (l.map bY.dat)) v) :
  Calls prog 219 #[v,vi kind,.string name] w0 (bE w0 G fun u G'=>u=.tuple #[vi (max (oG (EP l kind name)) 0),.bool (EP l kind name).isSome]):=by
 obtain ⟨A,c,rfl,hc1,hc2,-⟩:=hv.slice;rw [bQ] at *;refine eN [(0,_),(1,_),(2,_)] func219 rfl ntmps219 rfl rfl hG ?_;intro a H;refine dz (fun _ K1=>?_);refine eB (cs:=[_]) H wn rfl rfl rfl ?_;clear H;intro b4 a w hb4 H;refine eB (cs:=[_]) H wn rfl rfl rfl ?_;clear H;intro b5 a w hb5 H;refine kH H (Ra rfl (aj K1 rfl (SQ fun _ K2=>?_)));clear H K1;intro a H;obtain ⟨Ga,hma,Cq,H⟩:=H.fO;obtain ⟨Gb,hmb,AV,H⟩:=H.fO
 have q4:aI Gb b4 0=some (vi kind):=by unfold aI;rw [AV];rfl
 have q5:aI Gb b5 0=some (.string name):=by unfold aI;rw [hmb _ _ Cq];rfl
 refine kP H (SC (Rm rfl ?_));clear H;intro a H;refine qd H wn rfl rfl ?_;clear H;intro a H;refine s_call acj H wn rfl (aeR _ _ H.ro l (fun x=>decide (x.kind=kind) && NI x.name name) _ _ ((hv.mono hma).mono hmb) (fun x _=>aoB q4 q5 x)) rfl ?_;clear H;rintro v11 uG a w rfl DU H;refine kH H (bG K2 rfl (SR fun _ K3=>Rm rfl ?_));clear H K2;intro a H;refine Sg H wn rfl rfl rfl ?_;clear H;intro a H;refine kH H (Rm rfl (Rc rfl (Ra rfl (aj K3 rfl ?_))));clear H K3;intro a H;refine dw ?_;refine (fJ H results219 (.cons (bB H rfl) (.cons (bB H rfl) .nil)) ?_).1;exact H.rt (by rw [<- aeX];rfl)
theorem aoD (G:GH) (w0:World) (hG:Hold G w0) (l:List bY) (id:Int) (v:ah) (hv:ak G (.sl 6 (l.map bY.dat)) v) :
  Calls prog 221 #[v,vi id] w0 (bE w0 G fun u G'=>u=.tuple #[vi (max (oG (Qg l id)) 0),.bool (Qg l id).isSome]):=by
 obtain ⟨A,c,rfl,hc1,hc2,-⟩:=hv.slice;rw [bQ] at *;refine eN [(0,_),(1,_)] func221 rfl ntmps221 rfl rfl hG ?_;intro a H;refine dz (fun _ K1=>?_);refine eB (cs:=[_]) H wn rfl rfl rfl ?_;clear H;intro b3 a w hb3 H;refine kH H (Ra rfl (aj K1 rfl (SQ fun _ K2=>?_)));clear H K1;intro a H;obtain ⟨Ga,hma,wQ,H⟩:=H.fO
 have q3:aI Ga b3 0=some (vi id):=by unfold aI;rw [wQ];rfl
 refine kP H (SC (Rm rfl ?_));clear H;intro a H;refine qd H wn rfl rfl ?_;clear H;intro a H;refine s_call acj H wn rfl (aeR _ _ H.ro l (fun x=>decide (x.id=id)) _ _ (hv.mono hma) (fun x _=>aoA q3 x)) rfl ?_;clear H;rintro v9 G9 a w rfl yS H;refine kH H (bG K2 rfl (SR fun _ K3=>Rm rfl ?_));clear H K2;intro a H;refine Sg H wn rfl rfl rfl ?_;clear H;intro a H;refine kH H (Rm rfl (Rc rfl (Ra rfl (aj K3 rfl ?_))));clear H K3;intro a H;refine dw ?_;refine (fJ H results221 (.cons (bB H rfl) (.cons (bB H rfl) .nil)) ?_).1;exact H.rt (by rw [<- aeX];rfl)
def Ny (l:List bY) (kind id:Int):Bool:=match Qg l id with|some i=>decide ((l[i]?.map bY.kind)=some kind)|none=>false
theorem aaA {p:Prop} (h:p:=by
 first
  | exact H.rt (gK (by rw [Ny,<- ho];dsimp only;rw [eD hil];simp))
  | exact H.rt (gK (by rw [Ny,<- ho];cases o <;> simp_all))):p:=h
theorem Xu (G:GH) (w0:World) (hG:Hold G w0) (l:List bY) (kind id:Int) (v:ah) (hv:ak G (.sl 6 (l.map bY.dat)) v) :
  Calls prog 181 #[v,vi kind,vi id] w0 (bE w0 G fun u G'=>u=.bool (Ny l kind id)):=by
 obtain ⟨A,c,rfl,hc1,hc2,-⟩:=hv.slice;rw [bQ] at *;refine eN [(0,_),(1,_),(2,_)] func181 rfl ntmps181 rfl rfl hG ?_;intro a H;refine kP H (SR fun _ K1=>aj K1 rfl (SR fun _ K2=>Rm rfl (Rm rfl ?_)));clear H K1;intro a H;refine s_call amq H wn rfl (aoD _ _ H.ro l id _ hv) rfl ?_;clear H;rintro v12 BF a w rfl yQ H;obtain ⟨o,ho⟩:∃ o,o=Qg l id:=⟨_,rfl⟩;rw [<- ho] at H;refine kH H (Rm rfl ?_);clear H;intro a H;(iterate 2 refine mh H wn rfl rfl rfl ?_;clear H;intro a H);refine kH H (Ra rfl (aj K2 rfl (SR fun _ K3=>Rm rfl (Rm rfl (Sp 16 rfl ?_ ?_))))) <;> clear H K2
 ·intro h16 a H
  try have p16:=dT h16
  obtain ⟨i,rfl⟩:=Option.isSome_iff_exists.1 h16
  have hil:i < l.length:=by
   obtain ⟨hi,-⟩:=List.findIdx?_eq_some_iff_getElem.1 ho.symm;exact hi
  rw [show max (oG (some i)) 0=(i:Int) by simp [oG]] at H;obtain ⟨b,o',pA,pc,rfl,hrow,hp,hrep⟩:=El (hv.mono yQ) hil;have r1:aI BF b (o'+i*6+1)=some (vi l[i].kind):=hrow 1 _ rfl;refine kH H (YM h16 rfl (YM h16 rfl (YI lQ jg h16 rfl rfl (YF xQ h16 rfl (YR aG h16 rfl (by assumption) ?_)))));clear H;intro a H;refine kH H (YM h16 rfl (YC h16 rfl (Pt h16 rfl (aj K3 rfl ?_))));clear H K3;intro a H;refine lr H results181 rfl ?_
  exact aaA
 intro h16 a H
 try have p16:=dF h16
 refine kH H (aM h16 rfl (aJ h16 rfl (aJ h16 rfl (Pf h16 rfl (aj K3 rfl ?_)))));clear H K3;intro a H;refine lr H results181 rfl ?_
 exact aaA
theorem P7:aQ 218:=aR func218 rfl
theorem amm:aQ 219:=aR func219 rfl
theorem JU:dX prog 192 5 5:=⟨by kernel_rfl⟩
theorem amo:aQ 220:=aR func220 rfl
theorem abX:aQ 129:=aR func129 rfl
theorem ak.pre {G:GH} {sz:Nat} {rows:List (List Dat)} {A:Option Addr} {n c:Nat} (h:ak G (.sl sz rows) (.slice A n c)) (k:Nat) (hk:k<=rows.length):ak G (.sl sz (rows.take k)) (.slice A k c):=by
 have h:=h.part 0 k (lu _) hk
 have e:(if c=0 then A else A.map (·.add (0*sz)))=A:=by
  split
  ·rfl
  cases A <;> simp [Addr.add]
 rw [e] at h
 simpa using h
theorem akO (G:GH) (w0:World) (hG:Hold G w0) (kind:Int):Calls prog 220 #[vi kind] w0 (bE w0 G fun u G'=>u=vi (if kind=1 then 2 else 1)):=by
 refine eN [(0,_)] func220 rfl ntmps220 rfl rfl hG ?_;intro a H;refine kP H (SR fun _ K1=>aj K1 rfl (SQ fun _ K2=>SR fun _ K3=>Rm rfl (Rc rfl (Kz K3 (Cd rfl ?_ ?_))))) <;> clear H K1 K3
 ·intro h4 a H
  try have p4:=dT h4
  exact kP H (SR fun _ K4=>aj K4 rfl (LR results220 rfl fun H=>H.rt (by first|(rw [nE];done)|rw [dL])))
 intro h4 a H
 try have p4:=dF h4
 exact kP H (Kc K2 (SR fun _ K5=>aj K5 rfl (LR results220 rfl fun H=>H.rt (by first|(rw [nE];done)|rw [dL]))))
def zT (l:List bY) (k:Nat):Option Int:=if k=0 then none else l[k - 1]?.map bY.id
theorem RF {l:List bY} {k:Nat} (h:k=0):zT l k=none:=aD h
def LV (k:Int):Bool:=decide (k=20) || decide (k=1)
def xg (q:Option Int) (dup:Bool) (s:bY):Int :=
 if s.id < 1∨1073741824 < s.id then 18 else if q=some s.id then 7 else if Fy q s.id=true then 6 else if s.kind≠1∧s.kind≠2 then 3 else if KD s.name=false then 13 else if dup=true then 7
 else if s.props.any (fun p=>LV p.key)=true then 4 else qW (if s.kind=1 then 2 else 1) s.props
def nJ (l:List bY) (k:Nat) (s:bY):Int:=xg (zT l k) (EP (l.take k) s.kind s.name).isSome s
theorem xL {p:Prop} (h:p:=by
 first
  | exact H.rt (cO vi e0.symm)
  | exact H.rt (cO vi e4.symm)
  | exact H.rt (cO vi e7.symm)
  | exact H.rt (cO vi e13.symm)
  | exact H.rt (cO vi e3.symm)
  | exact H.rt (cO vi e6.symm)
  | exact H.rt (cO vi (by rw [nJ,xg,nE]))):p:=h
theorem Pn {p:Prop} (h:p:=by
 exact ⟨by omega,q1',q2',by omega,by simpa using jT,fun b o h=>hm63 b o (jU b o (J4 b o h))⟩):p:=h
theorem aaB {p:Prop} (h:p:=by
 exact ⟨x.props[n],lC hn2,by simp [LV];omega⟩):p:=h
set_option maxHeartbeats 1000000 in
theorem atN (G:GH) (w0:World) (hG:Hold G w0) (l:List bY) (k:Nat) (v:ah) (hv:ak G (.sl 6 (l.map bY.dat)) v) (hk:k < l.length) (hs:l[k].name.size<=4611686018427387904) :
  Calls prog 180 #[v,vi k] w0 (bE w0 G fun u G'=>u=vi (nJ l k l[k])):=by
 obtain ⟨A,c,rfl,hc1,hc2,-⟩:=hv.slice;have hml:maxLen=9223372036854775807:=rfl;rw [bQ] at *;obtain ⟨b,o,pA,pc,rfl,hrow,hp,hrep⟩:=El hv hk;obtain ⟨x,hx⟩:∃ x,x=l[k]:=⟨_,rfl⟩;rw [<- hx] at hs hrow hp hrep |-;have hdp:∀ j v,[vi x.id,vi x.kind,.string x.name,vi x.base,vi x.next,.slice pA x.props.length pc][j]?=some v->aI G b (o+k*6+j)=some v:=hrow;obtain ⟨_,_,he0,aze,azf,-⟩:=hp.slice
 injection he0 with _ he1 he2
 rw [bQ] at *;subst he2
 obtain ⟨pk,hpk⟩:∃ pk,0 < k->aI G b (o+(k - 1)*6+0)=some (vi pk)∧zT l k=some pk:=by
  by_cases h0:0 < k
  ·obtain ⟨b',o',_,_,he,hr',-,-⟩:=El hv (show k - 1 < l.length by omega)
   injection he with he
   injection he with e1 e2 e3
   subst e1;subst e2;exact ⟨_,fun _=>⟨hr' 0 _ rfl,by rw [zT,dL,eD (by omega)];rfl⟩⟩
  exact ⟨0,fun h=>absurd h h0⟩
 refine eN [(0,_),(1,_)] func180 rfl ntmps180 rfl rfl hG ?_;intro a H;refine kP H (SR fun _ K1=>aj K1 rfl (SR fun _ K2=>Rm rfl (Rm rfl (Ri lQ jg rfl rfl ?_))));clear H K1;intro a H;refine aV jg (cs:=[_,_,_,_,_,_]) H wn rfl rfl (fun j v hj=>H.hp.aI (hrow j v hj)) rfl ?_;clear H;intro a H;refine dP jg H wn rfl ?_;clear H;intro b5 a w hb5 H;refine bK jg 0 (vs:=[_,_,_,_,_,_]) H wn rfl ?_;clear H;intro w H;refine K2 _ _ ?_;clear K2;refine uf (ι:=GH) (Tc:=[(0,_),(1,_),(5,_)]) (Lc:=[(_,_)]) (fun gh=>[]) (fun gh=>[]) (fun gh=>gh) (fun gh=>¬ (x.id < 1∨1073741824 < x.id)∧¬ zT l k=some x.id∧¬ Fy (zT l k) x.id=true∧¬ (x.kind≠1∧x.kind≠2)∧¬ KD x.name=false∧(∀ b o,G b=some o->gh b=some o)) (by exact H.sub ⟨rfl,rfl,rfl,ay⟩) ?_ ?_
 ·skip;refine kP H (SB (SR fun _ K3=>bO vN aG 0 rfl rfl (Rc rfl (Rm rfl (Sp 18 rfl ?_ ?_))))) <;> clear H
  ·intro h18 a H
   try have tH:=dT h18
   refine kH H (aM h18 rfl (Pt h18 rfl (aj K3 rfl (Ct rfl rfl (SR fun _ K4=>aj K4 rfl ?_)))));clear H K3 K4;intro a H;refine lr H results180 rfl ?_
   exact xL
  intro h18 a H
  try have tH:=dF h18
  refine kH H (YF vN h18 rfl (YO aG 0 h18 rfl (YC h18 rfl (Pf h18 rfl (aj K3 rfl (Cd rfl ?_ ?_)))))) <;> clear H K3
  ·intro dU a H
   try have kU:=dT dU
   refine kP H (SR fun _ K5=>aj K5 rfl ?_);clear H K5;intro a H;refine lr H results180 rfl ?_
   exact xL
  intro dU a H
  try have kU:=dF dU
  refine bR (fun _ K6=>?_)
  by_cases c0:0 < (k:Int)
  ·skip
   by_cases c1:x.id=pk
   ·skip;refine dI hmx [[],[0],[0,1],[0,1,2],ra 0 4,[0,1,2],[0,1,2],[0,1,2,6],[0,1,2,5,6,7],[0,1,2,5,6,7,8],[0,1,2,5,6,7,8,9],ra 0 11,ra 0 12,ra 0 13] [13] (by kernel_rfl) [_,_,_,_,vi x.id,_,_,vi ((k - 1:Nat):Int),_,_,_,_,_] H (aC (Z0 rfl (Rm rfl)) (Z1 0 24 rfl (Rc rfl)) (Z1 1 25 rfl (Rm rfl)) (Z1 2 26 rfl (YF vN (aH c0) rfl)) (aC (Z2 3 27 2 26 rfl (YO aG 0 (aH c0) rfl)) (Z1 2 26 rfl (YM (aH c0) rfl)) (Z1 2 26 rfl (YM (aH c0) rfl)) ?_ (aC (Z3 5 29 7 31 2 26 rfl (YI lQ jg (aH c0) rfl rfl)) (Z2 8 32 2 26 rfl (YF vN (aH c0) rfl)) (X2 9 33 2 26 rfl fun hG=>YR aG (aH c0) rfl (aF hG (hpk (by omega)).1)) (Z3 4 28 10 34 2 26 rfl (YC (aH c0) rfl)) (bP (Z2 2 26 11 35 rfl (Pt (aH c0) rfl)) (bP (bU rfl) dH))))) ?_
    ·refine dO 6 30 2 26 rfl rfl fun _ a w G1 hG HT H fin=>?_;refine nL _ H (wg H rfl rfl (aH c0)) rfl rfl rfl (by omega) (by omega) rfl ?_;clear H;intro a H;exact qF
    clear H;intro a w G J4 H hv;have H:=H.aN (hv 12 36 rfl rfl) rfl;clear hv;refine kH H (Ra rfl ?_);clear H;intro a H;refine aB ⟨rfl,?_⟩;refine K6 _ _ ?_;clear K6;refine Ce H rfl (aH c1) ?_;refine bR (fun _ K7=>?_)
    have e7:nJ l k x=7:=by rw [nJ,xg,dL,aD (by rw [(hpk (by omega)).2,c1])]
    refine kP H (SC (bG K7 rfl ?_));clear H K7;intro a H;refine lr H results180 rfl ?_
    exact xL
   skip;refine dI hmx [[],[0],[0,1],[0,1,2],ra 0 4,[0,1,2],[0,1,2],[0,1,2,6],[0,1,2,5,6,7],[0,1,2,5,6,7,8],[0,1,2,5,6,7,8,9],ra 0 11,ra 0 12,ra 0 13] [13] (by kernel_rfl) [_,_,_,_,vi x.id,_,_,vi ((k - 1:Nat):Int),_,_,_,_,_] H (aC (Z0 rfl (Rm rfl)) (Z1 0 24 rfl (Rc rfl)) (Z1 1 25 rfl (Rm rfl)) (Z1 2 26 rfl (YF vN (aH c0) rfl)) (aC (Z2 3 27 2 26 rfl (YO aG 0 (aH c0) rfl)) (Z1 2 26 rfl (YM (aH c0) rfl)) (Z1 2 26 rfl (YM (aH c0) rfl)) ?_ (aC (Z3 5 29 7 31 2 26 rfl (YI lQ jg (aH c0) rfl rfl)) (Z2 8 32 2 26 rfl (YF vN (aH c0) rfl)) (X2 9 33 2 26 rfl fun hG=>YR aG (aH c0) rfl (aF hG (hpk (by omega)).1)) (Z3 4 28 10 34 2 26 rfl (YC (aH c0) rfl)) (bP (Z2 2 26 11 35 rfl (Pt (aH c0) rfl)) (bP (bU rfl) dH))))) ?_
   ·refine dO 6 30 2 26 rfl rfl fun _ a w G1 hG HT H fin=>?_;refine nL _ H (wg H rfl rfl (aH c0)) rfl rfl rfl (by omega) (by omega) rfl ?_;clear H;intro a H;exact qF
   clear H;intro a w G J4 H hv;have H:=H.aN (hv 12 36 rfl rfl) rfl;clear hv;refine kH H (Ra rfl ?_);clear H;intro a H;refine aB ⟨rfl,?_⟩;refine K6 _ _ ?_;clear K6;refine sS H rfl (aY c1) ?_;refine bR (fun _ K8=>?_)
   have q1:¬ (0 < (k:Int)∧x.id=pk):=by first|exact fun h=>c1 h.2|exact fun h=>c0 h.1
   have q1':¬ zT l k=some x.id:=fun h=>q1 (by
    by_cases h0:0 < k
    ·rw [(hpk h0).2] at h
     injection h with h
     exact Ph
    rw [RF (by omega)] at h
    cases h)
   by_cases c3:x.id < pk
   ·skip;refine dI hmx [[],[0],[0,1],[0,1,2],ra 0 4,[0,1,2],[0,1,2],[0,1,2,6],[0,1,2,5,6,7],[0,1,2,5,6,7,8],[0,1,2,5,6,7,8,9],ra 0 11,ra 0 12,ra 0 13] [13] (by kernel_rfl) [_,_,_,_,vi x.id,_,_,vi ((k - 1:Nat):Int),_,_,_,_,_] H (aC (Z0 rfl (Rm rfl)) (Z1 0 38 rfl (Rc rfl)) (Z1 1 39 rfl (Rm rfl)) (Z1 2 40 rfl (YF vN (aH c0) rfl)) (aC (Z2 3 41 2 40 rfl (YO aG 0 (aH c0) rfl)) (Z1 2 40 rfl (YM (aH c0) rfl)) (Z1 2 40 rfl (YM (aH c0) rfl)) ?_ (aC (Z3 5 43 7 45 2 40 rfl (YI lQ jg (aH c0) rfl rfl)) (Z2 8 46 2 40 rfl (YF vN (aH c0) rfl)) (X2 9 47 2 40 rfl fun hG=>YR aG (aH c0) rfl (aF hG (aF J4 (hpk (by omega)).1))) (Z3 4 42 10 48 2 40 rfl (YC (aH c0) rfl)) (bP (Z2 2 40 11 49 rfl (Pt (aH c0) rfl)) (bP (bU rfl) dH))))) ?_
    ·refine dO 6 44 2 40 rfl rfl fun _ a w G1 hG HT H fin=>?_;refine nL _ H (wg H rfl rfl (aH c0)) rfl rfl rfl (by omega) (by omega) rfl ?_;clear H;intro a H;exact qF
    clear H;intro a w G jU H hv;have H:=H.aN (hv 12 50 rfl rfl) rfl;clear hv;refine kH H (Ra rfl ?_);clear H;intro a H;refine aB ⟨rfl,?_⟩;refine K8 _ _ ?_;clear K8;refine Ce H rfl (aH c3) ?_;refine bR (fun _ K9=>?_)
    have e6:nJ l k x=6:=by rw [nJ,xg,dL,av q1',aD (by rw [(hpk (by omega)).2];exact aH c3)]
    refine kP H (SC (bG K9 rfl ?_));clear H K9;intro a H;refine lr H results180 rfl ?_
    exact xL
   skip;refine dI hmx [[],[0],[0,1],[0,1,2],ra 0 4,[0,1,2],[0,1,2],[0,1,2,6],[0,1,2,5,6,7],[0,1,2,5,6,7,8],[0,1,2,5,6,7,8,9],ra 0 11,ra 0 12,ra 0 13] [13] (by kernel_rfl) [_,_,_,_,vi x.id,_,_,vi ((k - 1:Nat):Int),_,_,_,_,_] H (aC (Z0 rfl (Rm rfl)) (Z1 0 38 rfl (Rc rfl)) (Z1 1 39 rfl (Rm rfl)) (Z1 2 40 rfl (YF vN (aH c0) rfl)) (aC (Z2 3 41 2 40 rfl (YO aG 0 (aH c0) rfl)) (Z1 2 40 rfl (YM (aH c0) rfl)) (Z1 2 40 rfl (YM (aH c0) rfl)) ?_ (aC (Z3 5 43 7 45 2 40 rfl (YI lQ jg (aH c0) rfl rfl)) (Z2 8 46 2 40 rfl (YF vN (aH c0) rfl)) (X2 9 47 2 40 rfl fun hG=>YR aG (aH c0) rfl (aF hG (aF J4 (hpk (by omega)).1))) (Z3 4 42 10 48 2 40 rfl (YC (aH c0) rfl)) (bP (Z2 2 40 11 49 rfl (Pt (aH c0) rfl)) (bP (bU rfl) dH))))) ?_
   ·refine dO 6 44 2 40 rfl rfl fun _ a w G1 hG HT H fin=>?_;refine nL _ H (wg H rfl rfl (aH c0)) rfl rfl rfl (by omega) (by omega) rfl ?_;clear H;intro a H;exact qF
   clear H;intro a w G jU H hv;have H:=H.aN (hv 12 50 rfl rfl) rfl;clear hv;refine kH H (Ra rfl ?_);clear H;intro a H;refine aB ⟨rfl,?_⟩;refine K8 _ _ ?_;clear K8;refine sS H rfl (aY c3) ?_;refine bR (fun _ aS=>?_)
   have q2:¬ (0 < (k:Int)∧x.id < pk):=by first|exact fun h=>c3 h.2|exact fun h=>c0 h.1
   have q2':¬ Fy (zT l k) x.id=true:=fun h=>q2 (by
    by_cases h0:0 < k
    ·rw [(hpk h0).2] at h;exact Pj
    rw [RF (by omega)] at h
    cases h)
   refine kP H (SC (bO xQ aG 0 rfl rfl (Rc rfl (Rm rfl (Sp 55 rfl ?_ ?_))))) <;> clear H
   ·intro qx a H
    try have p55:=dT qx
    refine kH H (YF xQ qx rfl (YO aG 0 qx rfl (YC qx rfl (Pt qx rfl (bG aS rfl (Cd rfl ?_ ?_)))))) <;> clear H aS
    ·intro lZ a H
     try have p51:=dT lZ
     refine bR (fun _ bH=>?_)
     have e3:nJ l k x=3:=by rw [nJ,xg,dL,av q1',av q2',nE]
     refine kP H (SC (bG bH rfl ?_));clear H bH;intro a H;refine lr H results180 rfl ?_
     exact xL
    intro lZ a H
    try have p51:=dF lZ
    refine kP H (SR fun _ bT=>bO EN iR 0 rfl rfl ?_);clear H;intro a H;refine s_call P7 H wn rfl (QX _ _ H.ro x.name hs) rfl ?_;clear H;rintro v63 Ew a w rfl hm63 H;refine kH H (Rn rfl (aj bT rfl (Cd rfl ?_ ?_))) <;> clear H bT
    ·intro jT a H
     try have p60:=dT jT
     refine bR (fun _ cK=>?_)
     have e13:nJ l k x=13:=by rw [nJ,xg,dL,av q1',av q2',dL,aD (by simpa using jT)]
     refine kP H (SC (bG cK rfl ?_));clear H cK;intro a H;refine lr H results180 rfl ?_
     exact xL
    intro jT a H
    try have p60:=dF jT
    refine iG ?_;refine ⟨Ew,by exact H.sub ⟨rfl,rfl,rfl,ay⟩,?_⟩;exact Pn
   intro qx a H
   try have p55:=dF qx
   refine kH H (aM qx rfl (Pf qx rfl (bG aS rfl (Cf rfl rfl (SR fun _ dB=>bO EN iR 0 rfl rfl ?_)))));clear H aS;intro a H;refine s_call P7 H wn rfl (QX _ _ H.ro x.name hs) rfl ?_;clear H;rintro v63 Ew a w rfl hm63 H;refine kH H (Rn rfl (aj dB rfl (Cd rfl ?_ ?_))) <;> clear H dB
   ·intro jT a H
    try have p60:=dT jT
    refine bR (fun _ eU=>?_)
    have e13:nJ l k x=13:=by rw [nJ,xg,dL,av q1',av q2',dL,aD (by simpa using jT)]
    refine kP H (SC (bG eU rfl ?_));clear H eU;intro a H;refine lr H results180 rfl ?_
    exact xL
   intro jT a H
   try have p60:=dF jT
   refine iG ?_;refine ⟨Ew,by exact H.sub ⟨rfl,rfl,rfl,ay⟩,?_⟩;exact Pn
  skip;refine dI hmx [[],[0],[0,1],[0,1,2],ra 0 4,[0,1,2],[0,1,2],[0,1,2,6],[0,1,2,5,6,7],[0,1,2,5,6,7,8],[0,1,2,5,6,7,8,9],ra 0 11,ra 0 12,ra 0 13] [13] (by kernel_rfl) [_,_,_,undef,undef,undef,undef,undef,undef,undef,undef,undef,_] H (aC (Z0 rfl (Rm rfl)) (Z1 0 24 rfl (Rc rfl)) (Z1 1 25 rfl (Rm rfl)) (aZ 2 (aY c0) rfl rfl) (aC (aZ 2 (aY c0) rfl rfl) (aZ 2 (aY c0) rfl rfl) (aZ 2 (aY c0) rfl rfl) (aZ 2 (aY c0) rfl rfl) (aC (aZ 2 (aY c0) rfl rfl) (aZ 2 (aY c0) rfl rfl) (aZ 2 (aY c0) rfl rfl) (aZ 2 (aY c0) rfl rfl) (bP (Z2 2 26 11 35 rfl (Pf (aY c0) rfl)) (bP (bU rfl) dH))))) ?_
  clear H;intro a w G J4 H hv;have H:=H.aN (hv 12 36 rfl rfl) rfl;clear hv;refine kH H (Ra rfl ?_);clear H;intro a H;refine aB ⟨rfl,?_⟩;refine K6 _ _ ?_;clear K6;refine sS H rfl rfl ?_;refine bR (fun _ eX=>?_)
  have q1:¬ (0 < (k:Int)∧x.id=pk):=by first|exact fun h=>c1 h.2|exact fun h=>c0 h.1
  have q1':¬ zT l k=some x.id:=fun h=>q1 (by
   by_cases h0:0 < k
   ·rw [(hpk h0).2] at h
    injection h with h
    exact Ph
   rw [RF (by omega)] at h
   cases h)
  refine dI hmx [[],[0],[0,1],[0,1,2],ra 0 4,[0,1,2],[0,1,2],[0,1,2,6],[0,1,2,5,6,7],[0,1,2,5,6,7,8],[0,1,2,5,6,7,8,9],ra 0 11,ra 0 12,ra 0 13] [13] (by kernel_rfl) [_,_,_,undef,undef,undef,undef,undef,undef,undef,undef,undef,_] H (aC (Z0 rfl (Rm rfl)) (Z1 0 38 rfl (Rc rfl)) (Z1 1 39 rfl (Rm rfl)) (aZ 2 (aY c0) rfl rfl) (aC (aZ 2 (aY c0) rfl rfl) (aZ 2 (aY c0) rfl rfl) (aZ 2 (aY c0) rfl rfl) (aZ 2 (aY c0) rfl rfl) (aC (aZ 2 (aY c0) rfl rfl) (aZ 2 (aY c0) rfl rfl) (aZ 2 (aY c0) rfl rfl) (aZ 2 (aY c0) rfl rfl) (bP (Z2 2 40 11 49 rfl (Pf (aY c0) rfl)) (bP (bU rfl) dH))))) ?_
  clear H;intro a w G jU H hv;have H:=H.aN (hv 12 50 rfl rfl) rfl;clear hv;refine kH H (Ra rfl ?_);clear H;intro a H;refine aB ⟨rfl,?_⟩;refine eX _ _ ?_;clear eX;refine sS H rfl rfl ?_;refine bR (fun _ eG=>?_)
  have q2:¬ (0 < (k:Int)∧x.id < pk):=by first|exact fun h=>c3 h.2|exact fun h=>c0 h.1
  have q2':¬ Fy (zT l k) x.id=true:=fun h=>q2 (by
   by_cases h0:0 < k
   ·rw [(hpk h0).2] at h;exact Pj
   rw [RF (by omega)] at h
   cases h)
  refine kP H (SC (bO xQ aG 0 rfl rfl (Rc rfl (Rm rfl (Sp 55 rfl ?_ ?_))))) <;> clear H
  ·intro qx a H
   try have p55:=dT qx
   refine kH H (YF xQ qx rfl (YO aG 0 qx rfl (YC qx rfl (Pt qx rfl (bG eG rfl (Cd rfl ?_ ?_)))))) <;> clear H eG
   ·intro lZ a H
    try have p51:=dT lZ
    refine bR (fun _ fC=>?_)
    have e3:nJ l k x=3:=by rw [nJ,xg,dL,av q1',av q2',nE]
    refine kP H (SC (bG fC rfl ?_));clear H fC;intro a H;refine lr H results180 rfl ?_
    exact xL
   intro lZ a H
   try have p51:=dF lZ
   refine kP H (SR fun _ gX=>bO EN iR 0 rfl rfl ?_);clear H;intro a H;refine s_call P7 H wn rfl (QX _ _ H.ro x.name hs) rfl ?_;clear H;rintro v63 Ew a w rfl hm63 H;refine kH H (Rn rfl (aj gX rfl (Cd rfl ?_ ?_))) <;> clear H gX
   ·intro jT a H
    try have p60:=dT jT
    refine bR (fun _ fM=>?_)
    have e13:nJ l k x=13:=by rw [nJ,xg,dL,av q1',av q2',dL,aD (by simpa using jT)]
    refine kP H (SC (bG fM rfl ?_));clear H fM;intro a H;refine lr H results180 rfl ?_
    exact xL
   intro jT a H
   try have p60:=dF jT
   refine iG ?_;refine ⟨Ew,by exact H.sub ⟨rfl,rfl,rfl,ay⟩,?_⟩;exact Pn
  intro qx a H
  try have p55:=dF qx
  refine kH H (aM qx rfl (Pf qx rfl (bG eG rfl (Cf rfl rfl (SR fun _ iI=>bO EN iR 0 rfl rfl ?_)))));clear H eG;intro a H;refine s_call P7 H wn rfl (QX _ _ H.ro x.name hs) rfl ?_;clear H;rintro v63 Ew a w rfl hm63 H;refine kH H (Rn rfl (aj iI rfl (Cd rfl ?_ ?_))) <;> clear H iI
  ·intro jT a H
   try have p60:=dT jT
   refine bR (fun _ jH=>?_)
   have e13:nJ l k x=13:=by rw [nJ,xg,dL,av q1',av q2',dL,aD (by simpa using jT)]
   refine kP H (SC (bG jH rfl ?_));clear H jH;intro a H;refine lr H results180 rfl ?_
   exact xL
  intro jT a H
  try have p60:=dF jT
  refine iG ?_;refine ⟨Ew,by exact H.sub ⟨rfl,rfl,rfl,ay⟩,?_⟩;exact Pn
 clear H;intro g a w hI H;obtain ⟨q0,q1',q2',q3,q4,hgm⟩:=hI;dsimp only [lca,bM] at H;refine bR (fun _ mK=>?_);refine bR (fun _ mD=>?_);have aeF:=(hv.mono hgm).pre k (by rw [bQ];omega);rw [<- List.map_take] at aeF;have arf:=hp.mono hgm;refine dI hmx [[],[],[0,1],[],[3],[],[5],ra 0 7,ra 0 8,ra 0 9,ra 0 9,ra 0 10,ra 0 12] [12] (by kernel_rfl) [_,_,.slice (some ⟨b,o,none⟩) k c,_,vi x.kind,_,.string x.name,.tuple #[vi (max (oG (EP (l.take k) x.kind x.name)) 0),.bool (EP (l.take k) x.kind x.name).isSome],_,vi (max (oG (EP (l.take k) x.kind x.name)) 0),.bool (EP (l.take k) x.kind x.name).isSome,_] H (aC (Z0 rfl (Rm rfl)) (Z0 rfl (Rm rfl)) ?_ (Z0 rfl (Rf xQ rfl)) (aC (Z1 3 69 rfl (Ro aG 0 rfl)) (Z0 rfl (Rf EN rfl)) (Z1 5 71 rfl (Ro iR 0 rfl)) ?_ (aC (Z1 7 73 rfl (Rm rfl)) ?_ ?_ (Z1 9 74 rfl (Ra rfl)) (bP (bU rfl) dH)))) ?_
 ·refine dO 0 66 1 67 rfl rfl fun _ a w G1 hG HT H fin=>?_;refine FL lQ jg k H wn rfl rfl rfl (by omega) rfl ?_;clear H;intro a H;exact dZ
 ·refine zy 2 68 4 70 6 72 rfl rfl fun _ a w G1 hG HT H fin=>?_;refine s_call amm H wn rfl (aoC _ _ H.ro (l.take k) x.kind x.name _ (aeF.mono hG)) rfl ?_;clear H;rintro v73 G73 a w rfl aps H;exact fin H aps (rfl)
 ·refine eY 8 65 rfl rfl fun _ a w G1 hG HT H fin=>?_;refine mh H wn rfl rfl rfl ?_;clear H;intro a H;exact dZ
 ·refine eY 8 65 rfl rfl fun _ a w G1 hG HT H fin=>?_;refine mh H wn rfl rfl rfl ?_;clear H;intro a H;exact dZ
 clear H;intro a w G oM H hv;have H:=H.aN (hv 10 75 rfl rfl) rfl;clear hv;refine kH H (Ra rfl ?_);clear H;intro a H;refine aB ⟨rfl,?_⟩;refine mD _ _ ?_;clear mD;refine kP H (SR fun _ kY=>Rm rfl (Kz kY (Cd rfl ?_ ?_))) <;> clear H kY
 ·intro DI a H
  try have X9:=dT DI
  refine bR (fun _ om=>?_)
  have e7:nJ l k x=7:=by rw [nJ,xg,dL,av q1',av q2',av q3,av q4,aD DI]
  refine kP H (SC (bG om rfl ?_));clear H om;intro a H;refine lr H results180 rfl ?_
  exact xL
 intro DI a H
 try have X9:=dF DI
 refine kP H (Kc mK (SQ fun _ oq=>SQ fun _ kZ=>?_));clear H mK;intro a H
 have q5:¬ (EP (l.take k) x.kind x.name).isSome=true:=by simpa using DI
 have Fj:=arf.mono oM;refine kP H (SC (bO JU tK 0 rfl rfl (Rl gU rfl (Rm rfl (Kn kZ (SB ?_))))));clear H kZ;intro a H;skip;refine fF (ι:=Nat) (Tc:=[(5,_),(78,_),(79,_)]) (Lc:=[(_,_)]) (fun gh=>[(80,vi gh)]) (fun gh=>[]) (fun gh=>G) (fun gh=>gh<=x.props.length∧(x.props.take gh).any (fun p=>LV p.key)=false) (fun gh=>x.props.length - gh) (0) (by exact H.sub ⟨rfl,rfl,rfl,rfl,ay⟩) ?_ ?_
 ·exact Jp
 clear H;intro n a w hI H;obtain ⟨hn,hno⟩:=hI;dsimp only [lca,bM] at H;refine kP H (SR fun _ qm=>Rc rfl (Kz qm (SQ fun _ qD=>Cd rfl ?_ ?_))) <;> clear H qm
 ·intro VP a H
  try have p81:=dT VP
  have hn2:n < x.props.length:=by omega
  obtain ⟨pb,po,rfl,hrow2⟩:=IJ Fj hn2;have hrow:=hrow2;refine kP H (Kc qD (SQ fun _ qP=>SB (SR fun _ rR=>Ri gU iw rfl rfl ?_)));clear H qD;intro a H;refine aV iw (cs:=[_,_]) H wn rfl rfl (fun j v hj=>H.hp.aI (hrow j v hj)) rfl ?_;clear H;intro a H;refine dP iw H wn rfl ?_;clear H;intro b9 a w wR H;refine bK iw 0 (vs:=[_,_]) H wn rfl ?_;clear H;intro w H;refine rR _ _ ?_;clear rR;refine kP H (SR fun _ qQ=>bO xP aG 0 rfl rfl (Rc rfl (Rm rfl (Sp 87 rfl ?_ ?_)))) <;> clear H
  ·intro h87 a H
   try have Yb:=dT h87
   refine kH H (aM h87 rfl (Pt h87 rfl (Kz qQ (Ct rfl rfl (SQ fun _ rT=>?_)))));clear H qQ;intro a H
   have e4:nJ l k x=4:=by
    rw [nJ,xg,dL,av q1',av q2',av q3,av q4,av q5,aD];rw [List.any_eq_true];exact aaB
   refine kP H (SC (bG rT rfl ?_));clear H rT;intro a H;refine lr H results180 rfl ?_
   exact xL
  intro h87 a H
  try have Yb:=dF h87
  refine kH H (YF xP h87 rfl (YO aG 0 h87 rfl (YC h87 rfl (Pf h87 rfl (Kz qQ (Cd rfl ?_ ?_)))))) <;> clear H qQ
  ·intro VR a H
   try have p91:=dT VR
   refine bR (fun _ vD=>?_)
   have e4:nJ l k x=4:=by
    rw [nJ,xg,dL,av q1',av q2',av q3,av q4,av q5,aD];rw [List.any_eq_true];exact aaB
   refine kP H (SC (bG vD rfl ?_));clear H vD;intro a H;refine lr H results180 rfl ?_
   exact xL
  intro VR a H
  try have p91:=dF VR
  refine kP H (Kc qP (SC (Rd rfl (Rm rfl ?_))));clear H qP;intro a H;refine aB ?_;refine dJ ((n+1)) (by exact (H.fG (Pl:=[_,_]) (eH:=[_]) [1] (by decide) rfl).sub ⟨rfl,rfl,rfl,rfl,ay⟩) ?_
  exact ⟨by omega,by rw [kg hn2,List.any_append,hno];simp [LV];omega⟩
 intro VP a H
 try have p81:=dF VP
 refine eu ?_;refine oq _ _ ?_;clear oq;refine bR (fun _ sN=>?_)
 have q6:¬ x.props.any (fun p=>LV p.key)=true:=by
  rw [show x.props.take n=x.props from jm (by omega)] at hno;rw [hno];decide
 have e0:nJ l k x=qW (if x.kind=1 then 2 else 1) x.props:=by rw [nJ,xg,dL,av q1',av q2',av q3,av q4,av q5,av q6]
 refine dI hmx [[],[0],[0,1],[],[3],ra 0 5,ra 0 6] [5,6] (by kernel_rfl) [_,vi x.kind,vi (if x.kind=1 then 2 else 1),_,.slice pA x.props.length pc] H (aC (Z0 rfl (Rf xQ rfl)) (Z1 0 93 rfl (Ro aG 0 rfl)) ?_ (Z0 rfl (Rf JU rfl)) (bP (Z1 3 96 rfl (Ro tK 0 rfl)) (bP (bU rfl) (bP (bU rfl) dH)))) ?_
 ·refine eY 1 94 rfl rfl fun _ a w G1 hG HT H fin=>?_;refine s_call amo H wn rfl (akO _ _ H.ro x.kind) rfl ?_;clear H;rintro v95 G95 a w rfl apt H;exact fin H apt (rfl)
 clear H;intro a w G J3 H hv;have H:=H.aN (hv 2 95 rfl rfl) rfl;have H:=H.aN (hv 4 97 rfl rfl) rfl;clear hv;refine s_call abX H wn rfl (afW _ _ H.ro _ x.props _ (Fj.mono J3)) rfl ?_;clear H;rintro v98 G98 a w rfl azd H;refine kH H (Ra rfl ?_);clear H;intro a H;refine aB ⟨rfl,?_⟩;refine sN _ _ ?_;clear sN;refine lr H results180 rfl ?_
 exact xL
theorem CZ:Ty prog 33 1 24 [.slice none 0 0] false:=⟨by kernel_rfl,by kernel_rfl⟩
theorem vw:prog.underlying 33=some (.slice 107):=by kernel_rfl
theorem xk:Ty prog 107 6 64 [.int .i64 0,.int .i64 0,.string ⟨#[]⟩,.int .i64 0,.string ⟨#[]⟩,.bool false] true:=⟨by kernel_rfl,by kernel_rfl⟩
theorem acF:dX prog 107 0 0:=⟨by kernel_rfl⟩
theorem acG:dX prog 107 1 1:=⟨by kernel_rfl⟩
theorem ams:aQ 224:=aR func224 rfl
theorem alY:aQ 187:=aR func187 rfl
theorem aop:dX prog 107 2 2:=⟨by kernel_rfl⟩
theorem abW:aQ 127:=aR func127 rfl
theorem aoq:dX prog 107 3 3:=⟨by kernel_rfl⟩
theorem aor:dX prog 107 4 4:=⟨by kernel_rfl⟩
theorem U1:aQ 190:=aR func190 rfl
theorem ama:aQ 189:=aR func189 rfl
theorem alZ:aQ 188:=aR func188 rfl
theorem alX:aQ 186:=aR func186 rfl
theorem Ip {G:GH} {b:Nat} (l:List Int) (h:G b=some (.cells (l.map vi).toArray 49 (0,0))) (hl:l.length<=maxLen):ak G (.sl 1 (l.map fun k=>[li k])) (.slice (some ⟨b,0,none⟩) l.length l.length) :=
 ak.vZ h (by simp) (eP _) hl (jm (by simp)) (Fu G l)
theorem Uy {G:GH} {l:List gI} {A:Option Addr} {n c k:Nat} (hv:ak G (.sl 6 (l.map gI.dat)) (.slice A n c)) (hk:k < l.length):∃ b o,A=some ⟨b,o,none⟩∧(∀ j u,l[k].cells[j]?=some u->aI G b (o+k*6+j)=some u)∧bD G l[k].dat l[k].cells:=by
 obtain ⟨A',c',he,_,_,hg⟩:=hv.slice
 injection he with e1 e2 e3
 subst e1;obtain ⟨b,o,cs,h1,h2,h3,h4⟩:=hg k l[k].dat (by simp [hk]);have:=PL h4;subst this;exact ⟨b,o,h1,h3,h4⟩
theorem akp {G:GH} {bl:Nat} {l:List gI} {A:Option Addr} {n c:Nat} (hb:aI G bl 0=some (.slice A n c)) (hv:ak G (.sl 6 (l.map gI.dat)) (.slice A n c)):vC (.func (.func 189) #[] #[(aK bl 0)]) G l.length fun k=>(l[k]?.map gI.id).getD 0:=by
 intro k hk G1 w0 hm hG;refine jv (caps:=[(aK bl 0)]) ama ?_;replace hb:=aF hm hb
 obtain rfl:n=l.length:=by have:=hv.len;simpa using this
 obtain ⟨b,o,rfl,hrow,-⟩:=Uy (hv.mono hm) hk;have hq:=hrow 0 _ rfl;refine eN [(0,_),(1,_)] func189 rfl ntmps189 rfl rfl hG ?_;intro a H;refine kP H (SR fun _ K1=>aj K1 rfl (SR fun _ K2=>Rg CZ rfl (by assumption) ?_));clear H K1;intro a H;refine kH H (Rm rfl (Ri vw xk rfl rfl (Rf acF rfl (Rg aG rfl (by assumption) ?_))));clear H;intro a H;exact kH H (aj K2 rfl (LR results189 rfl fun H=>H.rt (by dsimp only;rw [eD hk];rfl)))
theorem akq {G:GH} {bc:Nat} {x:gI} (hb:aI G bc 1=some (vi x.parent)) (y:gI):uJ (.func (.func 188) #[] #[(aK bc 0)]) G y.dat (decide (y.id=x.parent)):=by
 intro G1 w0 cs hm hG hr;refine jv (caps:=[(aK bc 0)]) alZ ?_;obtain rfl:=PL hr;replace hb:=aF hm hb;refine eN [(0,_),(1,_)] func188 rfl ntmps188 rfl rfl hG ?_;intro a H;refine dz (fun _ K1=>?_);refine eB (cs:=[_,_,_,_,_,_]) H wn rfl rfl rfl ?_;clear H;intro b2 a w hb2 H;refine kH H (aj K1 rfl (SR fun _ K2=>bO acF aG 0 rfl rfl (Rf acG rfl (Rg aG rfl (by assumption) ?_))));clear H K1;intro a H;exact kH H (Rc rfl (aj K2 rfl (LR results188 rfl fun H=>H.rt rfl)))
theorem arY (G:GH) (w0:World) (hG:Hold G w0) (l:List gI) (p:gI->Bool) (v fv:ah) (hv:ak G (.sl 6 (l.map gI.dat)) v) (hf:∀ x∈l,uJ fv G x.dat (p x)) :
  Calls prog 224 #[v,fv] w0 (bE w0 G fun u G'=>u=vi (oG (l.findIdx? p))):=by
 obtain ⟨A,c,rfl,hc1,hc2,hg⟩:=hv.slice;have hml:maxLen=9223372036854775807:=rfl;rw [bQ] at *;refine eN [(0,_),(1,_)] func224 rfl ntmps224 rfl rfl hG ?_;intro a H;refine kP H (SR fun _ K1=>aj K1 rfl (SQ fun _ K2=>SR fun _ K3=>Rm rfl (Rl vw rfl (Rm rfl (Kz K3 (SB ?_))))));clear H K1 K3;intro a H;skip;refine fF (ι:=Nat × GH) (Tc:=[(0,_),(1,_),(7,_)]) (Lc:=[]) (fun gh=>[(8,vi gh.1)]) (fun gh=>[]) (fun gh=>gh.2) (fun gh=>gh.1<=l.length∧(l.take gh.1).findIdx? p=none∧(∀ b o,G b=some o->gh.2 b=some o)) (fun gh=>l.length - gh.1) ((0,G)) (by exact H.sub ⟨rfl,rfl,rfl,rfl,ay⟩) ?_ ?_
 ·exact rW
 clear H;rintro ⟨k,g⟩ a w hI H;dsimp only at hI H;obtain ⟨hk,hno,hgm⟩:=hI;dsimp only [lca,bM] at H;refine kP H (SR fun _ K4=>Rc rfl (Kz K4 (SQ fun _ K5=>Cd rfl ?_ ?_))) <;> clear H K4
 ·intro h9 a H
  try have p9:=dT h9
  have hk2:k < l.length:=by omega
  obtain ⟨b,o,rfl,hrow,hrep⟩:=Uy hv hk2;refine kP H (Kc K5 (SQ fun _ K6=>SB (SR fun _ K7=>Rm rfl (aj K7 rfl (SR fun _ K8=>Rm rfl (Rm rfl (Rm rfl (Ri vw xk rfl rfl ?_))))))));clear H K5 K7;intro a H;refine aV xk (cs:=l[k].cells) H wn rfl rfl (fun j v hj=>H.hp.aI (aF hgm (hrow j v hj))) rfl ?_;clear H;intro a H;refine jJ H wn rfl rfl (hf _ (lC hk2) _ _ _ hgm H.ro (hrep.mono hgm)) rfl ?_;clear H;rintro v16 ql a w rfl nA H;refine K8 _ _ ?_;clear K8;refine jr H rfl ?_ ?_
  ·intro h16
   try have p16:=dT h16
   refine kP H (SR fun _ K9=>Rm rfl (aj K9 rfl ?_));clear H K9;intro a H;refine lr H results224 rfl ?_
   exact xJ
  intro h16
  try have p16:=dF h16
  refine kP H (Kc K6 (SC (Rd rfl (Rm rfl ?_))));clear H K6;intro a H;refine aB ?_;refine dJ ((k+1,ql)) (by exact H.sub ⟨rfl,rfl,rfl,rfl,ay⟩) ?_
  (try dsimp only);exact ED
 intro h9 a H
 try have p9:=dF h9
 refine eu ?_;refine K2 _ _ ?_;clear K2;refine kP H (SR fun _ aS=>aj aS rfl ?_);clear H aS;intro a H;refine lr H results224 rfl ?_
 exact xJ
theorem aks (G:GH) (w0:World) (hG:Hold G w0) (l:List gI) (p:gI->Bool) (v fv:ah) (hv:ak G (.sl 6 (l.map gI.dat)) v) (hf:∀ x∈l,uJ fv G x.dat (p x)) :
  Calls prog 187 #[v,fv] w0 (bE w0 G fun u G'=>u=.bool (l.findIdx? p).isSome):=by
 obtain ⟨A,c,rfl,hc1,hc2,-⟩:=hv.slice;rw [bQ] at *;refine eN [(0,_),(1,_)] func187 rfl ntmps187 rfl rfl hG ?_;intro a H;refine kP H (SR fun _ K1=>aj K1 rfl (SR fun _ K2=>Rm rfl (Rm rfl ?_)));clear H K1;intro a H;refine s_call ams H wn rfl (arY _ _ H.ro l p _ _ hv hf) rfl ?_;clear H;rintro v7 G7 a w rfl yR H;exact kH H (Rc rfl (aj K2 rfl (LR results187 rfl fun H=>H.rt (gK (Xv _)))))
def Jo (l:List gI) (i:Nat) (x:gI):Bool:=decide (x.parent=0) || ((l.take i).findIdx? fun y=>decide (y.id=x.parent)).isSome
def Ux (l:List gI) (i:Nat) (x:gI):Int:=dS [wW (fun k=>(l[k]?.map gI.id).getD 0) i,dG (!Jo l i x) 8,dG (!xH x.author) 39,dG (!decide (0<=x.time∧x.time<=1099511627776)) 40,En x.text]
def JC (l:List gI) (i:Nat):Int:=match l[i]? with|some x=>Ux l i x|none=>0
theorem ako {G:GH} {bl:Nat} {l:List gI} {A:Option Addr} {n c:Nat} (hb:aI G bl 0=some (.slice A n c)) (hv:ak G (.sl 6 (l.map gI.dat)) (.slice A n c)) (hl:l.length<=4294967296) (ht:∀ x∈l,x.author.size < 4611686018427387904∧x.text.size < 4611686018427387904):vC (.func (.func 186) #[] #[(aK bl 0)]) G l.length (JC l):=by
 intro k hk G1 w0 hm hG;refine jv (caps:=[(aK bl 0)]) alX ?_;replace hb:=aF hm hb;replace hv:=hv.mono hm;have hcb:=akp hb hv;obtain ⟨_,_,hee,hvc,-,-⟩:=hv.slice
 injection hee with _ _ hcc
 subst hcc;rw [bQ] at hvc
 obtain rfl:n=l.length:=by have:=hv.len;simpa using this
 obtain ⟨b,o,rfl,hrow,hrep⟩:=Uy hv hk;have hte:=ht _ (lC hk);obtain ⟨x,hx⟩:∃ x,x=l[k]:=⟨_,rfl⟩;rw [<- hx] at hrow hte
 have he:JC l k=Ux l k x:=by unfold JC;rw [eD hk,hx]
 refine eN [(0,_),(1,_)] func186 rfl ntmps186 rfl rfl hG ?_;intro a H;refine kP H (SR fun _ K1=>aj K1 rfl (SR fun _ K2=>Rg CZ rfl (by assumption) ?_));clear H K1;intro a H;refine kH H (Rm rfl (Ri vw xk rfl rfl ?_));clear H;intro a H;refine aV xk (cs:=x.cells) H wn rfl rfl (fun j v hj=>H.hp.aI (hrow j v hj)) rfl ?_;clear H;intro a H;refine dP xk H wn rfl ?_;clear H;intro b4 a w hb4 H;refine bK xk 0 (vs:=[_,_,_,_,_,_]) H wn rfl ?_;clear H;intro w H;obtain ⟨Ga,hma,AV,H⟩:=H.fO
 have hcell:∀ (j:Nat) (u:ah),x.cells[j]?=some u->aI Ga b4 j=some u:=fun j u hj=>by unfold aI;rw [AV];simpa using hj
 have q1:=hcell 1 _ rfl;have hbA:=aF hma hb;have QS:=(hv.mono hma).pre k (by rw [bQ];omega);rw [<- List.map_take] at QS;refine K2 _ _ ?_;clear K2;refine uf (ι:=Bool × GH) (Tc:=[(0,_),(1,_),(4,_)]) (Lc:=[]) (fun gh=>[(5,.bool gh.1)]) (fun gh=>[]) (fun gh=>gh.2) (fun gh=>gh.1=Jo l k x∧(∀ b o,Ga b=some o->gh.2 b=some o)) (by exact H.sub ⟨rfl,rfl,rfl,ay⟩) ?_ ?_
 ·skip;refine kP H (SC (Rf acG rfl (Rg aG rfl (by assumption) ?_)));clear H;intro a H;refine kH H (Rc rfl (Rm rfl (Sp 13 rfl ?_ ?_))) <;> clear H
  ·intro gL a H
   try have sG:=dT gL
   refine kH H (aM gL rfl (aJ gL rfl (Pt gL rfl (Ra rfl ?_))));clear H;intro a H;refine aB ?_;refine ⟨(_,_),by exact H.sub ⟨rfl,rfl,rfl,rfl,ay⟩,?_⟩;(try dsimp only)
   first
   | exact ⟨by unfold Jo;rw [mM (by assumption)];rfl,fun _ _ h=>h⟩
   | exact ⟨by unfold Jo;rw [nk (by assumption)];rfl,hm18⟩
  intro gL a H
  try have sG:=dF gL
  refine kH H (YR CZ gL rfl (by assumption) ?_);clear H;intro a H;refine kH H (YM gL rfl ?_);clear H;intro a H;refine FL vw xk k H (wg H rfl rfl gL) rfl rfl rfl (by omega) rfl ?_;clear H;intro a H;refine qd H (wg H rfl rfl gL) rfl rfl ?_;clear H;intro a H;refine s_call alY H (wg H rfl rfl gL) rfl (aks _ _ H.ro (l.take k) (fun y=>decide (y.id=x.parent)) _ _ QS (fun y _=>akq q1 y)) rfl ?_;clear H;rintro v18 Zq a w rfl hm18 H;refine kH H (Pf gL rfl (Ra rfl ?_));clear H;intro a H;refine aB ?_;refine ⟨(_,_),by exact H.sub ⟨rfl,rfl,rfl,rfl,ay⟩,?_⟩;(try dsimp only)
  first
  | exact ⟨by unfold Jo;rw [mM (by assumption)];rfl,fun _ _ h=>h⟩
  | exact ⟨by unfold Jo;rw [nk (by assumption)];rfl,hm18⟩
 clear H;rintro ⟨bf,g⟩ a w hI H;dsimp only at hI H;obtain ⟨hbf,hgm⟩:=hI;replace hcell:=fun j u hj=>aF hgm (hcell j u hj);replace hcb:=(hcb.mono hma).mono hgm;dsimp only [lca,bM] at H;refine bR (fun _ K3=>?_);have H:=H.sub (T':=[(0,_),(1,_),(4,_),(5,_)]) ⟨rfl,rfl,rfl,rfl,ay⟩;refine dI hmx [[],[],[0,1],[],[3],ra 0 5,[],[6],ra 0 8,ra 0 9,ra 0 10,[],[11],ra 0 13,ra 0 14,ra 0 15,[],[16],ra 0 18,ra 0 19,ra 0 20,ra 0 21] [19,20,21] (by kernel_rfl) [_,.func (.func 189) #[] #[(aK bl 0)],vi (wW (fun k=>(l[k]?.map gI.id).getD 0) k),_,_,vi (dG (!bf) 8),_,_,.bool (xH x.author),_,vi (dG (!xH x.author) 39),_,_,.bool (decide (0<=x.time∧x.time<=1099511627776)),_,vi (dG (!decide (0<=x.time∧x.time<=1099511627776)) 40),_,_,vi (En x.text)] H (aC (Z0 rfl (Rm rfl)) ?_ ?_ (Z0 rfl (Rm rfl)) (aC (Z1 3 23 rfl (Rn rfl)) ?_ (Z0 rfl (Rf aop rfl)) (X1 6 26 rfl fun hG=>Rg iR rfl (aF hG (hcell 2 _ rfl))) (aC ?_ (Z1 8 28 rfl (Rn rfl)) ?_ (Z0 rfl (Rf aoq rfl)) (aC (X1 11 31 rfl fun hG=>Rg aG rfl (aF hG (hcell 3 _ rfl))) ?_ (Z1 13 33 rfl (Rn rfl)) ?_ (aC (Z0 rfl (Rf aor rfl)) (X1 16 36 rfl fun hG=>Rg iR rfl (aF hG (hcell 4 _ rfl))) ?_ (bU rfl) (bP (bU rfl) (bP (bU rfl) dH))))))) ?_
 ·refine Dh rfl fun _ a w G1 hG HT H fin=>?_;refine qd H wn rfl rfl ?_;clear H;intro a H;exact dZ
 ·refine dO 0 20 1 21 rfl rfl fun _ a w G1 hG HT H fin=>?_;refine s_call UN H wn rfl (Xq _ _ H.ro k _ _ (by omega) (fun i hi=>(hcb.mono hG) i (by omega))) rfl ?_;clear H;rintro v22 Ti a w rfl VU H;exact fin H VU (rfl)
 ·refine eY 4 24 rfl rfl fun _ a w G1 hG HT H fin=>?_;refine s_call kr H wn rfl (kF _ _ H.ro _ 8) rfl ?_;clear H;rintro v25 OP a w ⟨rfl,-⟩ apb H;exact fin H apb (rfl)
 ·refine eY 7 27 rfl rfl fun _ a w G1 hG HT H fin=>?_;refine s_call abW H wn rfl (aal _ _ H.ro x.author hte.1) rfl ?_;clear H;rintro v28 Tj a w ⟨rfl,-⟩ apc H;exact fin H apc (rfl)
 ·refine eY 9 29 rfl rfl fun _ a w G1 hG HT H fin=>?_;refine s_call kr H wn rfl (kF _ _ H.ro _ 39) rfl ?_;clear H;rintro v30 BG a w ⟨rfl,-⟩ VX H;exact fin H VX (rfl)
 ·refine eY 12 32 rfl rfl fun _ a w G1 hG HT H fin=>?_;refine s_call yI H wn rfl (yV _ _ H.ro x.time 0 1099511627776) rfl ?_;clear H;rintro v33 G33 a w ⟨rfl,-⟩ apd H;exact fin H apd (rfl)
 ·refine eY 14 34 rfl rfl fun _ a w G1 hG HT H fin=>?_;refine s_call kr H wn rfl (kF _ _ H.ro _ 40) rfl ?_;clear H;rintro v35 Zu a w ⟨rfl,-⟩ VY H;exact fin H VY (rfl)
 ·refine eY 17 37 rfl rfl fun _ a w G1 hG HT H fin=>?_;refine s_call U1 H wn rfl (YW _ _ H.ro x.text hte.2) rfl ?_;clear H;rintro v38 LA a w rfl apf H;exact fin H apf (rfl)
 clear H;intro a w G wP H hv;have H:=H.aN (hv 2 22 rfl rfl) rfl;have H:=H.aN (hv 5 25 rfl rfl) rfl;have H:=H.aN (hv 10 30 rfl rfl) rfl;have H:=H.aN (hv 15 35 rfl rfl) rfl;have H:=H.aN (hv 18 38 rfl rfl) rfl;clear hv;refine iV rQ iQ [_,_,_,_,_] [_,_,_,_,_] H wn rfl rfl rfl rfl rfl (by intro i q h;match i,h with|0,h=>exact h|1,h=>exact h|2,h=>exact h|3,h=>exact h|4,h=>exact h|n+5,h=>simp at h) rfl rfl ?_;clear H;intro b39 a w ayD H;obtain ⟨Zv,WI,apU,H⟩:=H.fO;refine s_call sU H wn rfl (sW _ _ H.ro _ _ (Ip [wW (fun k=>(l[k]?.map gI.id).getD 0) k,dG (!bf) 8,dG (!xH x.author) 39,dG (!decide (0<=x.time∧x.time<=1099511627776)) 40,En x.text] apU (show 5<=maxLen by decide))) rfl ?_;clear H;rintro v40 _ a w ⟨rfl,rfl⟩ - H;refine kH H (Ra rfl ?_);clear H;intro a H;refine aB ⟨rfl,?_⟩;refine K3 _ _ ?_;clear K3;refine lr H results186 rfl ?_;exact H.rt (by rw [he,Ux,<- hbf])
def PG (l:List gI):Int:=dS [dG (decide (1024 < (l.length:Int))) 9,iW (JC l) (min l.length 1024)]
theorem ajF (G:GH) (w0:World) (hG:Hold G w0) (l:List gI) (v:ah) (hv:ak G (.sl 6 (l.map gI.dat)) v) (hl:l.length<=4294967296) (ht:∀ x∈l,x.author.size < 4611686018427387904∧x.text.size < 4611686018427387904) :
  Calls prog 121 #[v] w0 (bE w0 G fun u G'=>u=vi (PG l)):=by
 obtain ⟨A,c,rfl,hc1,hc2,-⟩:=hv.slice;rw [bQ] at *;refine eN [(0,_)] func121 rfl ntmps121 rfl rfl hG ?_;intro a H;refine dz (fun _ K1=>?_);refine eB (cs:=[_]) H wn rfl rfl rfl ?_;clear H;intro b1 a w hb1 H;refine kH H (aj K1 rfl (SQ fun _ K2=>?_));clear H K1;intro a H;have H:=H.sub (T':=[(1,_)]) ⟨rfl,ay⟩;obtain ⟨Ga,hma,hb1',H⟩:=H.fO
 have hbl:aI Ga b1 0=some (.slice A l.length c):=by unfold aI;rw [hb1'];rfl
 have hcb:=ako hbl (hv.mono hma) hl ht;refine dI hmx [[],[0],[0,1],[0,1,2],[],[4],[4,5],[],ra 0 8,ra 0 9,ra 0 10,ra 0 11] [9,10,11] (by kernel_rfl) [_,_,_,vi (dG (decide (1024 < (l.length:Int))) 9),_,_,vi ((min l.length 1024:Nat):Int),.func (.func 186) #[] #[(aK b1 0)],vi (iW (JC l) (min l.length 1024))] H (aC (X0 rfl fun hG=>Rg CZ rfl (aF hG hbl)) (Z1 0 3 rfl (Rl vw rfl)) (Z1 1 4 rfl (Rc rfl)) ?_ (aC (X0 rfl fun hG=>Rg CZ rfl (aF hG hbl)) (Z1 4 7 rfl (Rl vw rfl)) ?_ ?_ (aC ?_ (bU rfl) (bU rfl) (bU rfl) dH))) ?_
 ·refine eY 2 5 rfl rfl fun _ a w G1 hG HT H fin=>?_;refine s_call kr H wn rfl (kF _ _ H.ro _ 9) rfl ?_;clear H;rintro v6 G6 a w ⟨rfl,-⟩ jU H;exact Js
 ·refine eY 5 8 rfl rfl fun _ a w G1 hG HT H fin=>?_;refine Si H wn rfl rfl rfl ?_;clear H;intro a H;exact Pm
 ·refine Dh rfl fun _ a w G1 hG HT H fin=>?_;refine qd H wn rfl rfl ?_;clear H;intro a H;exact dZ
 ·refine dO 6 9 7 10 rfl rfl fun _ a w G1 hG HT H fin=>?_;refine s_call JI H wn rfl (LU _ _ H.ro (min l.length 1024) (JC l) _ (by omega) ((hcb.mono hG).le (Nat.min_le_left _ _))) rfl ?_;clear H;rintro v11 uG a w rfl pX H;exact Gw
 clear H;intro a w G jy H hv;have H:=H.aN (hv 3 6 rfl rfl) rfl;have H:=H.aN (hv 8 11 rfl rfl) rfl;clear hv;refine iV rQ iQ [_,_] [_,_] H wn rfl rfl rfl rfl rfl (by intro i q h;match i,h with|0,h=>exact h|1,h=>exact h|n+2,h=>simp at h) rfl rfl ?_;clear H;intro b12 a w Ka H;obtain ⟨BF,yQ,Hz,H⟩:=H.fO;refine s_call sU H wn rfl (sW _ _ H.ro _ _ (zZ Hz)) rfl ?_;clear H;rintro v13 _ a w ⟨rfl,rfl⟩ - H;refine kH H (Ra rfl ?_);clear H;intro a H;refine aB ⟨rfl,?_⟩;refine K2 _ _ ?_;clear K2;refine lr H results121 rfl ?_;exact xK
def yX:Nat->List Int->List MapEntry
 | _,[]=>[]
 | i,k :: r=>⟨.int .i64 k,.int .i64 (i:Int),i⟩ :: yX (i+1) r
theorem afn (x:Int):∀ (i:Nat) (l:List Int),yX i (l++[x])=yX i l++[⟨.int .i64 x,.int .i64 ((i+l.length:Nat):Int),i+l.length⟩]
 | _,[]=>rfl
 | i,k :: r=>by
  rw [pG,yX,afn x (i+1) r,yX,pG,lg,show i+1+r.length=i+(r.length+1) by omega]
def wV (x:Int):Nat->List Int->Option Nat
 | _,[]=>none
 | i,k :: r=>if k=x then some i else wV x (i+1) r
theorem aeM {x:Int}:∀ {l:List Int} {i n:Nat},wV x i l=some n->i<=n
 | [],_,_,h=>by cases h
 | k :: r,i,n,h=>by
  rw [wV] at h;split at h
  ·cases h;exact eP _
  ·have:=aeM h;omega
theorem aeO {x:Int}:∀ {l:List Int} {i:Nat},x∉l->wV x i l=none
 | [],_,_=>rfl
 | k :: r,i,h=>by
  rw [wV,av (fun e=>h (by simp [e])),aeO (fun hm=>h (gV _ hm))]
theorem Vm (x:Int):∀ (i j:Nat) (l:List Int),Instr.findNow (.int .i64) (.int .i64 x) (yX i l) j=some ((wV x i l).map fun n=>(j+(n - i),.int .i64 (n:Int)))
 | _,_,[]=>rfl
 | i,j,k :: r=>by
  have ih:=Vm x (i+1) (j+1) r
  by_cases e:k=x
  ·subst e
   simp only [yX,Instr.findNow,Instr.sameNow,aD,wV,beq_self_eq_true]
   simp
  ·have hb:(x == k)=false:=by simp;exact fun h=>e h.symm
   simp only [yX,Instr.findNow,Instr.sameNow,aD,hb,wV,av e,ih]
   cases h:wV x (i+1) r with
   | none=>rfl
   | some n =>
    have:=aeM h
    simp only [wE,pR,iU,and_true]
    omega
abbrev aiN (b:Nat) (l:List Int):Nat × Obj:=(b,.map (yX 0 l).toArray l.length)
theorem asY (l:List Int) (x:Int):(yX 0 l).toArray.push ⟨.int .i64 x,.int .i64 (l.length:Int),l.length⟩=(yX 0 (l++[x])).toArray:=by
 rw [afn,List.push_toArray,iA]
section
section
variable {P:Program} {N:Nat} {D:List Deferred} {w0 w w':World} {F:Nat->Prop} {G0 G G':GH} {L L' Li Lo:OL} {T:List (Nat × ah)} {a a':Act} {Q:Exit->Act->World->Prop}
variable {r:Option Nat} {ops:Array Oper} {rest:List Oper}
def Tt (P:Program) (Gi:GH) (B:OL) (gv:ah) (xs:List AP):Prop :=
 ∀ (J:Nat->GH->OL->Prop) (Jx:GH->OL->Prop) (fv:ah) (G:GH) (L:OL) (w:World),fv.cells=#[fv]->(∀ b o,Gi b=some o->G b=some o)->FZ J->LJ Jx->J 0 G L->gY G (B++L) w->OH P fv G xs J Jx ->
  sK P gv [fv] w (gF w G (B++L) fun _ G' L'=>J xs.length G' L'∨Jx G' L')
theorem Tt.mono {Gi Ey:GH} {B:OL} {gv:ah} {xs:List AP} (h:Tt P Gi B gv xs) (hm:∀ b o,Gi b=some o->Ey b=some o):Tt P Ey B gv xs :=
 fun J Jx fv G L w h0 h1=>h J Jx fv G L w h0 fun b o hb=>h1 b o (hm b o hb)
end
end
section
section
variable {P:Program} {N:Nat} {D:List Deferred} {w0 w w':World} {F:Nat->Prop} {G0 G G':GH} {L L' Li Lo:OL} {T:List (Nat × ah)} {a a':Act} {Q:Exit->Act->World->Prop}
variable {r:Option Nat} {ops:Array Oper} {rest:List Oper}
def Jc (P:Program) (Gi:GH) (B:OL) (gv:ah) (xs:List AP) (fin:Bool):Prop :=
 ∀ (J:Nat->GH->OL->Prop) (Jx:GH->OL->Prop) (fv:ah) (G:GH) (L:OL) (w:World),fv.cells=#[fv]->(∀ b o,Gi b=some o->G b=some o)->FZ J->LJ Jx->J 0 G L->gY G (B++L) w->OH P fv G xs J Jx->(fin=false->∀ g l,¬ J xs.length g l) ->
  sK P gv [fv] w (gF w G (B++L) fun _ G' L'=>J xs.length G' L'∨Jx G' L')
theorem Jc.mono {Gi Ey:GH} {B:OL} {gv:ah} {xs:List AP} {fin:Bool} (h:Jc P Gi B gv xs fin) (hm:∀ b o,Gi b=some o->Ey b=some o):Jc P Ey B gv xs fin :=
 fun J Jx fv G L w h0 h1=>h J Jx fv G L w h0 fun b o hb=>h1 b o (hm b o hb)
theorem ajf {fin:Bool} {B:OL} {Aw:Operand} {ps:List Nat} {assign body:Code} {gf:FuncId} {caps:List ah} {xs:List AP} {Gi:GH}
  (H:St N D w0 F G0 G (B++L) T a w) (hg:ev T Aw=some (.func (.func gf) #[] caps.toArray)) (en:∀ args w,(callFunc gf args).run P w=.ok (.enter gf args) w) (hit:Jc P Gi B (.func (.func gf) #[] caps.toArray) xs fin) (hGi:∀ b o,Gi b=some o->G b=some o)
  (hps:ps.all (Nat.blt · N)=true) (hlen:∀ k args g,zq xs k args g->args.length=ps.length)
  (J:Nat->GH->OL->Prop) (Jx:Code->GH->OL->Prop) (hno:fin=false->∀ g l,¬ J xs.length g l) (zM:FZ J) (hJx:∀ c,LJ (Jx c)) (h0:J 0 G L) (W9:TI P N ps assign body T G J Jx xs)
  (hdone:∀ Dk G1 L1 a1 w1,(∀ b o,G b=some o->G1 b=some o)->J xs.length G1 L1->St N ({ target:=.collected Dk,args:=#[] } :: D) w0 F G0 G1 ((Dk,.deferred (some [])) :: L1) T a1 w1->Q .normal a1 w1)
  (hstop:∀ Dk c G1 L1 a1 w1,(∀ b o,G b=some o->G1 b=some o)->Jx c G1 L1->St N ({ target:=.collected Dk,args:=#[] } :: D) w0 F G0 G1 ((Dk,.deferred (some [])) :: L1) T a1 w1->WP none P c Q a1 w1) :
  WP none P (.rangeFunc Aw ps.toArray assign body) Q a w:=by
 refine wpIn_rangeFunc ?_
 intro fn _
 have hev:=H.ev hg
 let q:Rec:=⟨fn,a.tmps,ps.toArray,assign,body,w.heap.size⟩
 obtain ⟨W1,hW1⟩:∃ W1,W1=(w.alloc (.deferred (some []))).alloc (q.at .ready none):=⟨_,rfl⟩
 have H1:Hp w0 F G0 G (B++((w.heap.size+1,q.at .ready none) :: (w.heap.size,.deferred (some [])) :: L)) W1:=by
  have:=(H.hp.alloc (.deferred (some []))).alloc (q.at .ready none)
  rw [World.size_alloc] at this
  rw [hW1]
  refine this.perm ?_
  have e:=wG (l₁:=[(w.heap.size+1,q.at .ready none),(w.heap.size,Obj.deferred (some []))]) (l₂:=B)
  have e2:=List.Perm.append_right L e
  rw [ko,ko] at e2
  exact e2
 refine ⟨w.heap.size+1,[{ target:=.collected w.heap.size,args:=#[] }],W1,{ target:=.fn (.func gf) caps.toArray,args:=#[.func (.yield (w.heap.size+1)) #[] #[]] },W1,gf,
  #[.func (.yield (w.heap.size+1)) #[] #[]]++caps.toArray,W1,by rw [hW1];exact run_enterLoop_outer fn a.tmps ps.toArray assign body,?_,fun _ _=>trivial,?_,OO none,?_⟩
 ·simp only [resolve,rangeCall,hev]
  simp [Deferred.ofValue,Act.eval]
 ·simp [invoke,en]
 ·have hcv:=hit (fun k=>Jr (w.heap.size+1) q [(w.heap.size,.deferred (some []))] (J k)) (OT (w.heap.size+1) q [(w.heap.size,.deferred (some []))] Jx) (.func (.yield (w.heap.size+1)) #[] #[]) G
   ((w.heap.size+1,q.at .ready none) :: (w.heap.size,.deferred (some [])) :: L) W1 rfl hGi (fun k G G' L hm ⟨Lu,e,h⟩=>⟨Lu,e,zM k G G' Lu hm h⟩) (fun G G' L hm ⟨c,Lu,e,h⟩=>⟨c,Lu,e,hJx c G G' Lu hm h⟩) ⟨L,rfl,h0⟩ (Hp.owns (Li:=[]) H1) (aaU H.oL H.get hps hlen W9) (fun e g l ⟨Lu,_,h⟩=>hno e g Lu h)
  replace hcv:=hcv.go
  have e:(do let d <- Deferred.ofValue (.func (.func gf) #[] caps.toArray) [Value.func (.yield (w.heap.size+1)) #[] #[]].toArray;invoke d.target d.args:Sem Next).run P W1=.ok (.enter gf (#[.func (.yield (w.heap.size+1)) #[] #[]]++caps.toArray)) W1:=by
   simp [Deferred.ofValue,invoke,en]
  rw [e] at hcv
  refine (Un hcv).mono ?_
  rintro e w2 ⟨v,G2,L2,rfl,hch,hJ⟩
  have H2:=Hp.change (Li:=[]) H1 hch
  rcases hJ with ⟨Lu,rfl,hJ⟩|⟨c,Lu,rfl,hJ⟩
  ·have hl:=H2.own _ (fE)
   have H3:=(H2.upd (i:=0) rfl (FN (q.at .exhausted none) hl)).drop (Dm _ _)
   exact ⟨none,_,run_endLoop hl (by simp),hdone _ G2 Lu _ _ hch.gm hJ ⟨H.oL,H.get,by simp [H.uS],H3⟩⟩
  ·have hl:=H2.own _ (fE)
   have H3:=(H2.upd (i:=0) rfl (FN (q.at .exhausted (some c)) hl)).drop (Dm _ _)
   exact ⟨some c,_,run_endLoop hl (by simp),hstop _ c G2 Lu _ _ hch.gm hJ ⟨H.oL,H.get,by simp [H.uS],H3⟩⟩
theorem ajh {fin:Bool} {B:OL} {ι κ:Type} {Lc:OL} {Aw:Operand} {ps:List Nat} {assign body:Code} {gf:FuncId} {caps:List ah} {xs:List AP} {Gi:GH}
  (Lv:Nat->ι->OL) (Lt:Nat->ι->OL) (inv:Nat->ι->GH->Prop) (cx:κ->Code) (Lx F7:κ->OL) (Bj:κ->GH->Prop) (i0:ι)
  (H:St N D w0 F G0 G (B++(Lc++Lv 0 i0++Lt 0 i0)) T a w) (hg:ev T Aw=some (.func (.func gf) #[] caps.toArray)) (en:∀ args w,(callFunc gf args).run P w=.ok (.enter gf args) w) (hit:Jc P Gi B (.func (.func gf) #[] caps.toArray) xs fin) (hGi:∀ b o,Gi b=some o->G b=some o)
  (hno:fin=false->∀ i g,¬ inv xs.length i g) (hps:ps.all (Nat.blt · N)=true) (hlen:∀ k args g,zq xs k args g->args.length=ps.length) (hinv:∀ k i (G G':GH),(∀ b o,G b=some o->G' b=some o)->inv k i G->inv k i G') (WE:∀ x (G G':GH),(∀ b o,G b=some o->G' b=some o)->Bj x G->Bj x G') (h0:inv 0 i0 G)
  (round:∀ (l:Nat) (IL Dr:Obj) (bk:OL) (k:Nat) (args:List ah) (i:ι) (G1:GH) (w1:World) (F1:Nat->Prop) (B1:Code->Exit->Act->World->Prop) (a1:Act),zq xs k args G1->(∀ b o,G b=some o->G1 b=some o)->inv k i G1 ->
   (∀ T' G2 L2 a2 w2 c,St N [] w1 F1 G1 G2 ((l,IL) :: L2) T' a2 w2->(∀ w3,St N [] w1 F1 G1 G2 ((l,Dr) :: L2) T' a2 w3->WP (some l) P c (B1 c) a2 w3)->Exit.then (fun a2 w2=>∃ w3,(Instr.beginRound l).run P w2=.ok () w3∧c.wpIn (FW (some l)) 0 P (B1 c) a2 w3) (fun _ _ _=>False) .normal a2 w2) ->
   (∀ i' T' G2 a2 w2 c,St N [] w1 F1 G1 G2 ((l,Dr) :: (Lc++Lv (k+1) i'++(bk++Lt (k+1) i'))) T' a2 w2->inv (k+1) i' G2->B1 c .normal a2 w2) ->
   (∀ x T' G2 a2 w2 c,St N [] w1 F1 G1 G2 ((l,Dr) :: (Lc++Lx x++(bk++F7 x))) T' a2 w2->Bj x G2->(cx x=.ret->B1 c .ret a2 w2)∧∀ n,cx x=.exit n->B1 c (.exit n) a2 w2) ->
   St N [] w1 F1 G1 G1 ((l,IL) :: (Lc++Lv k i++(bk++Lt k i))) (BZ ps args T) a1 w1 ->
   WP (some l) P assign (Exit.then (fun a2 w2=>∃ w3,(Instr.beginRound l).run P w2=.ok () w3∧body.wpIn (FW (some l)) 0 P (B1 body) a2 w3) (fun _ _ _=>False)) a1 w1)
  (hdone:∀ Dk i G1 a1 w1,(∀ b o,G b=some o->G1 b=some o)->inv xs.length i G1->St N ({ target:=.collected Dk,args:=#[] } :: D) w0 F G0 G1 ((Dk,.deferred (some [])) :: (Lc++Lv xs.length i++Lt xs.length i)) T a1 w1->Q .normal a1 w1)
  (hstop:∀ Dk x G1 a1 w1,(∀ b o,G b=some o->G1 b=some o)->Bj x G1->St N ({ target:=.collected Dk,args:=#[] } :: D) w0 F G0 G1 ((Dk,.deferred (some [])) :: (Lc++Lx x++F7 x)) T a1 w1->WP none P (cx x) Q a1 w1) :
  WP none P (.rangeFunc Aw ps.toArray assign body) Q a w:=by
 refine ajf (J:=fun k g L=>∃ i,L=Lc++Lv k i++Lt k i∧inv k i g) (Jx:=fun c g L=>∃ x,c=cx x∧L=Lc++Lx x++F7 x∧Bj x g) H hg en hit hGi hps hlen (hno:=fun e g l ⟨i,_,h⟩=>hno e i g h) (fun k G G' L hm ⟨i,e,h⟩=>⟨i,e,hinv k i G G' hm h⟩) (fun c G G' L hm ⟨x,e1,e2,h⟩=>⟨x,e1,e2,WE x G G' hm h⟩) ⟨i0,rfl,h0⟩ ?_ ?_ ?_
 ·rintro l q bk k args G1 L1 w1 a1 hk hm ⟨i,rfl,hi⟩ H1
  have pm:∀ A B:OL,(bk++(A++B)).Perm (A++(bk++B)):=fun A B=>by
   rw [<- ko,<- ko]
   exact List.Perm.append_right B wG
  refine round l (q.at .ready none) (q.at .busy none) bk k args i G1 w1 _ (fun _=>roundPost P l _) a1 hk hm hi ?_ ?_ ?_ (H1.perm (List.Perm.cons _ (pm _ _)))
  ·intro T' G2 L2 a2 w2 c H2 h
   exact aaR H2 h
  ·intro i' T' G2 a2 w2 c H2 h2
   exact KO none (H2.perm (List.Perm.cons _ (pm _ _).symm)) ⟨_,rfl,i',rfl,h2⟩
  ·intro x T' G2 a2 w2 c H2 h2
   have H3:=H2.perm (List.Perm.cons _ (pm _ _).symm)
   refine ⟨fun e=>?_,fun n e=>?_⟩
   ·exact KO (some .ret) H3 ⟨_,_,rfl,x,e.symm,rfl,h2⟩
   ·exact KO (some (.exit n)) H3 ⟨_,_,rfl,x,e.symm,rfl,h2⟩
 ·rintro Dk G1 L1 a1 w1 hm ⟨i,rfl,hi⟩ H1
  exact hdone Dk i G1 a1 w1 hm hi H1
 ·rintro Dk c G1 L1 a1 w1 hm ⟨x,rfl,rfl,hx⟩ H1
  exact hstop Dk x G1 a1 w1 hm hx H1
end
end
theorem IX:prog.underlying 130=some (.map 3 3):=by kernel_rfl
theorem qM:Ty prog 31 1 24 [.slice none 0 0] false:=⟨by kernel_rfl,by kernel_rfl⟩
theorem ME:dX prog 192 3 3:=⟨by kernel_rfl⟩
theorem ach:aQ 222:=aR func222 rfl
theorem aeN {x:Int}:∀ {l:List Int} {i n:Nat},wV x i l=some n->n < i+l.length
 | [],_,_,h=>by cases h
 | k :: r,i,n,h=>by
  rw [wV] at h;split at h
  ·cases h;simp
  have:=aeN h;simp only [lg];omega
def zG (l:List bY):Nat->Int->List bY
 | 0,_=>[]
 | f+1,id=>if id=0 then [] else match wV id 0 (l.map bY.id) with|none=>[]|some i=>match l[i]? with|none=>[]|some s=>s :: zG l f s.base
def JB (l:List bY) (id:Int):List bY:=zG l (l.length+1) id
theorem ajB {l:List bY} {f:Nat} {id:Int} (h:id=0):zG l f id=[]:=by
 cases f with
 | zero=>rfl
 | succ f=>rw [zG,aD h]
theorem ajz {l:List bY} {f:Nat} {id:Int} (h0:¬ id=0) (h:wV id 0 (l.map bY.id)=none):zG l f id=[]:=by
 cases f with
 | zero=>rfl
 | succ f=>rw [zG,av h0,h]
theorem ajA {l:List bY} {f i:Nat} {id:Int} (h0:¬ id=0) (h:wV id 0 (l.map bY.id)=some i) (hi:i < l.length):zG l (f+1) id=l[i] :: zG l f l[i].base:=by
 rw [zG,av h0,h];dsimp only;rw [eD hi]
def stP (x:bY):AP:=fun args g=>∃ cs,args=[.agg cs.toArray]∧bD g x.dat cs
theorem ahd {A:List bY} {k:Nat} {args:List ah} {g:GH} (h:zq (A.map stP) k args g):∃ (hk:k < A.length) (cs:List ah),args=[.agg cs.toArray]∧bD g A[k].dat cs:=by
 obtain ⟨p,hp,hargs⟩:=h;rw [tT] at hp;obtain ⟨q,hq,rfl⟩:=qU.1 hp;obtain ⟨hk,rfl⟩:=jZ.1 hq;obtain ⟨cs,h1,h2⟩:=hargs;exact ⟨hk,cs,h1,h2⟩
abbrev bI (b:Nat) (n:Int):Nat × Obj:=(b,.cells #[vi n] 3 (0,0))
set_option maxHeartbeats 1000000 in
theorem ajC {G:GH} {bl bi:Nat} {l:List bY} {id:Int} {v:ah} (hb:aI G bl 0=some v) (hv:ak G (.sl 6 (l.map bY.dat)) v) (hnd:∀ (k:Nat) (h:k < l.length),l[k].id∉(l.take k).map bY.id) :
  Jc prog G [bI bi id] (.func (.func 222) #[] #[(aK bl 0),(aK bi 0)]) ((JB l id).map stP) (decide ((JB l id).length<=l.length)):=by
 intro J Jx fv G1 L w0 hfv hGi zM hJx hJ hO hcb hfin;refine jv (caps:=[(aK bl 0),(aK bi 0)]) ach ?_;obtain ⟨A,c,rfl,hc1,hc2,-⟩:=hv.slice;have hml:maxLen=9223372036854775807:=rfl;rw [bQ] at *;replace hb:=aF hGi hb;replace hv:=hv.mono hGi;refine jD (N:=46) (T:=[(0,_),(1,_),(2,_)]) func222 rfl ntmps222 rfl rfl hO ?_;intro a H;refine dz (fun _ K1=>?_);refine IQ H wn rfl ?_;clear H;intro bm a w hbm H;refine kH H (aj K1 rfl (SQ fun _ K2=>SR fun _ K3=>Rg qM rfl (by assumption) ?_));clear H K1;intro a H;refine kH H (Rl lQ rfl (Rm rfl (Kz K3 (SB ?_))));clear H K3;intro a H;skip;refine fF (ι:=Nat) (Tc:=[(0,_),(1,_),(2,_),(4,_),(10,_),(11,_)]) (Lc:=[(_,_)]) (fun gh=>[(12,vi gh)]) (fun gh=>[aiN bm ((l.take gh).map bY.id)]++L) (fun gh=>G1) (fun gh=>gh<=l.length) (fun gh=>l.length - gh) (0) (by exact (H.fG (Pl:=[_,_]) (eH:=[_,_]) [1,0] (by decide) rfl).sub ⟨rfl,rfl,rfl,rfl,rfl,rfl,rfl,ay⟩) ?_ ?_
 ·exact lu _
 clear H;intro k a w hI H;have hk:=hI;dsimp only [lca,bM] at H;refine kP H (SR fun _ K4=>Rc rfl (Kz K4 (SQ fun _ K5=>Cd rfl ?_ ?_))) <;> clear H K4
 ·intro gL a H
  try have sG:=dT gL
  have hk2:k < l.length:=by omega
  obtain ⟨b,o,pA,pc,rfl,hrow,hp,hrep⟩:=El hv hk2;have aqW:=hnd k hk2
  have hlk:((l.take k).map bY.id).length=k:=by rw [bQ,List.length_take];omega
  have hnx:(l.take k).map bY.id++[l[k].id]=(l.take (k+1)).map bY.id:=by rw [kg hk2,lW];rfl
  refine kP H (Kc K5 (SQ fun _ K6=>SB (SR fun _ K7=>Rm rfl (Ri lQ jg rfl rfl ?_))));clear H K5;intro a H;refine aV jg (cs:=[_,_,_,_,_,_]) H wn rfl rfl (fun j v hj=>H.hp.aI (hrow j v hj)) rfl ?_;clear H;intro a H;refine dP jg H wn rfl ?_;clear H;intro b6 a w hb6 H;refine kH H (Ra rfl ?_);clear H;intro a H;refine bK jg 0 (vs:=[_,_,_,_,_,_]) H wn rfl ?_;clear H;intro w H;refine K7 _ _ ?_;clear K7;refine kP H (SC (Rm rfl (bO vN aG 0 rfl rfl (Rm rfl ?_))));clear H;intro a H;refine agN (i:=2) (ky:=vi l[k].id) (v:=vi k) IX mJ H wn rfl rfl rfl rfl (by trivial) (by rw [List.toList_toArray,Vm,aeO aqW];rfl) ?_;clear H;intro w H
  have hpush:((yX 0 ((l.take k).map bY.id)).toArray.push ⟨vi l[k].id,vi k,((l.take k).map bY.id).length⟩)=(yX 0 ((l.take (k+1)).map bY.id)).toArray:=by rw [<- hnx,<- asY,hlk]
  rw [hpush,show ((l.take k).map bY.id).length+1=((l.take (k+1)).map bY.id).length by rw [<- hnx];simp] at H;refine kH H (Kn K6 (SC (Rd rfl (Rm rfl ?_))));clear H K6;intro a H;refine aB ?_;refine dJ ((k+1)) (by exact (H.fG (Pl:=[_,_,_]) (eH:=[_,_]) [1,2] (by decide) rfl).sub ⟨rfl,rfl,rfl,rfl,rfl,rfl,rfl,ay⟩) ?_
  exact by omega
 intro gL a H
 try have sG:=dF gL
 obtain rfl:k=l.length:=by omega
 rw [zF] at H;refine eu ?_;refine K2 _ _ ?_;clear K2;refine EJ ?_;skip;refine fF (ι:=Int × Nat × Nat × OL × GH) (Tc:=[(0,_),(1,_),(2,_),(4,_)]) (Lc:=[(_,_)]) (fun gh=>[]) (fun gh=>[bI bi gh.1]++gh.2.2.2.1) (fun gh=>gh.2.2.2.2) (fun gh=>(∀ b o,G1 b=some o->gh.2.2.2.2 b=some o)∧Now ((JB l id).map stP) stP J (JB l id).length gh.2.2.1 (zG l gh.2.1 gh.1) gh.2.2.2.2 gh.2.2.2.1∧gh.2.2.1+gh.2.1=l.length+1) (fun gh=>gh.2.1) ((id,l.length+1,0,L,G1)) (by exact (H.fG (Pl:=[_,_]) (eH:=[_,_]) [1,0] (by decide) rfl).sub ⟨rfl,rfl,rfl,rfl,ay⟩) ?_ ?_
 ·exact ⟨fun _ _ h=>h,⟨hJ,fun i a h=>by rw [iA,tT];rw [show zG l (l.length+1) id=JB l id from rfl] at h;rw [h];rfl,iA _⟩,iA _⟩
 clear H;rintro ⟨i,f,j1,Lt,g⟩ a w hI H;dsimp only at hI H;obtain ⟨hgm,kT,hjf⟩:=hI;have hbg:=aF hgm hb;dsimp only [lca,bM] at H;refine kP H (SQ fun _ K8=>SR fun _ K9=>Ro aG 1 rfl (Rc rfl (Kz K9 (Cd rfl ?_ ?_)))) <;> clear H K9
 ·intro h23 a H
  try have Bp:=dT h23
  have h0:¬ i=0:=by simpa using h23
  obtain ⟨an,han⟩:∃ an,an=wV i 0 (l.map bY.id):=⟨_,rfl⟩;have hfn:=Vm i 0 0 (l.map bY.id);rw [<- han] at hfn;refine kP H (Kc K8 (SB (SR fun _ aS=>Rm rfl (Ro aG 1 rfl ?_))));clear H K8;intro a H;refine avL (i:=0) (zv:=vi 0) _ IX mJ (by kernel_rfl) H wn rfl rfl rfl (by trivial) (by simpa using hfn) rfl ?_;clear H;intro a H;refine kH H (Rm rfl ?_);clear H;intro a H;(iterate 2 refine mh H wn rfl rfl rfl ?_;clear H;intro a H);refine kH H (Ra rfl (aj aS rfl (SQ fun _ bH=>SR fun _ bT=>Rm rfl (Rn rfl (Rm rfl (Sp 32 rfl ?_ ?_)))))) <;> clear H aS
  ·intro h32 a H
   try have p32:=dT h32
   obtain rfl:an=none:=by
    cases an with
    | none=>rfl
    | some n=>simp [D9] at h32
   rw [ajz h0 han.symm] at kT;refine kH H (aM h32 rfl (aJ h32 rfl (aJ h32 rfl (Pt h32 rfl (Kz bT (Ct rfl rfl ?_))))));clear H bT;intro a H;refine dw ?_;refine (leave0 H results222 ?_).1;refine H.hp.ng (L':=Lt) (by repeat (first|exact lX _|apply List.Sublist.cons)) (.inl ?_);have h:=kT.len
   simp only [List.length_nil,Aj] at h
   rw [<- h];exact kT.now
  intro h32 a H
  try have p32:=dF h32
  obtain ⟨n,rfl⟩:∃ n,an=some n:=by
   cases an with
   | none=>simp [D9] at h32
   | some n=>exact ⟨n,rfl⟩
  have hnl:n < l.length:=by have:=aeN han.symm;simpa using this
  obtain ⟨f',rfl⟩:∃ f',f=f'+1:=by
   cases f with
   | succ f'=>exact ⟨f',rfl⟩
   | zero =>
    exfalso
    have hl:=kT.len
    simp only [zG,List.length_nil,Aj] at hl
    refine hfin (nk (by omega)) g Lt ?_;rw [<- hl];exact kT.now
  rw [ajA h0 han.symm hnl] at kT;dsimp only [D9,Option.map_some] at H;obtain ⟨b,o,pA,pc,rfl,hrow,hp,hrep⟩:=El (hv.mono hgm) hnl;refine kH H (YM h32 rfl (YR qM h32 rfl (by assumption) ?_));clear H;intro a H;refine kH H (YM h32 rfl (YI lQ jg h32 rfl rfl ?_));clear H;intro a H;refine aV jg (cs:=[_,_,_,_,_,_]) H (wg H rfl rfl h32) rfl rfl (fun j v hj=>H.hp.aI (hrow j v hj)) rfl ?_;clear H;intro a H;refine Eh (Li:=[_,_]) (L:=Lt) H (wg H rfl rfl h32) rfl rfl (hcb j1 _ _ _ _ ⟨_,kT.head,_,rfl,hrep⟩ hgm kT.now (Hp.owns (Li:=[_,_]) H.hp)) rfl ?_;clear H;rintro v38 LA Z8 a w ⟨b38,rfl,hb1,hb2⟩ Ba H;have hbg:=aF Ba hbg;have r3:=aF Ba (hrow 3 _ rfl);refine kH H (YN h32 rfl (Pf h32 rfl (Kz bT (Cd rfl ?_ ?_)))) <;> clear H bT
  ·intro lH a H
   try have p40:=dT lH
   refine dw ?_;refine (leave0 H results222 ?_).1;exact H.hp.ng (L':=Z8) (by repeat (first|exact lX _|apply List.Sublist.cons)) (.inr (hb2 (by simpa using lH)))
  intro lH a H
  try have p40:=dF lH
  refine kP H (Kc bH (SC (Rg qM rfl (by assumption) ?_)));clear H bH;intro a H;refine kH H (Rm rfl (Ri lQ jg rfl rfl (Rf ME rfl (Rg aG rfl (by assumption) ?_))));clear H;intro a H;refine bK aG 1 (vs:=[_]) H wn rfl ?_;clear H;intro w H;refine aB ?_;refine dJ ((l[n].base,f',j1+1,Z8,LA)) (by exact H.sub ⟨rfl,rfl,rfl,rfl,ay⟩) ?_
  (try dsimp only);exact ⟨fun b o h=>Ba b o (hgm b o h),kT.step (hb1 (by simpa using lH)),by omega⟩
 intro h23 a H
 try have Bp:=dF h23
 refine eu ?_;refine (leave0 H results222 ?_).2;rw [ajB (by simpa using h23)] at kT;refine H.hp.ng (L':=Lt) (by repeat (first|exact lX _|apply List.Sublist.cons)) (.inl ?_);have h:=kT.len
 simp only [List.length_nil,Aj] at h
 rw [<- h];exact kT.now
theorem alT:aQ 182:=aR func182 rfl
theorem alS:aQ 180:=aR func180 rfl
theorem U0:aQ 181:=aR func181 rfl
theorem JR:dX prog 192 4 4:=⟨by kernel_rfl⟩
theorem ajD {G:GH} {w0:World} (hO:gY G [] w0) (l:List bY) (id:Int) (v:ah) (hv:ak G (.sl 6 (l.map bY.dat)) v) :
  Calls prog 182 #[v,vi id] w0 (gF w0 G [] fun u G' L'=>∃ bl bi,u=.func (.func 222) #[] #[(aK bl 0),(aK bi 0)]∧L'=[bI bi id]∧aI G' bl 0=some v):=by
 obtain ⟨A,c,rfl,hc1,hc2,-⟩:=hv.slice;refine jD (N:=6) (T:=[(0,_),(1,_)]) func182 rfl ntmps182 rfl rfl hO ?_;intro a H;refine dz (fun _ K1=>?_);refine eB (cs:=[_]) H wn rfl rfl rfl ?_;clear H;intro b2 a w hb2 H;refine eB (cs:=[_]) H wn rfl rfl rfl ?_;clear H;intro b3 a w hb3 H;refine kH H (aj K1 rfl (SR fun _ K2=>?_));clear H K1;intro a H;refine qd H wn rfl rfl ?_;clear H;intro a H;refine kH H (aj K2 rfl ?_);clear H K2;intro a H;refine lr H results182 rfl ?_;have H:=H.fG (Pl:=[_,_]) (eH:=[_,_]) [1,0] (by decide) rfl;obtain ⟨Ga,hma,hb2',H⟩:=H.fO;exact H.hp.gT ⟨b2,b3,rfl,rfl,by unfold aI;rw [hb2'];rfl⟩
def vM (p:Nat->Int):Nat->Nat->Int
 | _,0=>0
 | k,n+1=>if p k=0 then vM p (k+1) n else p k
theorem aoh {p:Nat->Int} {k m:Nat} (h:k < m):vM p k (m - k)=if p k=0 then vM p (k+1) (m - (k+1)) else p k:=by
 obtain ⟨n,hn⟩:∃ n,m - k=n+1:=⟨m - k - 1,by omega⟩;rw [hn,vM,show m - (k+1)=n by omega]
theorem aog {p:Nat->Int} {k m:Nat} (h:m<=k):vM p k (m - k)=0:=by rw [show m - k=0 by omega];rfl
theorem acA {p:Nat->Int}:∀ {n k:Nat},vM p k n=0->∀ j,k<=j->j < k+n->p j=0
 | 0,k,_,j,h1,h2=>by omega
 | n+1,k,h,j,h1,h2=>by
  rw [vM] at h;split at h
  ·rename_i hp
   by_cases e:j=k
   ·rw [e];exact hp
   exact acA h j (by omega) (by omega)
  rename_i hp;exact absurd h hp
def Bo (l:List bY) (k:Nat):Int:=match l[k]? with|some s=>nJ l k s|none=>0
theorem afQ {l:List bY} {k:Nat} (h:k < l.length):Bo l k=nJ l k l[k]:=by unfold Bo;rw [eD h]
def yF (l:List bY) (s:bY):Bool:=(decide (s.base≠0) && !Ny l s.kind s.base) || (decide (s.next≠0) && (decide (s.kind=2) || !Ny l 1 s.next))
def UE (l:List bY) (s:bY):Bool:=decide (l.length < (JB l s.id).length)
def Ao (l:List bY):Int:=if 128 < l.length then 9 else if vM (Bo l) 0 l.length≠0 then vM (Bo l) 0 l.length else if l.any (yF l)=true then 25 else if l.any (UE l)=true then 16 else 0
theorem atM {l:List bY} (h:vM (Bo l) 0 l.length=0) {k:Nat} (hk:k+1 < l.length):l[k].id < l[k+1].id:=by
 have h1:=acA h (k+1) (lu _) (by omega);rw [afQ hk,nJ,xg] at h1
 have hp:zT l (k+1)=some l[k].id:=by rw [zT,dL,Nat.add_sub_cancel,eD (by omega)];rfl
 rw [hp] at h1
 split at h1
 ·cases h1
 split at h1
 ·cases h1
 split at h1
 ·cases h1
 rename_i _ h2 h3
 have h2':¬ l[k].id=l[k+1].id:=fun e=>h2 (by rw [e]);have h3':¬ l[k+1].id < l[k].id:=fun e=>h3 (aH e)
 omega
theorem afR {l:List bY} (h:vM (Bo l) 0 l.length=0):∀ {k j:Nat} (hk:k < l.length) (hj:j < k),l[j].id < l[k].id
 | k+1,j,hk,hj=>by
  have h1:=atM h hk
  by_cases e:j=k
  ·subst e;exact h1
  have:=afR h (k:=k) (j:=j) (by omega) (by omega)
  omega
theorem afS {l:List bY} (h:vM (Bo l) 0 l.length=0) (k:Nat) (hk:k < l.length):l[k].id∉(l.take k).map bY.id:=by
 intro hm;obtain ⟨x,hx1,hx2⟩:=List.mem_map.1 hm;obtain ⟨j,hj,rfl⟩:=List.getElem_of_mem hx1;rw [List.getElem_take] at hx2;rw [List.length_take] at hj;have:=afR h hk (j:=j) (by omega)
 omega
theorem aak {α:Type} {p:α->Bool} {l:List α} {k:Nat} (hk:k < l.length) (h:(l.take k).any p=false) (hp:p l[k]=false):(l.take (k+1)).any p=false:=by
 rw [kg hk,List.any_append,h];simp [hp]
theorem Jm {α:Type} {p:α->Bool} {l:List α} {k:Nat} (hk:k < l.length) (hp:p l[k]=true):l.any p=true:=List.any_eq_true.2 ⟨_,lC hk,hp⟩
theorem aaj {α:Type} {p:α->Bool} {l:List α} {k:Nat} (hk:l.length<=k) (h:(l.take k).any p=false):¬ l.any p=true:=by
 rw [jm hk] at h;rw [h];decide
theorem Dq {p:Prop} (h:p:=by
 first
  | exact H.rt (cO vi (by rw [Ao,nE]))
  | exact H.rt (cO vi (by rw [av (by simpa using oW)] at heq;rw [Ao,dL,<- heq,aD (by simpa using oW)]))
  | exact H.rt (cO vi (by rw [Ao,dL,av (by rw [hok];decide),aD hbad]))
  | exact H.rt (cO vi (by rw [Ao,dL,av (by rw [hok];decide),av hbad,aD (Jm hj2 hI)]))
  | exact H.rt (cO vi (by rw [Ao,dL,av (by rw [hok];decide),av hbad,av (aaj (by omega) hnc)]))):p:=h
theorem Po {p:Prop} (h:p:=by
 exact ⟨by omega,aak hk4 hno (by unfold yF;simp_all),lT⟩):p:=h
set_option maxHeartbeats 1000000 in
theorem ajM (G:GH) (w0:World) (hG:Hold G w0) (l:List bY) (v:ah) (hv:ak G (.sl 6 (l.map bY.dat)) v) (hN:∀ s∈l,s.name.size<=4611686018427387904) :
  Calls prog 119 #[v] w0 (bE w0 G fun u G'=>u=vi (Ao l)):=by
 obtain ⟨A,c,rfl,hc1,hc2,-⟩:=hv.slice;have hml:maxLen=9223372036854775807:=rfl;rw [bQ] at *;refine eN [(0,_)] func119 rfl ntmps119 rfl rfl hG ?_;intro a H;refine dz (fun _ K1=>?_);refine eB (cs:=[_]) H wn rfl rfl rfl ?_;clear H;intro b1 a w hb1 H;refine dP iQ H wn rfl ?_;clear H;intro b2 a w hb2 H;refine K1 _ _ ?_;clear K1;refine kP H (SQ fun _ K2=>SR fun _ K3=>Ro qM 1 rfl (Rl lQ rfl (Rc rfl (Kz K3 (Cd rfl ?_ ?_))))) <;> clear H K3
 ·intro h12 a H
  try have rM:=dT h12
  refine dz (fun _ K4=>?_);refine bK iQ 0 (vs:=[_]) H wn rfl ?_;clear H;intro w H;refine K4 _ _ ?_;clear K4;refine dw ?_;refine (leave1 H results119 (.cons (Ef iQ H rfl (H.hp.tC 0 rfl rfl)) .nil) ?_).1
  exact Dq
 intro h12 a H
 try have rM:=dF h12
 refine kP H (Kc K2 (SQ fun _ K5=>SR fun _ K6=>Ro qM 1 rfl (Rl lQ rfl (Rm rfl (Kz K6 (SB ?_))))));clear H K2 K6;intro a H;skip;refine fF (ι:=Nat × GH) (Tc:=[(1,_),(2,_),(14,_)]) (Lc:=[(_,_),(_,_)]) (fun gh=>[(15,vi gh.1)]) (fun gh=>[]) (fun gh=>gh.2) (fun gh=>gh.1<=l.length∧vM (Bo l) gh.1 (l.length - gh.1)=vM (Bo l) 0 l.length∧(∀ b o,G b=some o->gh.2 b=some o)) (fun gh=>l.length - gh.1) ((0,G)) (by exact H.sub ⟨rfl,rfl,rfl,rfl,ay⟩) ?_ ?_
 ·exact EF
 clear H;rintro ⟨k,g⟩ a w hI H;dsimp only at hI H;obtain ⟨hk,heq,hgm⟩:=hI;dsimp only [lca,bM] at H;refine kP H (SR fun _ K7=>Rc rfl (Kz K7 (SQ fun _ K8=>Cd rfl ?_ ?_))) <;> clear H K7
 ·intro h16 a H
  try have p16:=dT h16
  have hk2:k < l.length:=by omega
  rw [aoh hk2,afQ hk2] at heq;refine kP H (Kc K8 (SQ fun _ K9=>SB (SR fun _ aS=>Rm rfl (aj aS rfl (SR fun _ bH=>Ro qM 1 rfl (Rm rfl ?_))))));clear H K8 aS;intro a H;refine s_call alS H wn rfl (atN _ _ H.ro l k _ (hv.mono hgm) hk2 (hN _ (lC hk2))) rfl ?_;clear H;rintro v20 FV a w rfl oC H;refine kH H (aj bH rfl (SR fun _ bT=>Rm rfl (Rc rfl (Kz bT (Cd rfl ?_ ?_))))) <;> clear H bH bT
  ·intro h22 a H
   try have oW:=dT h22
   refine kP H (SR fun _ cK=>Rm rfl ?_);clear H;intro a H;refine bK iQ 0 (vs:=[_]) H wn rfl ?_;clear H;intro w H;refine cK _ _ ?_;clear cK;refine dw ?_;refine (leave1 H results119 (.cons (Ef iQ H rfl (H.hp.tC 0 rfl rfl)) .nil) ?_).1
   exact Dq
  intro h22 a H
  try have oW:=dF h22
  refine kP H (Kc K9 (SC (Rd rfl (Rm rfl ?_))));clear H K9;intro a H;refine aB ?_;refine dJ ((k+1,FV)) (by exact H.sub ⟨rfl,rfl,rfl,rfl,ay⟩) ?_
  (try dsimp only);exact ⟨by omega,by rw [aD (by simpa using oW)] at heq;exact heq,fun b o h=>oC b o (hgm b o h)⟩
 intro h16 a H
 try have p16:=dF h16
 have hok:vM (Bo l) 0 l.length=0:=by rw [<- heq];exact aog (by omega)
 clear heq;have CB:=hv.mono hgm;refine eu ?_;refine K5 _ _ ?_;clear K5;refine kP H (SQ fun _ dB=>SR fun _ eU=>Ro qM 1 rfl (Rl lQ rfl (Rm rfl (Kz eU (SB ?_)))));clear H eU;intro a H;skip;refine fF (ι:=Nat × GH) (Tc:=[(1,_),(2,_),(25,_),(26,_)]) (Lc:=[(_,_),(_,_)]) (fun gh=>[(27,vi gh.1)]) (fun gh=>[]) (fun gh=>gh.2) (fun gh=>gh.1<=l.length∧(l.take gh.1).any (yF l)=false∧(∀ b o,g b=some o->gh.2 b=some o)) (fun gh=>l.length - gh.1) ((0,g)) (by exact H.sub ⟨rfl,rfl,rfl,rfl,rfl,ay⟩) ?_ ?_
 ·exact EF
 clear H;rintro ⟨k,g2⟩ a w hI H;dsimp only at hI H;obtain ⟨hk3,hno,lT⟩:=hI;have Bh:=CB.mono lT;dsimp only [lca,bM] at H;refine kP H (SR fun _ eX=>Rc rfl (Kz eX (SQ fun _ eG=>Cd rfl ?_ ?_))) <;> clear H eX
 ·intro gD a H
  try have p28:=dT gD
  have hk4:k < l.length:=by omega
  obtain ⟨b,o,pA,pc,rfl,hrow,hp,hrep⟩:=El Bh hk4;refine kP H (Kc eG (SQ fun _ fC=>SB (SR fun _ gX=>Ri lQ jg rfl rfl ?_)));clear H eG;intro a H;refine aV jg (cs:=[_,_,_,_,_,_]) H wn rfl rfl (fun j v hj=>H.hp.aI (hrow j v hj)) rfl ?_;clear H;intro a H;refine dP jg H wn rfl ?_;clear H;intro b6 a w hb6 H;refine bK jg 0 (vs:=[_,_,_,_,_,_]) H wn rfl ?_;clear H;intro w H;refine gX _ _ ?_;clear gX;refine kP H (SR fun _ fM=>bO ME aG 0 rfl rfl (Rc rfl (Rm rfl (Sp 34 rfl ?_ ?_)))) <;> clear H
  ·intro fu a H
   try have p34:=dT fu
   refine kH H (YO qM 2 fu rfl (YF xQ fu rfl (YO aG 0 fu rfl (YF ME fu rfl (YO aG 0 fu rfl ?_)))));clear H;intro a H;refine s_call U0 H (wg H rfl rfl fu) rfl (Xu _ _ H.ro l l[k].kind l[k].base _ Bh) rfl ?_;clear H;rintro v40 g2 a w rfl H7 H;replace lT:=fun b o (h:g b=some o)=>H7 b o (lT b o h);replace Bh:=Bh.mono H7;refine kH H (YN fu rfl (Pt fu rfl (Rm rfl (Sp 43 rfl ?_ ?_)))) <;> clear H
   ·intro h43 a H
    try have p43:=dT h43
    refine kH H (aJ h43 rfl (aJ h43 rfl (Ku rfl (Ku rfl (Ku rfl (Ku rfl (Ku rfl (Ku rfl (Ku rfl (Ku rfl (Ku rfl (Ku rfl (Ks h43 rfl (Pt h43 rfl (Kz fM (Ct rfl rfl (SQ fun _ iI=>?_)))))))))))))))));clear H fM;intro a H;have hbad:l.any (yF l)=true:=Jm hk4 (by unfold yF;simp_all);refine pV ?_;refine bK iQ 1 (vs:=[_]) H wn rfl ?_;clear H;intro w H;refine aB ?_;refine iI _ _ ?_;clear iI;refine dw ?_;refine (leave1 H results119 (.cons (Ef iQ H rfl (H.hp.tC 1 rfl rfl)) .nil) ?_).1
    exact Dq
   intro h43 a H
   try have p43:=dF h43
   refine kH H (YF JR h43 rfl (YO aG 0 h43 rfl (YC h43 rfl (YM h43 rfl (Sp 47 rfl ?_ ?_))))) <;> clear H
   ·intro h47 a H
    try have p47:=dT h47
    refine kH H (YF xQ h47 rfl (YO aG 0 h47 rfl (YC h47 rfl (YM h47 rfl (Sp 51 rfl ?_ ?_))))) <;> clear H
    ·intro lZ a H
     try have p51:=dT lZ
     refine kH H (aM lZ rfl (aJ lZ rfl (PT h47 lZ rfl (PT h43 h47 rfl (Pf h43 rfl (Kz fM (Ct rfl rfl (SQ fun _ jH=>?_))))))));clear H fM;intro a H;have hbad:l.any (yF l)=true:=Jm hk4 (by unfold yF;simp_all);refine pV ?_;refine bK iQ 1 (vs:=[_]) H wn rfl ?_;clear H;intro w H;refine aB ?_;refine jH _ _ ?_;clear jH;refine dw ?_;refine (leave1 H results119 (.cons (Ef iQ H rfl (H.hp.tC 1 rfl rfl)) .nil) ?_).1
     exact Dq
    intro lZ a H
    try have p51:=dF lZ
    refine kH H (YO qM 2 lZ rfl (YF JR lZ rfl (YO aG 0 lZ rfl ?_)));clear H;intro a H;refine s_call U0 H (wg H rfl rfl lZ) rfl (Xu _ _ H.ro l 1 l[k].next _ Bh) rfl ?_;clear H;rintro v55 g2 a w rfl wT H;replace lT:=fun b o (h:g b=some o)=>wT b o (lT b o h);replace Bh:=Bh.mono wT;refine kH H (YN lZ rfl (PF h47 lZ rfl (PT h43 h47 rfl (Pf h43 rfl (Kz fM (Cd rfl ?_ ?_)))))) <;> clear H fM
    ·intro jc a H
     try have p59:=dT jc
     refine bR (fun _ mK=>?_);have hbad:l.any (yF l)=true:=Jm hk4 (by unfold yF;simp_all);refine pV ?_;refine bK iQ 1 (vs:=[_]) H wn rfl ?_;clear H;intro w H;refine aB ?_;refine mK _ _ ?_;clear mK;refine dw ?_;refine (leave1 H results119 (.cons (Ef iQ H rfl (H.hp.tC 1 rfl rfl)) .nil) ?_).1
     exact Dq
    intro jc a H
    try have p59:=dF jc
    refine kP H (Kc fC (SC (Rd rfl (Rm rfl ?_))));clear H fC;intro a H;refine aB ?_;refine dJ ((k+1,g2)) (by exact (H.fG (Pl:=[_,_,_]) (eH:=[_,_]) [1,2] (by decide) rfl).sub ⟨rfl,rfl,rfl,rfl,rfl,ay⟩) ?_
    (try dsimp only);exact Po
   intro h47 a H
   try have p47:=dF h47
   refine kH H (aJ h47 rfl (aJ h47 rfl (Ku rfl (Ku rfl (Ku rfl (Ku rfl (Ku rfl (Ks h47 rfl (PF h43 h47 rfl (Pf h43 rfl (Kz fM (Cf rfl rfl (Kc fC (SC (Rd rfl (Rm rfl ?_))))))))))))))));clear H fM fC;intro a H;refine aB ?_;refine dJ ((k+1,g2)) (by exact (H.fG (Pl:=[_,_,_]) (eH:=[_,_]) [1,2] (by decide) rfl).sub ⟨rfl,rfl,rfl,rfl,rfl,ay⟩) ?_
   (try dsimp only);exact Po
  intro fu a H
  try have p34:=dF fu
  refine kH H (aM fu rfl (aJ fu rfl (aJ fu rfl (Pf fu rfl (Rm rfl ?_)))));clear H;intro a H;refine KR JR H (wg H rfl rfl rfl) rfl rfl ?_;clear H;intro a H;refine rO aG H (wg H rfl rfl rfl) rfl (H.hp.tC 0 rfl rfl) rfl ?_;clear H;intro a H;refine FI H (wg H rfl rfl rfl) rfl rfl rfl rfl ?_;clear H;intro a H;refine FK H (wg H rfl rfl rfl) rfl rfl ?_;clear H;intro a H;refine Yx H 47 rfl ?_ ?_
  ·intro h47
   try have p47:=dT h47
   refine kH H (YF xQ h47 rfl (YO aG 0 h47 rfl (YC h47 rfl (YM h47 rfl (Sp 51 rfl ?_ ?_))))) <;> clear H
   ·intro lZ a H
    try have p51:=dT lZ
    refine kH H (aM lZ rfl (aJ lZ rfl (PT h47 lZ rfl ?_)));clear H;intro a H;refine NW H (wg H rfl rfl rfl) rfl h47 rfl rfl ?_;clear H;intro a H;refine kH H (Pf rfl rfl (Kz fM (Ct rfl rfl (SQ fun _ mD=>?_))));clear H fM;intro a H;have hbad:l.any (yF l)=true:=Jm hk4 (by unfold yF;simp_all);refine pV ?_;refine bK iQ 1 (vs:=[_]) H wn rfl ?_;clear H;intro w H;refine aB ?_;refine mD _ _ ?_;clear mD;refine dw ?_;refine (leave1 H results119 (.cons (Ef iQ H rfl (H.hp.tC 1 rfl rfl)) .nil) ?_).1
    exact Dq
   intro lZ a H
   try have p51:=dF lZ
   refine kH H (YO qM 2 lZ rfl (YF JR lZ rfl (YO aG 0 lZ rfl ?_)));clear H;intro a H;refine s_call U0 H (wg H rfl rfl lZ) rfl (Xu _ _ H.ro l 1 l[k].next _ Bh) rfl ?_;clear H;rintro v55 g2 a w rfl wT H;replace lT:=fun b o (h:g b=some o)=>wT b o (lT b o h);replace Bh:=Bh.mono wT;refine kH H (YN lZ rfl (PF h47 lZ rfl ?_));clear H;intro a H;refine NW H (wg H rfl rfl rfl) rfl h47 rfl rfl ?_;clear H;intro a H;refine kH H (Pf rfl rfl (Kz fM (Cd rfl ?_ ?_))) <;> clear H fM
   ·intro jc a H
    try have p59:=dT jc
    refine bR (fun _ kY=>?_);have hbad:l.any (yF l)=true:=Jm hk4 (by unfold yF;simp_all);refine pV ?_;refine bK iQ 1 (vs:=[_]) H wn rfl ?_;clear H;intro w H;refine aB ?_;refine kY _ _ ?_;clear kY;refine dw ?_;refine (leave1 H results119 (.cons (Ef iQ H rfl (H.hp.tC 1 rfl rfl)) .nil) ?_).1
    exact Dq
   intro jc a H
   try have p59:=dF jc
   refine kP H (Kc fC (SC (Rd rfl (Rm rfl ?_))));clear H fC;intro a H;refine aB ?_;refine dJ ((k+1,g2)) (by exact (H.fG (Pl:=[_,_,_]) (eH:=[_,_]) [1,2] (by decide) rfl).sub ⟨rfl,rfl,rfl,rfl,rfl,ay⟩) ?_
   (try dsimp only);exact Po
  intro h47
  try have p47:=dF h47
  refine kH H (aJ h47 rfl (aJ h47 rfl (Ku rfl (Ku rfl (Ku rfl (Ku rfl (Ku rfl (Ks h47 rfl ?_))))))));clear H;intro a H;refine Sk H (wg H rfl rfl rfl) rfl h47 rfl rfl ?_;clear H;intro a H;refine kH H (Pf rfl rfl (Kz fM (Cf rfl rfl (Kc fC (SC (Rd rfl (Rm rfl ?_)))))));clear H fM fC;intro a H;refine aB ?_;refine dJ ((k+1,g2)) (by exact (H.fG (Pl:=[_,_,_]) (eH:=[_,_]) [1,2] (by decide) rfl).sub ⟨rfl,rfl,rfl,rfl,rfl,ay⟩) ?_
  (try dsimp only);exact Po
 intro gD a H
 try have p28:=dF gD
 have hbad:=aaj (by omega) hno;refine eu ?_;refine dB _ _ ?_;clear dB;refine kP H (SQ fun _ om=>SR fun _ oq=>Ro qM 1 rfl (Rl lQ rfl (Rm rfl (Kz oq (SB ?_)))));clear H oq;intro a H;skip;refine ajd (ι:=Nat × GH × List Nat) (Tc:=[(1,_),(2,_),(61,_),(62,_)]) (Lc:=[(_,_),(_,_)]) (fun gh=>XP gh.2.2) (fun gh=>[(63,vi gh.1)]) (fun gh=>[]++(Iy gh.2.2++[])) (fun gh=>gh.2.1) (fun gh=>gh.1<=l.length∧(l.take gh.1).any (UE l)=false∧(∀ b o,g2 b=some o->gh.2.1 b=some o)) (fun gh=>l.length - gh.1) ((0,g2,[])) (by exact H.sub ⟨rfl,rfl,rfl,rfl,rfl,ay⟩) ?_ ?_
 ·exact EF
 clear H;rintro ⟨j,g3,ds⟩ a w hI H;dsimp only at hI H;obtain ⟨hj,hnc,xU⟩:=hI;have Xk:=Bh.mono xU;dsimp only [lca,bM] at H;refine kP H (SR fun _ kZ=>Rc rfl (Kz kZ (SQ fun _ qm=>Cd rfl ?_ ?_))) <;> clear H kZ
 ·intro h64 a H
  try have p64:=dT h64
  have hj2:j < l.length:=by omega
  obtain ⟨b,o,pA,pc,rfl,hrow,hp,hrep⟩:=El Xk hj2;refine kP H (Kc qm (SQ fun _ qD=>SB (SR fun _ qP=>Ri lQ jg rfl rfl ?_)));clear H qm;intro a H;refine aV jg (cs:=[_,_,_,_,_,_]) H wn rfl rfl (fun j v hj=>H.hp.aI (hrow j v hj)) rfl ?_;clear H;intro a H;refine dP jg H wn rfl ?_;clear H;intro b8 a w Cr H;refine bK jg 0 (vs:=[_,_,_,_,_,_]) H wn rfl ?_;clear H;intro w H;refine qP _ _ ?_;clear qP;refine dz (fun _ rR=>?_);refine dP aG H wn rfl ?_;clear H;intro b9 a w wR H;refine bK aG 0 (vs:=[_]) H wn rfl ?_;clear H;intro w H;refine rR _ _ ?_;clear rR;refine kP H (SR fun _ qQ=>Ro qM 3 rfl (bO vN aG 1 rfl rfl ?_));clear H;intro a H;refine iE alT (Li:=[_,_,_,_]++Iy ds) (L:=[]) (St.un (A:=[_,_,_,_]) H) wn rfl (ajD (Hp.owns (Li:=[_,_,_,_]++Iy ds) (St.un (A:=[_,_,_,_]) H).hp) l l[j].id _ Xk) rfl ?_;clear H;rintro v70 g4 L70 a w ⟨bl,bi,rfl,rfl,hbl⟩ adY H;have H:=(St.NG (A:=[_,_,_,_,_]) (B:=Iy ds) (H.perm wG));dsimp only [lca,bM] at H;have hit:=ajC (l:=l) (id:=l[j].id) (bi:=bi) hbl (Xk.mono adY) (afS hok);refine qQ _ _ ?_;clear qQ;refine EJ ?_;skip;refine ajh (B:=[(_,_)]) (ι:=Unit) (κ:=Int) (Lc:=[(_,_),(_,_)]) (fun (k:Nat) (gh:Unit)=>[(b9,.cells #[vi k] 3 (0,0)),(b2,.cells #[vi 0] 49 (0,0))]) (fun (k:Nat) (gh:Unit)=>(Iy ds++[])) (fun (k:Nat) (gh:Unit) (g:GH)=>k<=l.length) (fun (gx:Int)=>Code.ret) (fun (gx:Int)=>[(b9,.cells #[vi gx] 3 (0,0)),(b2,.cells #[vi 16] 49 (0,0))]) (fun (gx:Int)=>(Iy ds++[])) (fun (gx:Int) (g:GH)=>UE l l[j]=true) (()) (by exact H.fG (Pl:=[_,_,_,_,_]) (eH:=[_,_,_,_,_]) [0,2,4,1,3] (by decide) rfl) rfl ach (hit) (fun _ _ h=>h) (fun e i g h=>absurd (of_decide_eq_false e) (by rw [bQ] at h;omega)) rfl (fun k args g h=>by obtain ⟨_,_,rfl,_⟩:=ahd h;rfl) (fun _ _ _ _ _ h=>h) (fun _ _ _ _ h=>h) (lu _) ?_ ?_ ?_
  ·clear H;intro l21 IL Dr bk k args gh Tg w21 F21 B21 a adQ Cw hI aqc aqV arG H;obtain ⟨adQ,ays,rfl,azg⟩:=ahd adQ;dsimp only [BZ,List.cons_append,List.nil_append] at H;refine iG ?_;refine aqc _ _ _ _ _ _ (by exact H) ?_;clear H;intro w H;refine kP H (SB (SR fun _ rT=>Ro aG 3 rfl (Rd rfl ?_)));clear H;intro a H;refine bK aG 3 (vs:=[_]) H wn rfl ?_;clear H;intro w H;refine rT _ _ ?_;clear rT;refine kP H (SR fun _ vD=>Ro aG 3 rfl (Ro qM 2 rfl (Rl lQ rfl (Rc rfl (Kz vD (Cd rfl ?_ ?_)))))) <;> clear H vD
   ·intro Hq a H
    try have KJ:=dT Hq
    refine dz (fun _ sN=>?_);refine bK iQ 4 (vs:=[_]) H wn rfl ?_;clear H;intro w H;refine sN _ _ ?_;clear sN;refine dw ?_;refine (arG ((k:Int)+1) _ _ _ _ _ (by exact H) ?_).1 rfl;exact mM (by omega)
   intro Hq a H
   try have KJ:=dF Hq
   refine iG ?_;refine aqV (()) _ _ _ _ _ (by exact H) ?_
   omega
  ·clear H;intro Zm gh ZC a w Cw hI H;dsimp only [lca,bM] at H;refine qD _ _ ?_;clear qD;refine kP H (SC (Rd rfl (Rm rfl ?_)));clear H;intro a H;refine aB ?_;refine asO ((j+1,ZC,Zm :: ds)) (by exact (H.fG (Pl:=[_,_,_,_,_]) (eH:=[_,_,_]) [4,2,0] (by decide) rfl).sub ⟨rfl,rfl,rfl,rfl,rfl,ay⟩) ?_ ?_
   ·(try dsimp only);exact ⟨by omega,aak hj2 hnc (nk (by rw [bQ] at hI;omega)),fun b o h=>Cw b o (adY b o (xU b o h))⟩
   first|omega|(dsimp only;omega)
  clear H;intro Zm x ZC a w Cw hI H;dsimp only [lca,bM] at H;refine dw ?_;refine (XB H 0 rfl ?_).1;clear H;intro a w H;dsimp only [List.eraseIdx_cons_succ,List.eraseIdx_cons_zero] at H;refine (XC (Lh:=[_,_,_,_]) _ H ?_).1;clear H;intro a w H;dsimp only [lca,bM] at H;refine (leave1 H results119 (.cons (Ef iQ H rfl (H.hp.tC 3 rfl rfl)) .nil) ?_).1
  exact Dq
 intro h64 a H
 try have p64:=dF h64
 refine eu ?_;refine om _ _ ?_;clear om;refine dz (fun _ xB=>?_);refine bK iQ 0 (vs:=[_]) H wn rfl ?_;clear H;intro w H;refine xB _ _ ?_;clear xB;refine dw ?_;refine (XC (Lh:=[_,_]) _ H ?_).1;clear H;intro a w H;dsimp only [lca,bM] at H;refine (leave1 H results119 (.cons (Ef iQ H rfl (H.hp.tC 0 rfl rfl)) .nil) ?_).1
 exact Dq
theorem xw:Ty prog 34 1 24 [.slice none 0 0] false:=⟨by kernel_rfl,by kernel_rfl⟩
theorem sI:prog.underlying 34=some (.slice 110):=by kernel_rfl
theorem xq:Ty prog 110 2 32 [.string ⟨#[]⟩,.string ⟨#[]⟩] true:=⟨by kernel_rfl,by kernel_rfl⟩
theorem JO:dX prog 110 0 0:=⟨by kernel_rfl⟩
theorem U2:aQ 192:=aR func192 rfl
theorem acH:dX prog 110 1 1:=⟨by kernel_rfl⟩
theorem Dx:dX prog 36 0 0:=⟨by kernel_rfl⟩
theorem ale:aQ 119:=aR func119 rfl
theorem Dy:dX prog 36 1 1:=⟨by kernel_rfl⟩
theorem alf:aQ 120:=aR func120 rfl
theorem MH:dX prog 36 2 2:=⟨by kernel_rfl⟩
theorem alg:aQ 121:=aR func121 rfl
theorem MI:dX prog 36 3 3:=⟨by kernel_rfl⟩
theorem alh:aQ 122:=aR func122 rfl
theorem amb:aQ 191:=aR func191 rfl
theorem ahG {G:GH} {l:List jl} {A:Option Addr} {n c k:Nat} (hv:ak G (.sl 2 (l.map jl.dat)) (.slice A n c)) (hk:k < l.length):∃ b o,A=some ⟨b,o,none⟩∧(∀ j u,l[k].cells[j]?=some u->aI G b (o+k*2+j)=some u):=by
 obtain ⟨A',c',he,_,_,hg⟩:=hv.slice
 injection he with e1 e2 e3
 subst e1;obtain ⟨b,o,cs,h1,h2,h3,h4⟩:=hg k l[k].dat (by simp [hk]);have:=Y6 h4;subst this;exact Gm
def ahF (k:Nat) (x:jl) (pn:ByteArray):Int:=dS [dG (!xO x.name) 13,dG (decide (0 < (k:Int)) && (x.name.toList == pn.toList)) 7,dG (decide (0 < (k:Int)) && Op.bytesLess x.name.toList pn.toList) 6,En x.value]
def Lg (l:List jl) (k:Nat):Int:=match l[k]? with|some x=>ahF k x ((l[k - 1]?.map jl.name).getD ⟨#[]⟩)|none=>0
theorem Pp {p:Prop} (h:p:=by
 exact fin H iJ (gK (by first|(rw [mM c0,LK];done)|(rw [nk c0,LP];done)))):p:=h
set_option maxHeartbeats 2000000 in
theorem axI {G:GH} {bl:Nat} {l:List jl} {A:Option Addr} {n c:Nat} (hb:aI G bl 0=some (.slice A n c)) (hv:ak G (.sl 2 (l.map jl.dat)) (.slice A n c)) (hl:l.length<=4294967296) (ht:∀ x∈l,x.name.size < 4611686018427387904∧x.value.size < 4611686018427387904):vC (.func (.func 191) #[] #[(aK bl 0)]) G l.length (Lg l):=by
 intro k hk G1 w0 hm hG;refine jv (caps:=[(aK bl 0)]) amb ?_;replace hb:=aF hm hb;replace hv:=hv.mono hm
 obtain rfl:n=l.length:=by have:=hv.len;simpa using this
 obtain ⟨b,o,rfl,hrow⟩:=ahG hv hk
 have hk1:k - 1 < l.length:=by omega
 obtain ⟨b',o',he',hrow'⟩:=ahG hv hk1
 injection he' with he'
 injection he' with e1 e2
 subst e1;subst e2;have hte:=ht _ (lC hk)
 have he:Lg l k=ahF k l[k] l[k - 1].name:=by unfold Lg;rw [eD hk,eD hk1];rfl
 obtain ⟨x,hx⟩:∃ x,x=l[k]:=⟨_,rfl⟩;obtain ⟨y,hy⟩:∃ y,y=l[k - 1]:=⟨_,rfl⟩;rw [<- hx] at hrow hte he;rw [<- hy] at hrow' he;refine eN [(0,_),(1,_)] func191 rfl ntmps191 rfl rfl hG ?_;intro a H;refine kP H (SR fun _ K1=>aj K1 rfl (SQ fun _ K2=>?_));clear H K1;intro a H;have H:=H.sub (T':=[(0,_),(1,_)]) ⟨rfl,rfl,ay⟩
 by_cases c0:0 < (k:Int)
 ·skip;refine dI hmx [[],[],[0,1],[0,1,2],ra 0 4,ra 0 5,ra 0 6,ra 0 7,[],[8],ra 0 10,ra 0 11,ra 0 11,ra 0 13,ra 0 14,ra 0 15,ra 0 11,ra 0 11,(ra 0 11++[17]),(ra 0 11++[17,18]),(ra 0 11++ra 16 4),(ra 0 11++ra 16 5),(ra 0 11++ra 16 6),ra 0 23,ra 0 24,ra 0 25,[],[26],ra 0 28,ra 0 29,ra 0 29,ra 0 31,ra 0 32,ra 0 33,ra 0 29,ra 0 29,(ra 0 29++[35]),(ra 0 29++[35,36]),(ra 0 29++ra 34 4),(ra 0 29++ra 34 5),(ra 0 29++ra 34 6),ra 0 41,ra 0 42,ra 0 43,[],[],[44,45],[44,45,46],ra 44 4,ra 0 49,ra 0 50,ra 0 51,ra 0 52] [50,51,52] (by kernel_rfl) [_,_,_,_,_,.bool (xO x.name),_,vi (dG (!xO x.name) 13),_,_,_,_,_,_,_,_,_,_,vi ((max k 1:Nat):Int),vi ((k - 1:Nat):Int),_,_,_,.bool (x.name.toList == y.name.toList),.bool (decide (0 < (k:Int)) && (x.name.toList == y.name.toList)),vi (dG (decide (0 < (k:Int)) && (x.name.toList == y.name.toList)) 7),_,_,_,_,_,_,_,_,_,_,vi ((max k 1:Nat):Int),vi ((k - 1:Nat):Int),_,_,_,.bool (Op.bytesLess x.name.toList y.name.toList),.bool (decide (0 < (k:Int)) && Op.bytesLess x.name.toList y.name.toList),vi (dG (decide (0 < (k:Int)) && Op.bytesLess x.name.toList y.name.toList) 6),_,_,_,_,_,vi (En x.value)] H (aC (X0 rfl fun hG=>Rg xw rfl (aF hG hb)) (Z0 rfl (Rm rfl)) (Z2 0 4 1 5 rfl (Ri sI xq rfl rfl)) (Z1 2 6 rfl (Rf JO rfl)) (aC (X1 3 7 rfl fun hG=>Rg iR rfl (aF hG (hrow 0 _ rfl))) ?_ (Z1 5 9 rfl (Rn rfl)) ?_ (aC (Z0 rfl (Rm rfl)) (Z1 8 12 rfl (Rc rfl)) (Z1 9 13 rfl (Rm rfl)) (X1 10 14 rfl fun hG=>YR xw (aH c0) rfl (aF hG hb)) (aC (Z1 10 14 rfl (YM (aH c0) rfl)) (Z3 11 15 12 16 10 14 rfl (YI sI xq (aH c0) rfl rfl)) (Z2 13 17 10 14 rfl (YF JO (aH c0) rfl)) (X2 14 18 10 14 rfl fun hG=>YR iR (aH c0) rfl (aF hG (hrow 0 _ rfl))) (aC (X1 10 14 rfl fun hG=>YR xw (aH c0) rfl (aF hG hb)) (Z1 10 14 rfl (YM (aH c0) rfl)) ?_ ?_ (aC (Z3 16 20 19 23 10 14 rfl (YI sI xq (aH c0) rfl rfl)) (Z2 20 24 10 14 rfl (YF JO (aH c0) rfl)) (X2 21 25 10 14 rfl fun hG=>YR iR (aH c0) rfl (aF hG (hrow' 0 _ rfl))) ?_ (aC ?_ ?_ (Z0 rfl (Rm rfl)) (Z1 26 30 rfl (Rc rfl)) (aC (Z1 27 31 rfl (Rm rfl)) (X1 28 32 rfl fun hG=>YR xw (aH c0) rfl (aF hG hb)) (Z1 28 32 rfl (YM (aH c0) rfl)) (Z3 29 33 30 34 28 32 rfl (YI sI xq (aH c0) rfl rfl)) (aC (Z2 31 35 28 32 rfl (YF JO (aH c0) rfl)) (X2 32 36 28 32 rfl fun hG=>YR iR (aH c0) rfl (aF hG (hrow 0 _ rfl))) (X1 28 32 rfl fun hG=>YR xw (aH c0) rfl (aF hG hb)) (Z1 28 32 rfl (YM (aH c0) rfl)) (aC ?_ ?_ (Z3 34 38 37 41 28 32 rfl (YI sI xq (aH c0) rfl rfl)) (Z2 38 42 28 32 rfl (YF JO (aH c0) rfl)) (aC (X2 39 43 28 32 rfl fun hG=>YR iR (aH c0) rfl (aF hG (hrow' 0 _ rfl))) ?_ ?_ ?_ (aC (X0 rfl fun hG=>Rg xw rfl (aF hG hb)) (Z0 rfl (Rm rfl)) (Z2 44 48 45 49 rfl (Ri sI xq rfl rfl)) (Z1 46 50 rfl (Rf acH rfl)) (aC (X1 47 51 rfl fun hG=>Rg iR rfl (aF hG (hrow 1 _ rfl))) ?_ (bU rfl) (bU rfl) (bP (bU rfl) dH)))))))))))))) ?_
  ·refine eY 4 8 rfl rfl fun _ a w G1 hG HT H fin=>?_;refine s_call U2 H wn rfl (UA _ _ H.ro x.name hte.1) rfl ?_;clear H;rintro v9 G9 a w ⟨rfl,-⟩ V7 H;exact fin H V7 (rfl)
  ·refine eY 6 10 rfl rfl fun _ a w G1 hG HT H fin=>?_;refine s_call kr H wn rfl (kF _ _ H.ro _ 13) rfl ?_;clear H;rintro v11 uG a w ⟨rfl,-⟩ pX H;exact Gw
  ·refine dO 17 21 10 14 rfl rfl fun _ a w G1 hG HT H fin=>?_;refine Sg H (wg H rfl rfl (aH c0)) rfl rfl rfl ?_;clear H;intro a H;exact qF
  ·refine dO 18 22 10 14 rfl rfl fun _ a w G1 hG HT H fin=>?_;refine nL _ H (wg H rfl rfl (aH c0)) rfl rfl rfl (by omega) (by omega) rfl ?_;clear H;intro a H;exact qF
  ·refine zy 15 19 22 26 10 14 rfl rfl fun _ a w G1 hG HT H fin=>?_;refine CU H (wg H rfl rfl (aH c0)) rfl rfl rfl ?_;clear H;intro a H;exact dZ
  ·refine dO 10 14 23 27 rfl rfl fun _ a w G1 hG HT H fin=>?_;refine kH H (Pt (aH c0) rfl ?_);clear H;intro a H;exact Pp
  ·refine eY 24 28 rfl rfl fun _ a w G1 hG HT H fin=>?_;refine s_call kr H wn rfl (kF _ _ H.ro _ 7) rfl ?_;clear H;rintro v29 zw a w ⟨rfl,-⟩ VW H;exact fin H VW (rfl)
  ·refine dO 35 39 28 32 rfl rfl fun _ a w G1 hG HT H fin=>?_;refine Sg H (wg H rfl rfl (aH c0)) rfl rfl rfl ?_;clear H;intro a H;exact qF
  ·refine dO 36 40 28 32 rfl rfl fun _ a w G1 hG HT H fin=>?_;refine nL _ H (wg H rfl rfl (aH c0)) rfl rfl rfl (by omega) (by omega) rfl ?_;clear H;intro a H;exact qF
  ·refine zy 33 37 40 44 28 32 rfl rfl fun _ a w G1 hG HT H fin=>?_;refine avM H (wg H rfl rfl (aH c0)) rfl rfl rfl ?_;clear H;intro a H;exact dZ
  ·refine dO 28 32 41 45 rfl rfl fun _ a w G1 hG HT H fin=>?_;refine kH H (Pt (aH c0) rfl ?_);clear H;intro a H;exact Pp
  ·refine eY 42 46 rfl rfl fun _ a w G1 hG HT H fin=>?_;refine s_call kr H wn rfl (kF _ _ H.ro _ 6) rfl ?_;clear H;rintro v47 Zy a w ⟨rfl,-⟩ V3 H;exact fin H V3 (rfl)
  ·refine eY 48 52 rfl rfl fun _ a w G1 hG HT H fin=>?_;refine s_call U1 H wn rfl (YW _ _ H.ro x.value hte.2) rfl ?_;clear H;rintro v53 Tp a w rfl Hu H;exact fin H Hu (rfl)
  clear H;intro a w G jy H hv;have H:=H.aN (hv 7 11 rfl rfl) rfl;have H:=H.aN (hv 25 29 rfl rfl) rfl;have H:=H.aN (hv 43 47 rfl rfl) rfl;have H:=H.aN (hv 49 53 rfl rfl) rfl;clear hv;refine iV rQ iQ [_,_,_,_] [_,_,_,_] H wn rfl rfl rfl rfl rfl (by intro i q h;match i,h with|0,h=>exact h|1,h=>exact h|2,h=>exact h|3,h=>exact h|n+4,h=>simp at h) rfl rfl ?_;clear H;intro Ca a w adB H;obtain ⟨G54,aqO,Wp,H⟩:=H.fO;refine s_call sU H wn rfl (sW _ _ H.ro _ _ (Ip [dG (!xO x.name) 13,dG (decide (0 < (k:Int)) && (x.name.toList == y.name.toList)) 7,dG (decide (0 < (k:Int)) && Op.bytesLess x.name.toList y.name.toList) 6,En x.value] Wp (show 4<=maxLen by decide))) rfl ?_;clear H;rintro v55 _ a w ⟨rfl,rfl⟩ - H;refine kH H (Ra rfl ?_);clear H;intro a H;refine aB ⟨rfl,?_⟩;refine K2 _ _ ?_;clear K2;refine lr H results191 rfl ?_;exact H.rt (by rw [he];rfl)
 skip;refine dI hmx [[],[],[0,1],[0,1,2],ra 0 4,ra 0 5,ra 0 6,ra 0 7,[],[8],ra 0 10,ra 0 11,ra 0 11,ra 0 13,ra 0 14,ra 0 15,ra 0 11,ra 0 11,(ra 0 11++[17]),(ra 0 11++[17,18]),(ra 0 11++ra 16 4),(ra 0 11++ra 16 5),(ra 0 11++ra 16 6),ra 0 23,ra 0 24,ra 0 25,[],[26],ra 0 28,ra 0 29,ra 0 29,ra 0 31,ra 0 32,ra 0 33,ra 0 29,ra 0 29,(ra 0 29++[35]),(ra 0 29++[35,36]),(ra 0 29++ra 34 4),(ra 0 29++ra 34 5),(ra 0 29++ra 34 6),ra 0 41,ra 0 42,ra 0 43,[],[],[44,45],[44,45,46],ra 44 4,ra 0 49,ra 0 50,ra 0 51,ra 0 52] [50,51,52] (by kernel_rfl) [_,_,_,_,_,.bool (xO x.name),_,vi (dG (!xO x.name) 13),_,_,_,undef,undef,undef,undef,undef,undef,undef,undef,undef,undef,undef,undef,undef,.bool (decide (0 < (k:Int)) && (x.name.toList == y.name.toList)),vi (dG (decide (0 < (k:Int)) && (x.name.toList == y.name.toList)) 7),_,_,_,undef,undef,undef,undef,undef,undef,undef,undef,undef,undef,undef,undef,undef,.bool (decide (0 < (k:Int)) && Op.bytesLess x.name.toList y.name.toList),vi (dG (decide (0 < (k:Int)) && Op.bytesLess x.name.toList y.name.toList) 6),_,_,_,_,_,vi (En x.value)] H (aC (X0 rfl fun hG=>Rg xw rfl (aF hG hb)) (Z0 rfl (Rm rfl)) (Z2 0 4 1 5 rfl (Ri sI xq rfl rfl)) (Z1 2 6 rfl (Rf JO rfl)) (aC (X1 3 7 rfl fun hG=>Rg iR rfl (aF hG (hrow 0 _ rfl))) ?_ (Z1 5 9 rfl (Rn rfl)) ?_ (aC (Z0 rfl (Rm rfl)) (Z1 8 12 rfl (Rc rfl)) (Z1 9 13 rfl (Rm rfl)) (aZ 10 (aY c0) rfl rfl) (aC (aZ 10 (aY c0) rfl rfl) (aZ 10 (aY c0) rfl rfl) (aZ 10 (aY c0) rfl rfl) (aZ 10 (aY c0) rfl rfl) (aC (aZ 10 (aY c0) rfl rfl) (aZ 10 (aY c0) rfl rfl) (aZ 10 (aY c0) rfl rfl) (aZ 10 (aY c0) rfl rfl) (aC (aZ 10 (aY c0) rfl rfl) (aZ 10 (aY c0) rfl rfl) (aZ 10 (aY c0) rfl rfl) (aZ 10 (aY c0) rfl rfl) (aC ?_ ?_ (Z0 rfl (Rm rfl)) (Z1 26 30 rfl (Rc rfl)) (aC (Z1 27 31 rfl (Rm rfl)) (aZ 28 (aY c0) rfl rfl) (aZ 28 (aY c0) rfl rfl) (aZ 28 (aY c0) rfl rfl) (aC (aZ 28 (aY c0) rfl rfl) (aZ 28 (aY c0) rfl rfl) (aZ 28 (aY c0) rfl rfl) (aZ 28 (aY c0) rfl rfl) (aC (aZ 28 (aY c0) rfl rfl) (aZ 28 (aY c0) rfl rfl) (aZ 28 (aY c0) rfl rfl) (aZ 28 (aY c0) rfl rfl) (aC (aZ 28 (aY c0) rfl rfl) (aZ 28 (aY c0) rfl rfl) ?_ ?_ (aC (X0 rfl fun hG=>Rg xw rfl (aF hG hb)) (Z0 rfl (Rm rfl)) (Z2 44 48 45 49 rfl (Ri sI xq rfl rfl)) (Z1 46 50 rfl (Rf acH rfl)) (aC (X1 47 51 rfl fun hG=>Rg iR rfl (aF hG (hrow 1 _ rfl))) ?_ (bU rfl) (bU rfl) (bP (bU rfl) dH)))))))))))))) ?_
 ·refine eY 4 8 rfl rfl fun _ a w G1 hG HT H fin=>?_;refine s_call U2 H wn rfl (UA _ _ H.ro x.name hte.1) rfl ?_;clear H;rintro v9 G9 a w ⟨rfl,-⟩ V7 H;exact fin H V7 (rfl)
 ·refine eY 6 10 rfl rfl fun _ a w G1 hG HT H fin=>?_;refine s_call kr H wn rfl (kF _ _ H.ro _ 13) rfl ?_;clear H;rintro v11 uG a w ⟨rfl,-⟩ pX H;exact Gw
 ·refine dO 10 14 23 27 rfl rfl fun _ a w G1 hG HT H fin=>?_;refine kH H (Pf (aY c0) rfl ?_);clear H;intro a H;exact Pp
 ·refine eY 24 28 rfl rfl fun _ a w G1 hG HT H fin=>?_;refine s_call kr H wn rfl (kF _ _ H.ro _ 7) rfl ?_;clear H;rintro v29 zw a w ⟨rfl,-⟩ VW H;exact fin H VW (rfl)
 ·refine dO 28 32 41 45 rfl rfl fun _ a w G1 hG HT H fin=>?_;refine kH H (Pf (aY c0) rfl ?_);clear H;intro a H;exact Pp
 ·refine eY 42 46 rfl rfl fun _ a w G1 hG HT H fin=>?_;refine s_call kr H wn rfl (kF _ _ H.ro _ 6) rfl ?_;clear H;rintro v47 Zy a w ⟨rfl,-⟩ V3 H;exact fin H V3 (rfl)
 ·refine eY 48 52 rfl rfl fun _ a w G1 hG HT H fin=>?_;refine s_call U1 H wn rfl (YW _ _ H.ro x.value hte.2) rfl ?_;clear H;rintro v53 Tp a w rfl Hu H;exact fin H Hu (rfl)
 clear H;intro a w G jy H hv;have H:=H.aN (hv 7 11 rfl rfl) rfl;have H:=H.aN (hv 25 29 rfl rfl) rfl;have H:=H.aN (hv 43 47 rfl rfl) rfl;have H:=H.aN (hv 49 53 rfl rfl) rfl;clear hv;refine iV rQ iQ [_,_,_,_] [_,_,_,_] H wn rfl rfl rfl rfl rfl (by intro i q h;match i,h with|0,h=>exact h|1,h=>exact h|2,h=>exact h|3,h=>exact h|n+4,h=>simp at h) rfl rfl ?_;clear H;intro Ca a w adB H;obtain ⟨G54,aqO,Wp,H⟩:=H.fO;refine s_call sU H wn rfl (sW _ _ H.ro _ _ (Ip [dG (!xO x.name) 13,dG (decide (0 < (k:Int)) && (x.name.toList == y.name.toList)) 7,dG (decide (0 < (k:Int)) && Op.bytesLess x.name.toList y.name.toList) 6,En x.value] Wp (show 4<=maxLen by decide))) rfl ?_;clear H;rintro v55 _ a w ⟨rfl,rfl⟩ - H;refine kH H (Ra rfl ?_);clear H;intro a H;refine aB ⟨rfl,?_⟩;refine K2 _ _ ?_;clear K2;refine lr H results191 rfl ?_;exact H.rt (by rw [he];rfl)
def PI (l:List jl):Int:=dS [dG (decide (128 < (l.length:Int))) 9,iW (Lg l) (min l.length 128)]
theorem ajK (G:GH) (w0:World) (hG:Hold G w0) (l:List jl) (v:ah) (hv:ak G (.sl 2 (l.map jl.dat)) v) (hl:l.length<=4294967296) (ht:∀ x∈l,x.name.size < 4611686018427387904∧x.value.size < 4611686018427387904) :
  Calls prog 122 #[v] w0 (bE w0 G fun u G'=>u=vi (PI l)):=by
 obtain ⟨A,c,rfl,hc1,hc2,-⟩:=hv.slice;rw [bQ] at *;refine eN [(0,_)] func122 rfl ntmps122 rfl rfl hG ?_;intro a H;refine dz (fun _ K1=>?_);refine eB (cs:=[_]) H wn rfl rfl rfl ?_;clear H;intro b1 a w hb1 H;refine kH H (aj K1 rfl (SQ fun _ K2=>?_));clear H K1;intro a H;have H:=H.sub (T':=[(1,_)]) ⟨rfl,ay⟩;obtain ⟨Ga,hma,hb1',H⟩:=H.fO
 have hbl:aI Ga b1 0=some (.slice A l.length c):=by unfold aI;rw [hb1'];rfl
 have hcb:=axI hbl (hv.mono hma) hl ht;refine dI hmx [[],[0],[0,1],[0,1,2],[],[4],[4,5],[],ra 0 8,ra 0 9,ra 0 10,ra 0 11] [9,10,11] (by kernel_rfl) [_,_,_,vi (dG (decide (128 < (l.length:Int))) 9),_,_,vi ((min l.length 128:Nat):Int),.func (.func 191) #[] #[(aK b1 0)],vi (iW (Lg l) (min l.length 128))] H (aC (X0 rfl fun hG=>Rg xw rfl (aF hG hbl)) (Z1 0 3 rfl (Rl sI rfl)) (Z1 1 4 rfl (Rc rfl)) ?_ (aC (X0 rfl fun hG=>Rg xw rfl (aF hG hbl)) (Z1 4 7 rfl (Rl sI rfl)) ?_ ?_ (aC ?_ (bU rfl) (bU rfl) (bU rfl) dH))) ?_
 ·refine eY 2 5 rfl rfl fun _ a w G1 hG HT H fin=>?_;refine s_call kr H wn rfl (kF _ _ H.ro _ 9) rfl ?_;clear H;rintro v6 G6 a w ⟨rfl,-⟩ jU H;exact Js
 ·refine eY 5 8 rfl rfl fun _ a w G1 hG HT H fin=>?_;refine Si H wn rfl rfl rfl ?_;clear H;intro a H;exact Pm
 ·refine Dh rfl fun _ a w G1 hG HT H fin=>?_;refine qd H wn rfl rfl ?_;clear H;intro a H;exact dZ
 ·refine dO 6 9 7 10 rfl rfl fun _ a w G1 hG HT H fin=>?_;refine s_call JI H wn rfl (LU _ _ H.ro (min l.length 128) (Lg l) _ (by omega) ((hcb.mono hG).le (Nat.min_le_left _ _))) rfl ?_;clear H;rintro v11 uG a w rfl pX H;exact Gw
 clear H;intro a w G jy H hv;have H:=H.aN (hv 3 6 rfl rfl) rfl;have H:=H.aN (hv 8 11 rfl rfl) rfl;clear hv;refine iV rQ iQ [_,_] [_,_] H wn rfl rfl rfl rfl rfl (by intro i q h;match i,h with|0,h=>exact h|1,h=>exact h|n+2,h=>simp at h) rfl rfl ?_;clear H;intro b12 a w Ka H;obtain ⟨BF,yQ,Hz,H⟩:=H.fO;refine s_call sU H wn rfl (sW _ _ H.ro _ _ (zZ Hz)) rfl ?_;clear H;rintro v13 _ a w ⟨rfl,rfl⟩ - H;refine kH H (Ra rfl ?_);clear H;intro a H;refine aB ⟨rfl,?_⟩;refine K2 _ _ ?_;clear K2;refine lr H results122 rfl ?_;exact xK
structure BP where
 styles:List bY
 lists:List fD
 comments:List gI
 vars:List jl
structure Ai (G:GH) (s:BP) (a b c d:ah):Prop where
 st:ak G (.sl 6 (s.styles.map bY.dat)) a
 li:ak G (.sl 2 (s.lists.map fD.dat)) b
 cm:ak G (.sl 6 (s.comments.map gI.dat)) c
 va:ak G (.sl 2 (s.vars.map jl.dat)) d
structure TL (s:BP):Prop where
 sn:∀ x∈s.styles,x.name.size<=4611686018427387904
 ln:s.lists.length<=4294967296
 lt:∀ x∈s.lists,∀ y∈x.levels,y.zk.size < 4611686018427387904
 cn:s.comments.length<=4294967296
 ct:∀ x∈s.comments,x.author.size < 4611686018427387904∧x.text.size < 4611686018427387904
 vn:s.vars.length<=4294967296
 vt:∀ x∈s.vars,x.name.size < 4611686018427387904∧x.value.size < 4611686018427387904
 pl:∀ x∈s.styles,x.props.length<=4294967296
 ll:∀ x∈s.lists,x.levels.length<=4294967296
def Mg (s:BP):Int:=dS [Ao s.styles,Mf s.lists,PG s.comments,PI s.vars]
theorem ajJ (G:GH) (w0:World) (hG:Hold G w0) (s:BP) (a b c d:ah) (hR:Ai G s a b c d) (hz:TL s) :
  Calls prog 67 #[.agg #[a,b,c,d]] w0 (bE w0 G fun u G'=>u=vi (Mg s)):=by
 obtain ⟨sA,sn,sc,rfl⟩:=hR.st.form;obtain ⟨lA,ln,lc,rfl⟩:=hR.li.form;obtain ⟨cA,cn,cc,rfl⟩:=hR.cm.form;obtain ⟨vA,vn,vc,rfl⟩:=hR.va.form;refine eN [(0,_)] func67 rfl ntmps67 rfl rfl hG ?_;intro a H;refine dz (fun _ K1=>?_);refine eB (cs:=[_,_,_,_]) H wn rfl rfl rfl ?_;clear H;intro b1 a w hb1 H;refine kH H (aj K1 rfl (SQ fun _ K2=>?_));clear H K1;intro a H;have H:=H.sub (T':=[(1,_)]) ⟨rfl,ay⟩;obtain ⟨Ga,hma,hb1',H⟩:=H.fO
 have hc0:aI Ga b1 0=some (.slice sA sn sc):=by unfold aI;rw [hb1'];rfl
 have hc1:aI Ga b1 1=some (.slice lA ln lc):=by unfold aI;rw [hb1'];rfl
 have hc2:aI Ga b1 2=some (.slice cA cn cc):=by unfold aI;rw [hb1'];rfl
 have hc3:aI Ga b1 3=some (.slice vA vn vc):=by unfold aI;rw [hb1'];rfl
 refine dI hmx [[],[0],[0,1],[],[3],ra 0 5,[],[6],ra 0 8,[],[9],ra 0 11,ra 0 12,ra 0 13,ra 0 14] [12,13,14] (by kernel_rfl) [_,_,vi (Ao s.styles),_,_,vi (Mf s.lists),_,_,vi (PG s.comments),_,_,vi (PI s.vars)] H (aC (Z0 rfl (Rf Dx rfl)) (X1 0 3 rfl fun hG=>Rg qM rfl (aF hG hc0)) ?_ (Z0 rfl (Rf Dy rfl)) (aC (X1 3 6 rfl fun hG=>Rg zl rfl (aF hG hc1)) ?_ (Z0 rfl (Rf MH rfl)) (X1 6 9 rfl fun hG=>Rg CZ rfl (aF hG hc2)) (aC ?_ (Z0 rfl (Rf MI rfl)) (X1 9 12 rfl fun hG=>Rg xw rfl (aF hG hc3)) ?_ (bP (bU rfl) (bP (bU rfl) (bP (bU rfl) dH)))))) ?_
 ·refine eY 1 4 rfl rfl fun _ a w G1 hG HT H fin=>?_;refine s_call ale H wn rfl (ajM _ _ H.ro s.styles _ ((hR.st.mono hma).mono hG) hz.sn) rfl ?_;clear H;rintro v5 G5 a w rfl oz H;exact fin H oz (rfl)
 ·refine eY 4 7 rfl rfl fun _ a w G1 hG HT H fin=>?_;refine s_call alf H wn rfl (ajH _ _ H.ro s.lists _ ((hR.li.mono hma).mono hG) hz.ln hz.lt) rfl ?_;clear H;rintro v8 G8 a w rfl qy H;exact fin H qy (rfl)
 ·refine eY 7 10 rfl rfl fun _ a w G1 hG HT H fin=>?_;refine s_call alg H wn rfl (ajF _ _ H.ro s.comments _ ((hR.cm.mono hma).mono hG) hz.cn hz.ct) rfl ?_;clear H;rintro v11 uG a w rfl pX H;exact Gw
 ·refine eY 10 13 rfl rfl fun _ a w G1 hG HT H fin=>?_;refine s_call alh H wn rfl (ajK _ _ H.ro s.vars _ ((hR.va.mono hma).mono hG) hz.vn hz.vt) rfl ?_;clear H;rintro v14 Dc a w rfl EX H;exact fin H EX (rfl)
 clear H;intro a w G jy H hv;have H:=H.aN (hv 2 5 rfl rfl) rfl;have H:=H.aN (hv 5 8 rfl rfl) rfl;have H:=H.aN (hv 8 11 rfl rfl) rfl;have H:=H.aN (hv 11 14 rfl rfl) rfl;clear hv;refine iV rQ iQ [_,_,_,_] [_,_,_,_] H wn rfl rfl rfl rfl rfl (by intro i q h;match i,h with|0,h=>exact h|1,h=>exact h|2,h=>exact h|3,h=>exact h|n+4,h=>simp at h) rfl rfl ?_;clear H;intro b15 a w apO H;obtain ⟨Df,A9,apP,H⟩:=H.fO;refine s_call sU H wn rfl (sW _ _ H.ro _ _ (Ip [Ao s.styles,Mf s.lists,PG s.comments,PI s.vars] apP (show 4<=maxLen by decide))) rfl ?_;clear H;rintro v16 _ a w ⟨rfl,rfl⟩ - H;refine kH H (Ra rfl ?_);clear H;intro a H;refine aB ⟨rfl,?_⟩;refine K2 _ _ ?_;clear K2;refine lr H results67 rfl ?_;exact xK
section
def ji:Nat->List (Int × ah)->List MapEntry
 | _,[]=>[]
 | i,(k,v) :: r=>⟨.int .i64 k,v,i⟩ :: ji (i+1) r
theorem afp (x:Int × ah):∀ (i:Nat) (l:List (Int × ah)),ji i (l++[x])=ji i l++[⟨.int .i64 x.1,x.2,i+l.length⟩]
 | _,[]=>rfl
 | i,k :: r=>by
  rw [pG,ji,afp x (i+1) r,ji,pG,lg,show i+1+r.length=i+(r.length+1) by omega]
def vY (x:Int):List (Int × ah)->Option ah
 | []=>none
 | (k,v) :: r=>if k=x then some v else vY x r
theorem Nz {x:Int}:∀ {l:List (Int × ah)},x∉l.map (·.1)->vY x l=none
 | [],_=>rfl
 | (k,v) :: r,h=>by
  rw [vY,av (fun e=>h (by simp [e])),Nz (fun hm=>h (gV _ hm))]
theorem Vn (x:Int):∀ (i j:Nat) (l:List (Int × ah)),∃ an,Instr.findNow (.int .i64) (.int .i64 x) (ji i l) j=some an∧an.map (·.2)=vY x l
 | _,_,[]=>⟨none,rfl,rfl⟩
 | i,j,(k,v) :: r=>by
  obtain ⟨an,h1,h2⟩:=Vn x (i+1) (j+1) r
  by_cases e:k=x
  ·subst e
   exact ⟨some (j,v),by simp only [ji,Instr.findNow,Instr.sameNow,aD,beq_self_eq_true],by rw [vY,aD rfl];rfl⟩
  ·have hb:(x == k)=false:=by simp;exact fun h=>e h.symm
   exact ⟨an,by simpa only [ji,Instr.findNow,Instr.sameNow,aD,hb] using h1,by rw [vY,av e];exact h2⟩
abbrev fK (l:List (Int × ah)):Obj:=.map (ji 0 l).toArray l.length
section
variable {N:Nat} {D:List Deferred} {w0:World} {F:Nat->Prop} {G0 G:GH} {L:OL} {T:List (Nat × ah)}
variable {r:Option Nat} {P:Program} {ops:Array Oper} {Q:Exit->Act->World->Prop} {rest:List Oper} {a:Act} {w:World}
variable {d:Nat} {ty:TypeId} {pos:String} {aO:Array Edge} {g:Option (Nat × Bool)}
theorem Br {t kt et:TypeId} {x y:Operand} {b:Nat} {l:List (Int × ah)} {ky:Int} {zv:ah} (hm:P.underlying t=some (.map kt et)) (hk:P.underlying kt=some (.int .i64)) (hz:(P.info? et).map (fun i=>i.zero)=some (some zv)) (H:St N D w0 F G0 G L T a w)
  (hw:Region.wanted ⟨some d,.lookup t x y false,ty,pos,aO,g⟩ (yielded ops a.tmps)=true) (hx:ev T x=some (.map (some b))) (hy:ev T y=some (.int .i64 ky)) (hb:w.heap[b]?=some (fK l)) (hd:Nat.blt d N=true)
  (k:∀ a',St N D w0 F G0 G L ((d,(vY ky l).getD zv) :: T) a' w->WL r P ops Q rest a' w):WL r P ops Q (⟨some d,.lookup t x y false,ty,pos,aO,g⟩ :: rest) a w:=by
 obtain ⟨an,hf,han⟩:=Vn ky 0 0 l
 obtain ⟨inf,hi1,hi2⟩:=qU.1 hz
 refine gq (v:=(vY ky l).getD zv) (w':=w) hw rfl ?_ (k _ (H.put hd _ H.hp))
 have hkey:MapKept.IsKey (.int .i64) (.int .i64 ky):=by trivial
 have hf2:Instr.findNow (.int .i64) (.int .i64 ky) (ji 0 l).toArray.toList 0=some an:=by simpa using hf
 replace hb:w.heap[b]?=some (.map (ji 0 l).toArray l.length):=hb
 generalize (ji 0 l).toArray=es at hb hf2
 have h1:=MapKept.run_checkKey (P:=P) (w:=w) hk hkey es.isEmpty 9999
 have h2:=MapKept.run_findKey (P:=P) (w:=w) hk hf2
 rw [<- han]
 cases an with
 | none=>simp [execOp,Instr.lookup,H.ev hx,H.ev hy,dY,nZ hm,MapKept.run_getObj_map hb,h1,h2,Result.andThen,zeroValue,FH hi1,hi2]
 | some q=>simp [execOp,Instr.lookup,H.ev hx,H.ev hy,dY,nZ hm,MapKept.run_getObj_map hb,h1,h2,Result.andThen]
theorem NY {t kt et:TypeId} {x y z:Operand} {b i:Nat} {l:List (Int × ah)} {ky:Int} {v:ah} (hm:P.underlying t=some (.map kt et)) (hk:P.underlying kt=some (.int .i64)) (H:St N D w0 F G0 G L T a w)
  (hw:Region.wanted ⟨none,.mapUpdate t x y z,ty,pos,aO,g⟩ (yielded ops a.tmps)=true) (hx:ev T x=some (.map (some b))) (hy:ev T y=some (.int .i64 ky)) (hzv:ev T z=some v) (hi:L[i]?=some (b,fK l)) (hn:vY ky l=none)
  (k:∀ w',St N D w0 F G0 G (L.set i (b,fK (l++[(ky,v)]))) T a w'->WL r P ops Q rest a w'):WL r P ops Q (⟨none,.mapUpdate t x y z,ty,pos,aO,g⟩ :: rest) a w:=by
 obtain ⟨an,hf,han⟩:=Vn ky 0 0 l
 have hnone:an=none:=by
  rw [hn] at han
  cases an with
  | none=>rfl
  | some q=>cases han
 subst hnone
 refine agN (i:=i) hm hk H hw hx hy hzv hi (by trivial) (by simpa using hf) ?_
 intro w' H'
 have e:(ji 0 l).toArray.push ⟨.int .i64 ky,v,l.length⟩=(ji 0 (l++[(ky,v)])).toArray:=by
  rw [afp,List.push_toArray,iA]
 refine k w' ?_
 rw [e] at H'
 rw [fK,jM]
 exact H'
end
end
theorem yC:prog.underlying 131=some (.map 3 4):=by kernel_rfl
theorem og:Ty prog 102 3 32 [.int .i64 0,.string ⟨#[]⟩,.int .i64 0] true:=⟨by kernel_rfl,by kernel_rfl⟩
theorem awW:qR prog 133 [(0,1),(1,1),(2,1),(3,1),(4,1),(5,1)] [.map none,.map none,.map none,.map none,.map none,.int .i64 0]:=⟨by kernel_rfl,by kernel_rfl⟩
theorem GX:dX prog 38 3 7:=⟨by kernel_rfl⟩
theorem Mx:dX prog 133 0 0:=⟨by kernel_rfl⟩
theorem Oa:Ty prog 130 1 8 [.map none] false:=⟨by kernel_rfl,by kernel_rfl⟩
theorem acJ:dX prog 133 1 1:=⟨by kernel_rfl⟩
theorem vk:Ty prog 131 1 8 [.map none] false:=⟨by kernel_rfl,by kernel_rfl⟩
theorem Ck:dX prog 38 2 6:=⟨by kernel_rfl⟩
theorem xu:Ty prog 30 1 24 [.slice none 0 0] false:=⟨by kernel_rfl,by kernel_rfl⟩
theorem oh:prog.underlying 30=some (.slice 102):=by kernel_rfl
theorem MB:dX prog 133 2 2:=⟨by kernel_rfl⟩
theorem Vj:dX prog 102 0 0:=⟨by kernel_rfl⟩
structure bV where
 id:Int
 author:ByteArray
 time:Int
def bV.dat (x:bV):List Dat:=[li x.id,.lf (.string x.author),li x.time]
abbrev bV.cells (x:bV):List ah:=[vi x.id,.string x.author,vi x.time]
theorem NS {G:GH} {x:bV} {cs:List ah} (h:bD G x.dat cs):cs=x.cells:=by
 simp only [bV.dat,bD,ak] at h
 obtain ⟨_,_,rfl,⟨rfl,_⟩,_,_,rfl,⟨rfl,_⟩,_,_,rfl,⟨rfl,_⟩,rfl⟩:=h
 rfl
theorem Yt {G:GH} {l:List bV} {A:Option Addr} {n c k:Nat} (hv:ak G (.sl 3 (l.map bV.dat)) (.slice A n c)) (hk:k < l.length):∃ b o,A=some ⟨b,o,none⟩∧(∀ j u,l[k].cells[j]?=some u->aI G b (o+k*3+j)=some u):=by
 obtain ⟨A',c',he,_,_,hg⟩:=hv.slice
 injection he with e1 e2 e3
 subst e1;obtain ⟨b,o,cs,h1,h2,h3,h4⟩:=hg k l[k].dat (by simp [hk]);have:=NS h4;subst this;exact Gm
abbrev gW (b ms ml mr mb mu:Nat) (n:Int):Nat × Obj:=(b,.cells #[.map (some ms),.map (some ml),.map (some mr),.map (some mb),.map (some mu),vi n] 133 (0,0))
def Bl (l:List bY):List (Int × ah):=l.map fun s=>(s.id,vi s.kind)
def gG (l:List Int):List (Int × ah):=l.map fun k=>(k,.bool true)
structure xA (us:List Int) (G:GH) (st:List bY) (li:List fD) (rv:List bV) (ms ml mr mu:Nat):Prop where
 sty:G ms=some (fK (Bl st))
 nH:G ml=some (fK (gG (li.map fD.id)))
 rev:G mr=some (fK (gG (rv.map bV.id)))
 use:G mu=some (fK (gG us))
theorem xA.mono {us:List Int} {G G':GH} {st:List bY} {li:List fD} {rv:List bV} {ms ml mr mu:Nat} (h:xA us G st li rv ms ml mr mu) (hm:∀ b o,G b=some o->G' b=some o):xA us G' st li rv ms ml mr mu:=⟨hm _ _ h.sty,hm _ _ h.nH,hm _ _ h.rev,hm _ _ h.use⟩
structure Te (G:GH) (st:List bY) (li:List fD) (rv:List bV) (ms ml mr:Nat):Prop where
 sty:G ms=some (fK (Bl st))
 nH:G ml=some (fK (gG (li.map fD.id)))
 rev:G mr=some (fK (gG (rv.map bV.id)))
theorem Te.with {us:List Int} {G G':GH} {st:List bY} {li:List fD} {rv:List bV} {ms ml mr mu:Nat} (h:Te G st li rv ms ml mr) (hm:∀ b o,G b=some o->G' b=some o) (hu:G' mu=some (fK (gG us))):xA us G' st li rv ms ml mr mu:=⟨hm _ _ h.sty,hm _ _ h.nH,hm _ _ h.rev,hu⟩
def Db (l:List Int):Prop:=∀ (k:Nat) (h:k < l.length),l[k]∉l.take k
theorem asX {l:List bY} {k:Nat} (h:k < l.length):Bl (l.take (k+1))=Bl (l.take k)++[(l[k].id,vi l[k].kind)]:=by rw [Bl,kg h,lW];rfl
theorem afm {l:List Int} {k:Nat} (h:k < l.length):gG (l.take (k+1))=gG (l.take k)++[(l[k],.bool true)]:=by rw [gG,kg h,lW];rfl
theorem asW {l:List bY} {k:Nat} (f:Db (l.map bY.id)) (h:k < l.length):vY l[k].id (Bl (l.take k))=none:=by
 refine Nz ?_;have:=f k (by simpa using h)
 simpa [Bl,List.map_take,List.map_map,Function.comp_def] using this
theorem afl {l:List Int} {k:Nat} (f:Db l) (h:k < l.length):vY l[k] (gG (l.take k))=none:=by
 refine Nz ?_;have:=f k h
 simpa [gG,List.map_map,Function.comp_def] using this
theorem TY {p:Prop} (h:p:=by
 exact ⟨lu _,fun _ _ h=>h⟩):p:=h
theorem atu (G:GH) (w0:World) (hO:gY G [] w0) (D:jh) (st:List bY) (li:List fD) (rv:List bV) (hst:ak G (.sl 6 (st.map bY.dat)) (aW D.s1)) (MZ:ak G (.sl 2 (li.map fD.dat)) (aW D.s2)) (qz:ak G (.sl 3 (rv.map bV.dat)) (aW D.r))
  (f1:Db (st.map bY.id)) (f2:Db (li.map fD.id)) (f3:Db (rv.map bV.id)) (z1:st.length<=4294967296) (z2:li.length<=4294967296) (z3:rv.length<=4294967296) :
  Calls prog 69 #[D.val] w0 (gF w0 G [] fun u G' L'=>∃ b ms ml mr mb mu,u=(aK b 0)∧L'=[gW b ms ml mr mb mu 0,(mb,fK []),(mu,fK [])]∧Te G' st li rv ms ml mr):=by
 obtain ⟨df,dp,dd,dy,⟨rA,rn,rc⟩,⟨sA,sn,sc⟩,⟨lA,ln,lc⟩,d3,d4,ins,mv⟩:=D;dsimp only at hst MZ qz
 obtain rfl:sn=st.length:=by have:=hst.len;simpa using this
 obtain rfl:ln=li.length:=by have:=MZ.len;simpa using this
 obtain rfl:rn=rv.length:=by have:=qz.len;simpa using this
 have hml:maxLen=9223372036854775807:=rfl;refine jD (N:=64) (T:=[(0,_)]) func69 rfl ntmps69 rfl rfl hO ?_;intro a H;refine dz (fun _ K1=>?_);refine eB (cs:=[_,_,_,_,_,_,_,_,_,_,_]) H wn rfl rfl rfl ?_;clear H;intro b1 a w hb1 H;refine kH H (aj K1 rfl (SQ fun _ K2=>?_));clear H K1;intro a H;obtain ⟨Ga,hma,hb1',H⟩:=H.fO
 have hc7:aI Ga b1 7=some (.slice sA st.length sc):=by unfold aI;rw [hb1'];rfl
 have hc8:aI Ga b1 8=some (.slice lA li.length lc):=by unfold aI;rw [hb1'];rfl
 have hc6:aI Ga b1 6=some (.slice rA rv.length rc):=by unfold aI;rw [hb1'];rfl
 replace hst:=hst.mono hma;replace MZ:=MZ.mono hma;replace qz:=qz.mono hma;refine pV ?_;refine IQ H wn rfl ?_;clear H;intro b10 a w apL H;refine IQ H wn rfl ?_;clear H;intro b11 a w J9 H;refine IQ H wn rfl ?_;clear H;intro b12 a w Ka H;refine IQ H wn rfl ?_;clear H;intro b13 a w Qr H;refine IQ H wn rfl ?_;clear H;intro b14 a w ady H;refine jF awW [_,_,_,_,_,_] H wn rfl rfl rfl rfl ?_;clear H;intro a H;refine eB (cs:=[_,_,_,_,_,_]) H wn rfl rfl rfl ?_;clear H;intro b16 a w adz H;refine kH H (bG K2 rfl (SQ fun _ K3=>SR fun _ K4=>Rf GX rfl (Rf Dx rfl (Rg qM rfl (by assumption) ?_))));clear H K2;intro a H;refine kH H (Rl lQ rfl (Rm rfl (Kz K4 (SB ?_))));clear H K4;intro a H;skip;refine fF (ι:=Nat × GH) (Tc:=[(1,_),(3,_),(19,_),(20,_)]) (Lc:=[(_,_),(_,_),(_,_),(_,_),(_,_)]) (fun gh=>[(21,vi gh.1)]) (fun gh=>[(b10,fK (Bl (st.take gh.1)))]) (fun gh=>gh.2) (fun gh=>gh.1<=st.length∧(∀ b o,Ga b=some o->gh.2 b=some o)) (fun gh=>st.length - gh.1) ((0,Ga)) (by exact H.sub ⟨rfl,rfl,rfl,rfl,rfl,ay⟩) ?_ ?_
 ·exact TY
 clear H;rintro ⟨k,g1⟩ a w hI H;dsimp only at hI H;obtain ⟨hk,Kt⟩:=hI;dsimp only [lca,bM] at H;refine kP H (SR fun _ K5=>Rc rfl (Kz K5 (SQ fun _ K6=>Cd rfl ?_ ?_))) <;> clear H K5
 ·intro h22 a H
  try have oW:=dT h22
  have hk2:k < st.length:=by omega
  obtain ⟨xb,xo,pA,pc,rfl,hrow,-,-⟩:=El (hst.mono Kt) hk2;have hnew:=asW f1 hk2;refine kP H (Kc K6 (SQ fun _ K7=>SB (SR fun _ K8=>Ri lQ jg rfl rfl ?_)));clear H K6;intro a H;refine aV jg (cs:=_) H wn rfl rfl (fun j v hj=>H.hp.aI (hrow j v hj)) rfl ?_;clear H;intro a H;refine dP jg H wn rfl ?_;clear H;intro b5 a w hb5 H;refine bK jg 0 (vs:=[_,_,_,_,_,_]) H wn rfl ?_;clear H;intro w H;refine K8 _ _ ?_;clear K8;refine dI hmx [[],[0],[0,1],[0,1,2],[],[4],[],[6],ra 0 8] [8] (by kernel_rfl) [_,_,_,.map (some b10),_,vi st[k].id,_,vi st[k].kind] H (aC (Z0 rfl (Rm rfl)) (Z1 0 25 rfl (Rk rfl)) (Z1 1 26 rfl (Rf Mx rfl)) (Z1 2 27 rfl (Ro Oa 1 rfl)) (aC (Z0 rfl (Rf vN rfl)) (Z1 4 29 rfl (Ro aG 0 rfl)) (Z0 rfl (Rf xQ rfl)) (Z1 6 31 rfl (Ro aG 0 rfl)) (bP (bU rfl) dH))) ?_
  clear H;intro a w G oz H hv;have H:=H.aN (hv 3 28 rfl rfl) rfl;have H:=H.aN (hv 5 30 rfl rfl) rfl;have H:=H.aN (hv 7 32 rfl rfl) rfl;clear hv;refine NY (i:=6) IX mJ H wn rfl rfl rfl rfl hnew ?_;clear H;intro w H;dsimp only [List.set,List.append,lca,bM] at H;rw [<- asX hk2] at H;refine aB ⟨rfl,?_⟩;refine K7 _ _ ?_;clear K7;refine kP H (SC (Rd rfl (Rm rfl ?_)));clear H;intro a H;refine aB ?_;refine dJ ((k+1,G)) (by exact (H.fG (Pl:=[_,_,_,_,_,_,_]) (eH:=[_,_,_,_,_,_]) [1,2,3,4,5,6] (by decide) rfl).sub ⟨rfl,rfl,rfl,rfl,rfl,ay⟩) ?_
  (try dsimp only);exact ⟨by omega,fun b o h=>oz b o (Kt b o h)⟩
 intro h22 a H
 try have oW:=dF h22
 obtain rfl:k=st.length:=by omega
 rw [zF] at H;have ayN:=aF Kt hc8;refine eu ?_;refine K3 _ _ ?_;clear K3;refine kP H (SQ fun _ K9=>SR fun _ aS=>Rf GX rfl (Rf Dy rfl (Rg zl rfl (by assumption) ?_)));clear H;intro a H;refine kH H (Rl tN rfl (Rm rfl (Kz aS (SB ?_))));clear H aS;intro a H;skip;refine fF (ι:=Nat × GH) (Tc:=[(1,_),(3,_),(36,_),(37,_)]) (Lc:=[(_,_),(_,_),(_,_),(_,_),(_,_)]) (fun gh=>[(38,vi gh.1)]) (fun gh=>[(b11,fK (gG ((li.map fD.id).take gh.1)))]) (fun gh=>gh.2) (fun gh=>gh.1<=li.length∧(∀ b o,g1 b=some o->gh.2 b=some o)) (fun gh=>li.length - gh.1) ((0,g1)) (by exact (H.fG (Pl:=[_,_,_,_,_,_]) (eH:=[_,_,_,_,_,_]) [0,1,2,3,5,4] (by decide) rfl).sub ⟨rfl,rfl,rfl,rfl,rfl,ay⟩) ?_ ?_
 ·exact TY
 clear H;rintro ⟨k,g2⟩ a w hI H;dsimp only at hI H;obtain ⟨hk,QF⟩:=hI;dsimp only [lca,bM] at H;refine kP H (SR fun _ bH=>Rc rfl (Kz bH (SQ fun _ bT=>Cd rfl ?_ ?_))) <;> clear H bH
 ·intro jI a H
  try have p39:=dT jI
  have hk2:k < li.length:=by omega
  obtain ⟨xb,xo,B,d,rfl,hrow,-⟩:=XF ((MZ.mono Kt).mono QF) hk2
  have hk3:k < (li.map fD.id).length:=by simpa using hk2
  have hnew:=afl f2 hk3
  have qI:(li.map fD.id)[k]=li[k].id:=by simp
  rw [qI] at hnew;refine kP H (Kc bT (SQ fun _ cK=>SB (SR fun _ dB=>Ri tN rP rfl rfl ?_)));clear H bT;intro a H;refine aV rP (cs:=_) H wn rfl rfl (fun j v hj=>H.hp.aI (hrow j v hj)) rfl ?_;clear H;intro a H;refine dP rP H wn rfl ?_;clear H;intro b7 a w zN H;refine bK rP 0 (vs:=[_,_]) H wn rfl ?_;clear H;intro w H;refine dB _ _ ?_;clear dB;refine dI hmx [[],[0],[0,1],[0,1,2],[],[4],ra 0 6] [6] (by kernel_rfl) [_,_,_,.map (some b11),_,vi li[k].id] H (aC (Z0 rfl (Rm rfl)) (Z1 0 42 rfl (Rk rfl)) (Z1 1 43 rfl (Rf acJ rfl)) (Z1 2 44 rfl (Ro vk 1 rfl)) (bP (Z0 rfl (Rf Qf rfl)) (bP (Z1 4 46 rfl (Ro aG 0 rfl)) (bP (bU rfl) dH)))) ?_
  clear H;intro a w G tq H hv;have H:=H.aN (hv 3 45 rfl rfl) rfl;have H:=H.aN (hv 5 47 rfl rfl) rfl;clear hv;refine NY (i:=6) yC mJ H wn rfl rfl rfl rfl hnew ?_;clear H;intro w H;dsimp only [List.set,List.append,lca,bM] at H;rw [<- qI,<- afm hk3] at H;refine aB ⟨rfl,?_⟩;refine cK _ _ ?_;clear cK;refine kP H (SC (Rd rfl (Rm rfl ?_)));clear H;intro a H;refine aB ?_;refine dJ ((k+1,G)) (by exact (H.fG (Pl:=[_,_,_,_,_,_,_]) (eH:=[_,_,_,_,_,_]) [1,2,3,4,5,6] (by decide) rfl).sub ⟨rfl,rfl,rfl,rfl,rfl,ay⟩) ?_
  (try dsimp only);exact ⟨by omega,fun b o h=>tq b o (QF b o h)⟩
 intro jI a H
 try have p39:=dF jI
 obtain rfl:k=li.length:=by omega
 rw [jm (by simp)] at H;have ayM:=aF QF (aF Kt hc6);refine eu ?_;refine K9 _ _ ?_;clear K9;refine kP H (SQ fun _ eU=>SR fun _ eX=>Rf Ck rfl (Rg xu rfl (by assumption) ?_));clear H;intro a H;refine kH H (Rl oh rfl (Rm rfl (Kz eX (SB ?_))));clear H eX;intro a H;skip;refine fF (ι:=Nat × GH) (Tc:=[(3,_),(50,_),(51,_)]) (Lc:=[(_,_),(_,_),(_,_),(_,_),(_,_)]) (fun gh=>[(52,vi gh.1)]) (fun gh=>[(b12,fK (gG ((rv.map bV.id).take gh.1)))]) (fun gh=>gh.2) (fun gh=>gh.1<=rv.length∧(∀ b o,g2 b=some o->gh.2 b=some o)) (fun gh=>rv.length - gh.1) ((0,g2)) (by exact (H.fG (Pl:=[_,_,_,_,_,_]) (eH:=[_,_,_,_,_,_]) [0,1,2,4,5,3] (by decide) rfl).sub ⟨rfl,rfl,rfl,rfl,ay⟩) ?_ ?_
 ·exact TY
 clear H;rintro ⟨k,g3⟩ a w hI H;dsimp only at hI H;obtain ⟨hk,aec⟩:=hI;dsimp only [lca,bM] at H;refine kP H (SR fun _ eG=>Rc rfl (Kz eG (SQ fun _ fC=>Cd rfl ?_ ?_))) <;> clear H eG
 ·intro rD a H
  try have p53:=dT rD
  have hk2:k < rv.length:=by omega
  obtain ⟨xb,xo,rfl,hrow⟩:=Yt (((qz.mono Kt).mono QF).mono aec) hk2
  have hk3:k < (rv.map bV.id).length:=by simpa using hk2
  have hnew:=afl f3 hk3
  have qI:(rv.map bV.id)[k]=rv[k].id:=by simp
  rw [qI] at hnew;refine kP H (Kc fC (SQ fun _ gX=>SB (SR fun _ fM=>Ri oh og rfl rfl ?_)));clear H fC;intro a H;refine aV og (cs:=_) H wn rfl rfl (fun j v hj=>H.hp.aI (hrow j v hj)) rfl ?_;clear H;intro a H;refine dP og H wn rfl ?_;clear H;intro b9 a w wR H;refine bK og 0 (vs:=[_,_,_]) H wn rfl ?_;clear H;intro w H;refine fM _ _ ?_;clear fM;refine dI hmx [[],[0],[0,1],[0,1,2],[],[4],ra 0 6] [6] (by kernel_rfl) [_,_,_,.map (some b12),_,vi rv[k].id] H (aC (Z0 rfl (Rm rfl)) (Z1 0 56 rfl (Rk rfl)) (Z1 1 57 rfl (Rf MB rfl)) (Z1 2 58 rfl (Ro vk 1 rfl)) (bP (Z0 rfl (Rf Vj rfl)) (bP (Z1 4 60 rfl (Ro aG 0 rfl)) (bP (bU rfl) dH)))) ?_
  clear H;intro a w G DL H hv;have H:=H.aN (hv 3 59 rfl rfl) rfl;have H:=H.aN (hv 5 61 rfl rfl) rfl;clear hv;refine NY (i:=6) yC mJ H wn rfl rfl rfl rfl hnew ?_;clear H;intro w H;dsimp only [List.set,List.append,lca,bM] at H;rw [<- qI,<- afm hk3] at H;refine aB ⟨rfl,?_⟩;refine gX _ _ ?_;clear gX;refine kP H (SC (Rd rfl (Rm rfl ?_)));clear H;intro a H;refine aB ?_;refine dJ ((k+1,G)) (by exact (H.fG (Pl:=[_,_,_,_,_,_,_]) (eH:=[_,_,_,_,_,_]) [1,2,3,4,5,6] (by decide) rfl).sub ⟨rfl,rfl,rfl,rfl,ay⟩) ?_
  (try dsimp only);exact ⟨by omega,fun b o h=>DL b o (aec b o h)⟩
 intro rD a H
 try have p53:=dF rD
 obtain rfl:k=rv.length:=by omega
 rw [jm (by simp)] at H;refine eu ?_;refine eU _ _ ?_;clear eU;refine kP H (SR fun _ iI=>Rm rfl (aj iI rfl ?_));clear H iI;intro a H;refine dw ?_;have H:=H.fG (Pl:=[_,_,_,_,_,_]) (eH:=[_,_,_,_,_,_]) [3,4,5,0,2,1] (by decide) rfl;obtain ⟨Gs,hms,hs,H⟩:=H.fO;obtain ⟨Gl,M9,hl,H⟩:=H.fO;obtain ⟨Gr,hmr,hr,H⟩:=H.fO;refine lv H results69 rfl ?_;exact H.hp.gT ⟨b16,b10,b11,b12,b13,b14,rfl,rfl,⟨hmr _ _ (M9 _ _ hs),hmr _ _ hl,hr⟩⟩
section
theorem aot:dX prog 133 4 4:=⟨by kernel_rfl⟩
theorem acK:dX prog 133 3 3:=⟨by kernel_rfl⟩
variable {us:List Int}
theorem Fx (x:Int):∀ l:List Int,(vY x (gG l)).getD (.bool false)=.bool (decide (x∈l))
 | []=>rfl
 | k :: r=>by
  have ih:=Fx x r;rw [gG,fH,vY]
  by_cases e:k=x
  ·subst e;simp
  rw [av e,show (r.map fun k=>(k,Value.bool true))=gG r from rfl,ih]
  simp [show x≠k from fun h=>e h.symm]
def Sq (st:List bY) (v:Int):Int:=((st.find? fun s=>decide (s.id=v)).map bY.kind).getD 0
theorem NA (x:Int):∀ l:List bY,(vY x (Bl l)).getD (vi 0)=vi (Sq l x)
 | []=>rfl
 | s :: r=>by
  have ih:=NA x r;rw [Bl,fH,vY]
  by_cases e:s.id=x
  ·subst e;simp [Sq]
  rw [av e,show (r.map fun s=>(s.id,vi s.kind))=Bl r from rfl,ih]
  simp [Sq,e]
def rJ (us bN:List Int) (x:Int):Int:=if ¬ (1<=x∧x<=1073741824)∨x∈us then 18 else if x∈bN then 7 else 0
def nW (us bN:List Int) (x:Int):List Int:=if rJ us bN x=0 then bN++[x] else bN
theorem asV (l:List Int) (x:Int):gG (l++[x])=gG l++[(x,.bool true)]:=by simp [gG]
theorem Pq {p:Prop} (h:p:=by
 first
  | exact H.hp.gT ⟨by rw [e],by rw [nW,aD e],rfl⟩
  | exact H.hp.gT ⟨by rw [e],by rw [nW,av (by rw [e];decide)],rfl⟩):p:=h
theorem Ut (G:GH) (L:OL) (w0:World) (st:List bY) (li:List fD) (rv:List bV) (b ms ml mr mb mu:Nat) (n:Int) (bN:List Int) (x:Int) (hck:xA us G st li rv ms ml mr mu) (hO:gY G (gW b ms ml mr mb mu n :: (mb,fK (gG bN)) :: L) w0) :
  Calls prog 198 #[(aK b 0),vi x] w0 (gF w0 G (gW b ms ml mr mb mu n :: (mb,fK (gG bN)) :: L) fun u G' L'=>u=vi (rJ us bN x)∧L'=gW b ms ml mr mb mu n :: (mb,fK (gG (nW us bN x))) :: L∧G=G'):=by
 refine jD (N:=29) (T:=[(0,_),(1,_)]) func198 rfl ntmps198 rfl rfl hO ?_;intro a H;refine kP H (SR fun _ K1=>aj K1 rfl (SQ fun _ K2=>SB (SR fun _ K3=>Rm rfl ?_)));clear H K1;intro a H;refine s_call yI H wn rfl (yV _ _ H.ro x 1 1073741824) rfl ?_;clear H;rintro v7 _ a w ⟨rfl,rfl⟩ - H;refine kH H (Rn rfl (Rm rfl (Sp 9 rfl ?_ ?_))) <;> clear H
 ·intro h9 a H
  try have p9:=dT h9
  refine kH H (aM h9 rfl (aM h9 rfl (Pt h9 rfl (aj K3 rfl (Ct rfl rfl (SQ fun _ K4=>?_))))));clear H K3;intro a H
  have e:rJ us bN x=18:=by rw [rJ,aD (by first|(simp_all;done)|(simp_all;omega))]
  refine kP H (SC (bG K4 rfl ?_));clear H K4;intro a H;refine lr H results198 rfl ?_
  exact Pq
 intro h9 a H
 try have p9:=dF h9
 refine kH H (YM h9 rfl ?_);clear H;intro a H;refine wo H (wg H rfl rfl h9) rfl rfl ?_;clear H;intro a H;refine kH H (YF aot h9 rfl (YO vk 0 h9 rfl (YM h9 rfl ?_)));clear H;intro a H;refine Br (zv:=.bool false) yC mJ (by kernel_rfl) H (wg H rfl rfl h9) rfl rfl (H.ro _ _ hck.use) rfl ?_;clear H;intro a H;rw [Fx] at H;refine kH H (Pf h9 rfl (aj K3 rfl (Cd rfl ?_ ?_))) <;> clear H K3
 ·intro h5 a H
  try have p5:=dT h5
  refine bR (fun _ K5=>?_)
  have e:rJ us bN x=18:=by rw [rJ,aD (by first|(simp_all;done)|(simp_all;omega))]
  refine kP H (SC (bG K5 rfl ?_));clear H K5;intro a H;refine lr H results198 rfl ?_
  exact Pq
 intro h5 a H
 try have p5:=dF h5
 have hin:¬ (¬ (1<=x∧x<=1073741824)∨x∈us):=by first|(simp_all;done)|(simp_all;omega)
 refine kP H (SR fun _ K6=>Rm rfl (Rk rfl (bO acK vk 0 rfl rfl (Rm rfl ?_))));clear H;intro a H;refine Br (zv:=.bool false) yC mJ (by kernel_rfl) H wn rfl rfl (H.hp.own _ (gV _ fE)) rfl ?_;clear H;intro a H;rw [Fx] at H;refine kH H (aj K6 rfl (Cd rfl ?_ ?_)) <;> clear H K6
 ·intro cu a H
  refine bR (fun _ K7=>?_)
  have e:rJ us bN x=7:=by rw [rJ,av hin,aD (pI cu)]
  refine kP H (SC (bG K7 rfl ?_));clear H K7;intro a H;refine lr H results198 rfl ?_
  exact Pq
 intro cu a H
 have hx:x∉bN:=of_decide_eq_false cu;have hnew:vY x (gG bN)=none:=Nz (by simpa [gG,List.map_map,Function.comp_def] using hx)
 have e:rJ us bN x=0:=by rw [rJ,av hin,av hx]
 refine kP H (Kc K2 (SR fun _ K8=>Rm rfl (Rk rfl (bO acK vk 0 rfl rfl (Rm rfl ?_)))));clear H K2;intro a H;refine NY (i:=1) yC mJ H wn rfl rfl rfl rfl hnew ?_;clear H;intro w H;dsimp only [List.set] at H;rw [<- asV] at H;refine K8 _ _ ?_;clear K8;refine kP H (SR fun _ K9=>aj K9 rfl ?_);clear H K9;intro a H;refine lr H results198 rfl ?_
 exact Pq
def yh (st:List bY) (nH:List Int) (key v:Int):Int :=
 if key=20∨key=1 then dG (decide (v≠0∧Sq st v≠(if key=1 then 2 else 1))) 25 else if key=33 then dG (decide (v≠0∧v∉nH)) 26 else 0
theorem Al {p:Prop} (h:p:=by
 exact H.rt ⟨cO vi (by unfold yh;(repeat' split) <;> first|rfl|(simp_all;done)|(exfalso;simp_all;done)|(congr 1;rw [tY];simp only [LQ,sQ,pF];exact ⟨fun h=>⟨p31,h⟩,fun h=>h.2⟩)),rfl⟩):p:=h
theorem Uu (G:GH) (w0:World) (hG:Hold G w0) (st:List bY) (li:List fD) (rv:List bV) (b ms ml mr mb mu:Nat) (n:Int) (key v:Int) (hck:xA us G st li rv ms ml mr mu) (hb:G b=some (gW b ms ml mr mb mu n).2) :
  Calls prog 130 #[(aK b 0),vi key,vi v] w0 (bE w0 G fun u G'=>u=vi (yh st (li.map fD.id) key v)∧G=G'):=by
 have hc0:aI G b 0=some (.map (some ms)):=by unfold aI;rw [hb];rfl
 have hc1:aI G b 1=some (.map (some ml)):=by unfold aI;rw [hb];rfl
 refine eN [(0,_),(1,_),(2,_)] func130 rfl ntmps130 rfl rfl hG ?_;intro a H;refine kP H (SR fun _ K1=>aj K1 rfl (SQ fun _ K2=>SR fun _ K3=>Rm rfl (Kz K3 (SB (SQ fun _ K4=>SR fun _ K5=>Rc rfl (aj K5 rfl (Cd rfl ?_ ?_))))))) <;> clear H K1 K3 K5
 ·intro h9 a H
  try have p9:=dT h9
  refine kP H (Kc K4 (Ct rfl h9 (SR fun _ K6=>aj K6 rfl (SQ fun _ K7=>SR fun _ K8=>Rm rfl (Rc rfl (Kz K8 (Cd rfl ?_ ?_))))))) <;> clear H K4 K6 K8
  ·intro gL a H
   try have sG:=dT gL
   refine kP H (SC (bG K7 rfl (SR fun _ K9=>Rm rfl (Rc rfl (Rm rfl (Sp 16 rfl ?_ ?_)))))) <;> clear H K7
   ·intro h16 a H
    try have p16:=dT h16
    refine kH H (YM h16 rfl ?_);clear H;intro a H;refine wo H (wg H rfl rfl h16) rfl rfl ?_;clear H;intro a H;refine kH H (YF Mx h16 rfl (YR Oa h16 rfl (by assumption) ?_));clear H;intro a H;refine kH H (YM h16 rfl ?_);clear H;intro a H;refine Br (zv:=vi 0) IX mJ (by kernel_rfl) H (wg H rfl rfl h16) rfl rfl (H.ro _ _ hck.sty) rfl ?_;clear H;intro a H;rw [NA] at H;refine kH H (YM h16 rfl (YC h16 rfl (Pt h16 rfl ?_)));clear H;intro a H;refine s_call kr H wn rfl (kF _ _ H.ro _ 25) rfl ?_;clear H;rintro v26 _ a w ⟨rfl,rfl⟩ - H;refine kH H (aj K9 rfl ?_);clear H K9;intro a H;refine lr H results130 rfl ?_
    exact Al
   intro h16 a H
   try have p16:=dF h16
   refine kH H (aM h16 rfl (aM h16 rfl (aJ h16 rfl (Pf h16 rfl ?_))));clear H;intro a H;refine s_call kr H wn rfl (kF _ _ H.ro _ 25) rfl ?_;clear H;rintro v26 _ a w ⟨rfl,rfl⟩ - H;refine kH H (aj K9 rfl ?_);clear H K9;intro a H;refine lr H results130 rfl ?_
   exact Al
  intro gL a H
  try have sG:=dF gL
  refine kP H (Kc K7 (SR fun _ aS=>Rm rfl (Rc rfl (Rm rfl (Sp 16 rfl ?_ ?_))))) <;> clear H K7
  ·intro h16 a H
   try have p16:=dT h16
   refine kH H (YM h16 rfl ?_);clear H;intro a H;refine wo H (wg H rfl rfl h16) rfl rfl ?_;clear H;intro a H;refine kH H (YF Mx h16 rfl (YR Oa h16 rfl (by assumption) ?_));clear H;intro a H;refine kH H (YM h16 rfl ?_);clear H;intro a H;refine Br (zv:=vi 0) IX mJ (by kernel_rfl) H (wg H rfl rfl h16) rfl rfl (H.ro _ _ hck.sty) rfl ?_;clear H;intro a H;rw [NA] at H;refine kH H (YM h16 rfl (YC h16 rfl (Pt h16 rfl ?_)));clear H;intro a H;refine s_call kr H wn rfl (kF _ _ H.ro _ 25) rfl ?_;clear H;rintro v26 _ a w ⟨rfl,rfl⟩ - H;refine kH H (aj aS rfl ?_);clear H aS;intro a H;refine lr H results130 rfl ?_
   exact Al
  intro h16 a H
  try have p16:=dF h16
  refine kH H (aM h16 rfl (aM h16 rfl (aJ h16 rfl (Pf h16 rfl ?_))));clear H;intro a H;refine s_call kr H wn rfl (kF _ _ H.ro _ 25) rfl ?_;clear H;rintro v26 _ a w ⟨rfl,rfl⟩ - H;refine kH H (aj aS rfl ?_);clear H aS;intro a H;refine lr H results130 rfl ?_
  exact Al
 intro h9 a H
 try have p9:=dF h9
 refine kP H (SC (Rc rfl (bG K4 rfl (Cd rfl ?_ ?_)))) <;> clear H K4
 ·intro h9 a H
  try have p9:=dT h9
  refine kP H (SR fun _ bH=>aj bH rfl (SQ fun _ bT=>SR fun _ cK=>Rm rfl (Rc rfl (Kz cK (Cd rfl ?_ ?_))))) <;> clear H bH cK
  ·intro gL a H
   try have sG:=dT gL
   refine kP H (SC (bG bT rfl (SR fun _ dB=>Rm rfl (Rc rfl (Rm rfl (Sp 16 rfl ?_ ?_)))))) <;> clear H bT
   ·intro h16 a H
    try have p16:=dT h16
    refine kH H (YM h16 rfl ?_);clear H;intro a H;refine wo H (wg H rfl rfl h16) rfl rfl ?_;clear H;intro a H;refine kH H (YF Mx h16 rfl (YR Oa h16 rfl (by assumption) ?_));clear H;intro a H;refine kH H (YM h16 rfl ?_);clear H;intro a H;refine Br (zv:=vi 0) IX mJ (by kernel_rfl) H (wg H rfl rfl h16) rfl rfl (H.ro _ _ hck.sty) rfl ?_;clear H;intro a H;rw [NA] at H;refine kH H (YM h16 rfl (YC h16 rfl (Pt h16 rfl ?_)));clear H;intro a H;refine s_call kr H wn rfl (kF _ _ H.ro _ 25) rfl ?_;clear H;rintro v26 _ a w ⟨rfl,rfl⟩ - H;refine kH H (aj dB rfl ?_);clear H dB;intro a H;refine lr H results130 rfl ?_
    exact Al
   intro h16 a H
   try have p16:=dF h16
   refine kH H (aM h16 rfl (aM h16 rfl (aJ h16 rfl (Pf h16 rfl ?_))));clear H;intro a H;refine s_call kr H wn rfl (kF _ _ H.ro _ 25) rfl ?_;clear H;rintro v26 _ a w ⟨rfl,rfl⟩ - H;refine kH H (aj dB rfl ?_);clear H dB;intro a H;refine lr H results130 rfl ?_
   exact Al
  intro gL a H
  try have sG:=dF gL
  refine kP H (Kc bT (SR fun _ eU=>Rm rfl (Rc rfl (Rm rfl (Sp 16 rfl ?_ ?_))))) <;> clear H bT
  ·intro h16 a H
   try have p16:=dT h16
   refine kH H (YM h16 rfl ?_);clear H;intro a H;refine wo H (wg H rfl rfl h16) rfl rfl ?_;clear H;intro a H;refine kH H (YF Mx h16 rfl (YR Oa h16 rfl (by assumption) ?_));clear H;intro a H;refine kH H (YM h16 rfl ?_);clear H;intro a H;refine Br (zv:=vi 0) IX mJ (by kernel_rfl) H (wg H rfl rfl h16) rfl rfl (H.ro _ _ hck.sty) rfl ?_;clear H;intro a H;rw [NA] at H;refine kH H (YM h16 rfl (YC h16 rfl (Pt h16 rfl ?_)));clear H;intro a H;refine s_call kr H wn rfl (kF _ _ H.ro _ 25) rfl ?_;clear H;rintro v26 _ a w ⟨rfl,rfl⟩ - H;refine kH H (aj eU rfl ?_);clear H eU;intro a H;refine lr H results130 rfl ?_
   exact Al
  intro h16 a H
  try have p16:=dF h16
  refine kH H (aM h16 rfl (aM h16 rfl (aJ h16 rfl (Pf h16 rfl ?_))));clear H;intro a H;refine s_call kr H wn rfl (kF _ _ H.ro _ 25) rfl ?_;clear H;rintro v26 _ a w ⟨rfl,rfl⟩ - H;refine kH H (aj eU rfl ?_);clear H eU;intro a H;refine lr H results130 rfl ?_
  exact Al
 intro h9 a H
 try have p9:=dF h9
 refine kP H (SR fun _ eX=>Rc rfl (aj eX rfl (Cd rfl ?_ ?_))) <;> clear H eX
 ·intro h27 a H
  try have p27:=dT h27
  refine kP H (SR fun _ eG=>Rm rfl (Rc rfl (Rm rfl (Sp 31 rfl ?_ ?_)))) <;> clear H
  ·intro h31 a H
   try have p31:=dT h31
   refine kH H (YM h31 rfl ?_);clear H;intro a H;refine wo H (wg H rfl rfl h31) rfl rfl ?_;clear H;intro a H;refine kH H (YF acJ h31 rfl (YR vk h31 rfl (by assumption) ?_));clear H;intro a H;refine kH H (YM h31 rfl ?_);clear H;intro a H;refine Br (zv:=.bool false) yC mJ (by kernel_rfl) H (wg H rfl rfl h31) rfl rfl (H.ro _ _ hck.nH) rfl ?_;clear H;intro a H;rw [Fx] at H;refine kH H (YN h31 rfl (Pt h31 rfl ?_));clear H;intro a H;refine s_call kr H wn rfl (kF _ _ H.ro _ 26) rfl ?_;clear H;rintro v40 _ a w ⟨rfl,rfl⟩ - H;refine kH H (aj eG rfl ?_);clear H eG;intro a H;refine lr H results130 rfl ?_
   exact Al
  intro h31 a H
  try have p31:=dF h31
  refine kH H (aM h31 rfl (aJ h31 rfl (aJ h31 rfl (Pf h31 rfl ?_))));clear H;intro a H;refine s_call kr H wn rfl (kF _ _ H.ro _ 26) rfl ?_;clear H;rintro v40 _ a w ⟨rfl,rfl⟩ - H;refine kH H (aj eG rfl ?_);clear H eG;intro a H;refine lr H results130 rfl ?_
  exact Al
 intro h27 a H
 try have p27:=dF h27
 refine kP H (Kc K2 (SR fun _ fC=>aj fC rfl ?_));clear H K2 fC;intro a H;refine lr H results130 rfl ?_
 exact Al
end
section
section
variable {N:Nat} {D:List Deferred} {w0:World} {F:Nat->Prop} {G0 G G':GH} {L L':OL} {T:List (Nat × ah)}
variable {r:Option Nat} {P:Program} {ops:Array Oper} {Q:Exit->Act->World->Prop} {rest:List Oper} {a:Act} {w w':World}
theorem Ep {ι:Type} {Tc:List (Nat × ah)} {l:List Oper} (k:Nat) (Tv:ι->List (Nat × ah)) (Pr:ι->Prop) (_:St N D w0 F G0 G L Tc a w)
  (h1:(∀ i a w,Pr i->St N D w0 F G0 G L (Tv i++Tc) a w->WL r P ops Q (l.drop k) a w)->WL r P ops Q l a w)
  (h2:∀ i a w,Pr i->St N D w0 F G0 G L (Tv i++Tc) a w->WL r P ops Q (l.drop k) a w):WL r P ops Q l a w:=h1 h2
theorem Change.back (h:Change w w' G G' L L'):Change w w' G G L L' :=
 ⟨h.os,h.tape,h.output,h.size,h.fr,fun _ _ h=>h,fun _ _ h=>.inl h,⟨fun k o hk=>h.owns.ro k o (h.gm k o hk),h.owns.own,fun p hp=>(by
  have hs:=h.owns.sep p hp
  cases hg:G p.1 with
  | none=>rfl
  | some o=>have:=h.gm _ _ hg;rw [hs] at this;cases this),h.owns.nd⟩,h.lx⟩
theorem gF.back {R:ah->GH->OL->Prop} {R':ah->OL->Prop} (hR:∀ v G' L',R v G' L'->R' v L') {e:Ending} (h:gF w G L R e w'):gF w G L (fun v G' L'=>G=G'∧R' v L') e w':=by
 obtain ⟨v,G',L',rfl,hc,hr⟩:=h
 exact ⟨v,G,L',rfl,hc.back,rfl,hR _ _ _ hr⟩
theorem Calls.aiO {f:FuncId} {args:Array ah} {R:ah->GH->OL->Prop} {R':ah->OL->Prop} (h:Calls P f args w (gF w G L R)) (hR:∀ v G' L',R v G' L'->R' v L'):Calls P f args w (gF w G L fun v G' L'=>G=G'∧R' v L') :=
 h.mono fun _ _=>gF.back hR
theorem bE.back {R:ah->GH->Prop} {e:Ending} (h:bE w G R e w'):bE w G (fun v G'=>(∃ g,R v g)∧G=G') e w':=by
 obtain ⟨v,G',rfl,hb,hX,hr⟩:=h
 exact ⟨v,G,rfl,hb,⟨fun _ _ h=>h,fun _ _ h=>.inl h,fun k o hk=>hX.2.2 k o (hX.1 k o hk)⟩,⟨G',hr⟩,rfl⟩
theorem aan {f:FuncId} {args:Array ah} {R:ah->GH->Prop} (h:Calls P f args w (bE w G R)):Calls P f args w (bE w G fun v G'=>(∃ g,R v g)∧G=G'):=h.mono fun _ _=>bE.back
theorem gY.add {b:Nat} {o:Obj} (h:gY G ((b,o) :: L) w):Hold (G.add b o) w:=fun k o' hk=>by
 unfold GH.add at hk
 split at hk
 ·next e=>cases hk;subst e;exact h.own _ fE
 ·exact h.ro k o' hk
theorem auP {b:Nat} {o:Obj} {R:ah->GH->Prop} {R':ah->Prop} (hO:gY G ((b,o) :: L) w) (hR:∀ v G',R v G'->R' v) {e:Ending} (h:bE w (G.add b o) R e w'):gF w G ((b,o) :: L) (fun v G' L'=>G=G'∧L'=(b,o) :: L∧R' v) e w':=by
 obtain ⟨v,G',rfl,hb,hX,hr⟩:=h
 exact ⟨v,G,_,rfl,(hO.hp.below hb).ahj,rfl,rfl,hR _ _ hr⟩
end
end
end Go.Proofs.YtdiflmikikiedaaGreat
