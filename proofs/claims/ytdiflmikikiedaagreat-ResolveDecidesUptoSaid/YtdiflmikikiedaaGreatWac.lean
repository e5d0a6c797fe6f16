/-
  What the claim stands on, part 3: Dl Lfl Dv Lpc Scn By Lps Lcl Dst Sty Stz Dsc Mi Ro Ri Chn Chk Dsv Mq Nck Cid Mt.
-/
import Derived.Test.YtdiflmikikiedaaGreatWab
import Derived.Lib.ConvBytes
namespace Go.Proofs.YtdiflmikikiedaaGreat
set_option linter.all false
open Go.Proofs.Tryz
set_option maxRecDepth 20000
set_option maxHeartbeats 4000000
section
open Go.RowKit
section
variable {N:Nat} {D:List Deferred} {w0:World} {F:Nat→Prop} {G0 G G1 G2:GH} {L L1 L2:OL} {T Xs:List (Nat × aj)}
variable {r:Option Nat} {P:Program} {Q:Exit→Act→World→Prop} {l:List Oper} {a a':Act} {w w':World}
theorem Bq {pr:Nat→aj→GH→Prop} {S:Nat→Bool} {i d:Nat} {v:aj} (hok:nY l T i=true) (jN:∀ i v (G G':GH),(∀ k o,G k=some o→G' k=some o)→pr i v G→pr i v G') (hi:dX l i=some d)
  (HT:St N D w0 F G0 G1 L T a w) (Hb:St N D w0 F G0 G1 L (Xs++full N a) a w) (hG:∀ k o,G k=some o→G1 k=some o) (hv:∀ j d,j≠i→S j=true→dX l j=some d→∃ v,a.tmps[d]?=some v∧pr j v G1)
  (hG2:∀ k o,G1 k=some o→G2 k=some o) (hp:pr i v G2) (H:St N D w0 F G0 G2 L1 ((d,v) :: (Xs++full N a)) a' w'):DX N D w0 F G0 G L1 T l pr (cZ S i) a' w':=by
 have hok1:=hok
 rw [nY,hi] at hok1
 simp only [mD,Option.isNone_iff_eq_none,jQ,sM] at hok1
 have hsame:∀ t,t≠d→a'.tmps[t]?=a.tmps[t]?:=by
  intro t ht
  by_cases hlt:t < N
  ·have h1:∃ u,lk (Xs++full N a) t=some u:=by
    rw [Ob]
    cases lk Xs t with
    | some u=>exact ⟨u,rfl⟩
    | none=>exact ⟨_,Oc a hlt⟩
   obtain ⟨u,hu⟩:=h1
   rw [Hb.get t u hu,H.get t u (by rw [uM (Ne.symm ht)];exact hu)]
  ·rw [Array.getElem?_eq_none (by rw [H.mO];omega),Array.getElem?_eq_none (by rw [Hb.mO];omega)]
 refine ⟨G2,fun k o hk=>hG2 k o (hG k o hk),⟨H.mO,fun t u ht=>?_,H.rE,H.hp⟩,fun j e hj he=>?_⟩
 ·rw [hsame t (fun e=>by rw [e,hok1.1] at ht;cases ht)]
  exact HT.get t u ht
 ·by_cases hji:j=i
  ·subst hji
   rw [hi] at he
   simp only [nJ] at he
   subst he
   exact ⟨v,H.get d v (vU _ _ _),hp⟩
  ·have hSj:S j=true:=by unfold cZ at hj;rwa [ah hji] at hj
   obtain ⟨u,hu1,hu2⟩:=hv j e hji hSj he
   have hne:e≠d:=by
    intro e'
    subst e'
    have h2:=hok1.2 j (qB he)
    rw [nW (fun h=>hji h.symm),he] at h2
    simp at h2
   exact ⟨u,by rw [hsame e hne];exact hu1,jN j u _ _ hG2 hu2⟩
theorem adW {id:Nat} {κ:Type} (k0:κ) (hm:P.follows .mixedOrders=true) (bJ:List (List Nat)) (B:List Nat) (hk:wD l bJ=true) (hB:uQ l bJ B=true) (m1 m2 m3:Nat) (Zq:B.contains m1=false) (ND:B.contains m2=false) (SX:B.contains m3=false) (hne:Nat.beq m1 m2=false) (Zv:Nat.beq m2 m3=false) (hne1:Nat.beq m1 m3=false) (h12:(bJ.getD m2 []).contains m1=true) (mU:(bJ.getD m3 []).contains m1=true) (h23:(bJ.getD m3 []).contains m2=true)
  (C L2:OL) (ob:Obj) (L3:Nat→κ→OL) (hC:∀ x,x∈C→x∈L) (hC2:∀ x,x∈C→x∈L2) (hC3:∀ b k x,x∈C→x∈L3 b k) (pr:Nat→κ→Nat→aj→GH→Prop)
  (Ki:∀ b b' k i v G,Nat.beq i m2=false→(bJ.getD i []).contains m2=false→pr b k i v G→pr b' k i v G)
  (ama:∀ b k k' i v G,Nat.beq i m3=false→(bJ.getD i []).contains m3=false→pr b k i v G→pr b k' i v G)
  (H:St N D w0 F G0 G L T a w)
  (hstep:allI (fun i o=>∀ b k L' S a w G1,(∀ x,x∈C→x∈L')→B.contains i=false→Nat.beq i m1=false→Nat.beq i m2=false→Nat.beq i m3=false→S i=false→(∀ j∈bJ.getD i [],S j=true)→(∀ k o,G k=some o→G1 k=some o)→St N D w0 F G0 G1 L' T a w→(∀ i d,S i=true→dX l i=some d→∃ v,a.tmps[d]?=some v∧pr b k i v G1) →
   WL r P l.toArray (fun e a' w'=>e=.normal∧DX N D w0 F G0 G L' T l (pr b k) (cZ S i) a' w') [o] a w) 0 l)
  (J3:∀ o b k S a w G1,l[m1]?=some o→S m1=false→(∀ j∈bJ.getD m1 [],S j=true)→(∀ k o,G k=some o→G1 k=some o)→St N D w0 F G0 G1 L T a w→(∀ i d,i≠m1→S i=true→dX l i=some d→∃ v,a.tmps[d]?=some v∧pr b k i v G1) →
   WL r P l.toArray (fun e a' w'=>e=.normal∧DX N D w0 F G0 G L2 T l (pr b k) (cZ S m1) a' w') [o] a w)
  (J4:∀ o k S a w G1,l[m2]?=some o→S m2=false→(∀ j∈bJ.getD m2 [],S j=true)→(∀ k o,G k=some o→G1 k=some o)→St N D w0 F G0 G1 L2 T a w→(∀ b i d,i≠m2→S i=true→dX l i=some d→∃ v,a.tmps[d]?=some v∧pr b k i v G1) →
   WL r P l.toArray (fun e a' w'=>e=.normal∧∃ b,DX N D w0 F G0 G ((b,ob) :: L2) T l (pr b k) (cZ S m2) a' w') [o] a w)
  (SY:∀ o b S a w G1,l[m3]?=some o→S m3=false→(∀ j∈bJ.getD m3 [],S j=true)→(∀ k o,G k=some o→G1 k=some o)→St N D w0 F G0 G1 ((b,ob) :: L2) T a w→(∀ k i d,i≠m3→S i=true→dX l i=some d→∃ v,a.tmps[d]?=some v∧pr b k i v G1) →
   WL r P l.toArray (fun e a' w'=>e=.normal∧∃ k,DX N D w0 F G0 G (L3 b k) T l (pr b k) (cZ S m3) a' w') [o] a w)
  (hend:∀ b k a w G1,(∀ k o,G k=some o→G1 k=some o)→St N D w0 F G0 G1 (L3 b k) T a w→(∀ i d,B.contains i=false→dX l i=some d→∃ v,a.tmps[d]?=some v∧pr b k i v G1)→WL r P l.toArray (fun e a w=>e=.normal∧Q .normal a w) (oh l B) a w)
  (EL:Nat.blt m2 l.length=true) (EM:Nat.blt m3 l.length=true):WP r P (.region id l.toArray true) Q a w:=by
 have aaG:m1≠m2:=fun e=>by subst e;rw [Nat.beq_refl] at hne;cases hne
 have aaI:m2≠m3:=fun e=>by subst e;rw [Nat.beq_refl] at Zv;cases Zv
 have aaH:m1≠m3:=fun e=>by subst e;rw [Nat.beq_refl] at hne1;cases hne1
 refine Ei hm bJ B hk hB (fun S a w=>(S m2=true→S m1=true)∧(S m3=true→S m2=true)∧∃ b k L',L'=(bif S m3 then L3 b k else bif S m2 then (b,ob) :: L2 else bif S m1 then L2 else L)∧DX N D w0 F G0 G L' T l (pr b k) S a w)
  ⟨fun h=>h,fun h=>h,0,k0,L,rfl,G,fun _ _ h=>h,H.move H.hp.drew,fun _ _ h=>absurd (show false=true from h) (by decide)⟩ ?_ ?_
 ·rintro i o S a w ho hb aL iK hdesc ⟨Dl,alY,b,k,L',hL,G1,hG,HS,hv⟩
  have hsub:∀ x,x∈C→x∈L':=fun x hx=>by
   rw [hL]
   cases S m3 with
   | true=>exact hC3 b k x hx
   | false=>cases S m2 with
    | true=>exact gB _ (hC2 x hx)
    | false=>cases S m1 with
     | true=>exact hC2 x hx
     | false=>exact hC x hx
  have hno:∀ j,j < l.length→S j=true→(bJ.getD j []).contains i=false:=fun j hjl hj=>by
   cases hc:(bJ.getD j []).contains i with
   | false=>rfl
   | true =>
    have:=hdesc j hjl (by simpa using hc)
    rw [this] at hj;cases hj
  by_cases h1:i=m1
  ·subst h1
   have hS2:S m2=false:=hdesc m2 (Eq.mp Nat.blt_eq EL) (by simpa using h12)
   have yU:S m3=false:=hdesc m3 (Eq.mp Nat.blt_eq EM) (by simpa using mU)
   rw [yU,hS2,aL] at hL
   subst hL
   have h:=J3 o b k S a w G1 ho aL iK hG HS fun j d hj hSj hd=>hv j d hSj hd
   have e2:cZ S i m2=S m2:=ah (fun e=>aaG e.symm)
   have e3:cZ S i m3=S m3:=ah (fun e=>aaH e.symm)
   refine lC (fun e a' w' ⟨he,hD⟩=>⟨he,fun _=>av rfl,fun h=>(by rw [e3,yU] at h;cases h),b,k,_,?_,hD⟩) h
   rw [show cZ S i i=true from av rfl,e2,e3,hS2,yU]
   rfl
  ·by_cases h2:i=m2
   ·subst h2
    have hS1:S m1=true:=iK m1 (by simpa using h12)
    have yU:S m3=false:=hdesc m3 (Eq.mp Nat.blt_eq EM) (by simpa using h23)
    rw [yU,aL,hS1] at hL
    subst hL
    have e1:cZ S i m1=S m1:=ah aaG
    have e3:cZ S i m3=S m3:=ah (fun e=>aaI e.symm)
    have h:=J4 o k S a w G1 ho aL iK hG HS fun b' j d hj hSj hd=>by
     obtain ⟨v,hv1,hv2⟩:=hv j d hSj hd
     exact ⟨v,hv1,Ki b b' k j v _ (nW hj) (hno j (qB hd) hSj) hv2⟩
    refine lC (fun e a' w' ⟨he,b',hD⟩=>⟨he,fun _=>by rw [e1];exact hS1,fun _=>av rfl,b',k,_,?_,hD⟩) h
    rw [show cZ S i i=true from av rfl,e3,yU];rfl
   ·by_cases h3:i=m3
    ·subst h3
     have hS1:S m1=true:=iK m1 (by simpa using mU)
     have hS2:S m2=true:=iK m2 (by simpa using h23)
     rw [aL,hS2] at hL
     subst hL
     have e1:cZ S i m1=S m1:=ah aaH
     have e2:cZ S i m2=S m2:=ah aaI
     have h:=SY o b S a w G1 ho aL iK hG HS fun k' j d hj hSj hd=>by
      obtain ⟨v,hv1,hv2⟩:=hv j d hSj hd
      exact ⟨v,hv1,ama b k k' j v _ (nW hj) (hno j (qB hd) hSj) hv2⟩
     refine lC (fun e a' w' ⟨he,k',hD⟩=>⟨he,fun _=>by rw [e1];exact hS1,fun _=>by rw [e2];exact hS2,b,k',_,?_,hD⟩) h
     rw [show cZ S i i=true from av rfl];rfl
    ·have h:=yH hstep i o ho
     rw [fU] at h
     have e1:cZ S i m1=S m1:=ah (fun e=>h1 e.symm)
     have e2:cZ S i m2=S m2:=ah (fun e=>h2 e.symm)
     have e3:cZ S i m3=S m3:=ah (fun e=>h3 e.symm)
     refine lC (fun e a' w' ⟨he,hD⟩=>⟨he,by rw [e1,e2];exact Dl,by rw [e2,e3];exact alY,b,k,L',?_,hD⟩) (h b k L' S a w G1 hsub hb (nW h1) (nW h2) (nW h3) aL iK hG HS hv)
     rw [e1,e2,e3];exact hL
 ·rintro S a w hall H8 ⟨_,_,b,k,L',hL,G1,hG,HS,hv⟩
  have hs3:S m3=true:=hall m3 (Eq.mp Nat.blt_eq EM) SX
  rw [hs3] at hL
  subst hL
  exact hend b k a w G1 hG HS fun j d hb hd=>hv j d (hall j (qB hd) hb) hd
end
theorem arC {z:Int} (h1:0≤z) (h2:z < 256):IntKind.u8.wrap z=z:=by
 simp only [IntKind.wrap,IntKind.bits,IntKind.signed,wz,qZ,if_false]
 omega
section
variable {N:Nat} {D:List Deferred} {w0:World} {F:Nat→Prop} {G0 G:GH} {L:OL} {T:List (Nat × aj)}
variable {r:Option Nat} {P:Program} {ops:Array Oper} {Q:Exit→Act→World→Prop} {rest:List Oper} {a:Act} {w:World}
variable {d:Nat} {ty:TypeId} {pos:String} {aO:Array Edge} {g:Option (Nat × Bool)}
theorem aqm {x y:Operand} {t yt:TypeId} {p q:Int} (H:St N D w0 F G0 G L T a w) (hw:Region.wanted ⟨some d,.binOp .sub t x y yt,ty,pos,aO,g⟩ (yielded ops a.tmps)=true) (hx:ev T x=some (.int .u8 p)) (hy:ev T y=some (.int .u8 q)) (h1:0≤p - q) (h2:p - q < 256) (hd:Nat.blt d N=true)
  (k:∀ a',St N D w0 F G0 G L ((d,.int .u8 (p - q)) :: T) a' w→WL r P ops Q rest a' w):WL r P ops Q (⟨some d,.binOp .sub t x y yt,ty,pos,aO,g⟩ :: rest) a w :=
 fq (v:=.int .u8 (p - q)) (w':=w) hw rfl (by simp [execOp,eqGuard,binOp,Op.intArith,H.ev hx,H.ev hy,dS,arC h1 h2]) (k _ (H.put hd _ H.hp))
end
end
section
open Go.RowKit
theorem ahT:∀ args w,(callFunc 279 args).run prog w=.ok (.enter 279 args) w:=enters func279 rfl (by kernel_rfl)
instance Ve:Ty prog 313 1 24 [.slice none 0 0] false:=⟨by kernel_rfl,by kernel_rfl⟩
theorem aiw:∀ args w,(callFunc 94 args).run prog w=.ok (.enter 94 args) w:=enters func94 rfl (by kernel_rfl)
theorem KZ:prog.underlying 313=some (.slice 318):=by kernel_rfl
instance:jZ prog 313 (.slice 318):=⟨KZ⟩
instance KV:Ty prog 318 3 32 [.string ⟨#[]⟩,.int .i64 0,.bool false] true:=⟨by kernel_rfl,by kernel_rfl⟩
theorem ahU:∀ args w,(callFunc 280 args).run prog w=.ok (.enter 280 args) w:=enters func280 rfl (by kernel_rfl)
instance ajw:dR prog 340 2 2:=⟨by kernel_rfl⟩
instance ajx:dR prog 340 3 4:=⟨by kernel_rfl⟩
theorem abW:pI prog 318 [(0,1),(1,1),(2,1)] [.string ⟨#[]⟩,.int .i64 0,.bool false]:=⟨by kernel_rfl,by kernel_rfl⟩
theorem QT:∀ args w,(callFunc 274 args).run prog w=.ok (.enter 274 args) w:=enters func274 rfl (by kernel_rfl)
instance Yj:dR prog 340 4 5:=⟨by kernel_rfl⟩
structure jm where
 lit:ByteArray
 level:Int
 plain:Bool
def jm.dat (x:jm):List Dat:=[.lf (.string x.lit),li x.level,.lf (.bool x.plain)]
abbrev jm.cells (x:jm):List aj:=[.string x.lit,vi x.level,.bool x.plain]
theorem aav (G:GH) (x:jm):aU G x.dat x.cells:=by
 simp only [jm.dat,jm.cells,aU]
 exact ⟨_,_,rfl,by simp [au,Value.oneCell'],_,_,rfl,by simp [au,Value.oneCell'],_,_,rfl,by simp [au,Value.oneCell'],rfl⟩
theorem aau {G:GH} {x:jm} {cs:List aj} (h:aU G x.dat cs):cs=x.cells:=by
 simp only [jm.dat,aU,au] at h
 obtain ⟨_,_,rfl,⟨rfl,_⟩,_,_,rfl,⟨rfl,_⟩,_,_,rfl,⟨rfl,_⟩,rfl⟩:=h
 rfl
def Dt (l:List jm):List aj:=(l.map jm.cells).flatten
theorem aat (l:List jm) (x:jm):Dt (l++[x])=Dt l++x.cells:=by simp [Dt]
structure zT (b:Nat) (lit:List UInt8) (parts:List jm) (p v q:aj) (Lp Lo:OL):Prop where
 ptr:p=.pointer none∨p=(aG b 2)
 buf:bV 5 1 v lit.length (Lib.byteCells lit) Lo
 prt:bV 318 3 q parts.length (Dt parts) Lp
def uq (lit:List UInt8) (parts:List jm):List jm:=if lit=[] then parts else parts++[⟨⟨lit.toArray⟩,0,false⟩]
theorem RG (G:GH) (Lp Lo:OL) (w0:World) (b:Nat) (s:ByteArray) (i:Int) (p v q:aj) (pl e:Int) (lit:List UInt8) (parts:List jm) (hR:zT b lit parts p v q Lp Lo) (hO:fT G (gK b s i p v q pl e :: (Lp++Lo)) w0) (hl:lit.length≤4294967296) (hp:parts.length≤4294967296) :
  Calls prog 274 #[(aG b 0)] w0 (fI w0 G (gK b s i p v q pl e :: (Lp++Lo)) fun u G' L'=>∃ p' v' q' qp kF,L'=gK b s i p' v' q' pl e :: (qp++kF)∧zT b [] (uq lit parts) p' v' q' qp kF):=by
 obtain ⟨ZH,hbuf,NQ⟩:=hR;have hml:maxLen=9223372036854775807:=rfl;obtain ⟨A,c,rfl,Z6,Z7⟩:=hbuf.shape;obtain ⟨B,d,rfl,ZI,ZJ⟩:=NQ.shape;obtain ⟨Lt,oV⟩:∃ x,x=Lp++Lo:=⟨_,rfl⟩;rw [← oV] at hO ⊢;refine jf (N:=25) (T:=[(0,_)]) func274 rfl ntmps274 rfl rfl hO ?_;refine ak 4 ?_;intro a H;refine gy ahT (Li:=[]) (L:=gK b s i p (.slice A lit.length c) (.slice B parts.length d) pl e :: Lt) H wn rfl (aqW _ _ _ b s i p A lit.length c B parts.length d pl e (Hp.owns (Li:=[]) H.hp)) rfl ?_;clear H;rintro v5 _ L5 a w ⟨rfl,rfl,rfl⟩ Dc H;dsimp only [List.nil_append] at H;refine gF 2 H ?_ ?_ <;> clear H
 ·intro p6
  have hne:lit≠[]:=fun e=>by rw [e] at p6;simp at p6
  subst oV;refine ak 1 ?_
  have dM:∀ (aJ:Nat) (bT:(Option Addr × Nat) × OL) (aQ:Nat) (v:aj) (G G':GH),(∀ k o,G k=some o→G' k=some o)→(fun (aJ:Nat) (bT:(Option Addr × Nat) × OL) (aQ:Nat) (v:aj) (G:GH)=>match aQ with|0=>v=(aG b 0)|1=>v=(aG b 0)|2=>v=(aG b 0)|3=>v=(aG b 4)|4=>v=.slice B parts.length d|5=>v=(aG b 0)|6=>v=(aG b 0)|7=>v=(aG b 2)|8=>v=.string ⟨lit.toArray⟩|9=>v=.agg (jm.cells ⟨⟨lit.toArray⟩,0,false⟩).toArray|10=>v=.slice (some ⟨aJ,0,none⟩) 1 1|11=>v=.slice bT.1.1 (parts.length+1) bT.1.2∧bV 318 3 v (parts.length+1) (Dt (parts++[⟨⟨lit.toArray⟩,0,false⟩])) bT.2|_=>True) aJ bT aQ v G→(fun (aJ:Nat) (bT:(Option Addr × Nat) × OL) (aQ:Nat) (v:aj) (G:GH)=>match aQ with|0=>v=(aG b 0)|1=>v=(aG b 0)|2=>v=(aG b 0)|3=>v=(aG b 4)|4=>v=.slice B parts.length d|5=>v=(aG b 0)|6=>v=(aG b 0)|7=>v=(aG b 2)|8=>v=.string ⟨lit.toArray⟩|9=>v=.agg (jm.cells ⟨⟨lit.toArray⟩,0,false⟩).toArray|10=>v=.slice (some ⟨aJ,0,none⟩) 1 1|11=>v=.slice bT.1.1 (parts.length+1) bT.1.2∧bV 318 3 v (parts.length+1) (Dt (parts++[⟨⟨lit.toArray⟩,0,false⟩])) bT.2|_=>True) aJ bT aQ v G':=by
   intro aJ bT aQ v G G' hm h
   match aQ,h with
   | 0,h=>exact h
   | 1,h=>exact h
   | 2,h=>exact h
   | 3,h=>exact h
   | 4,h=>exact h
   | 5,h=>exact h
   | 6,h=>exact h
   | 7,h=>exact h
   | 8,h=>exact h
   | 9,h=>exact h
   | 10,h=>exact h
   | 11,h=>exact h
   | 12,h=>exact trivial
   | 13,h=>exact trivial
   | 14,h=>exact trivial
   | _+15,h=>exact trivial
  intro a H;refine adW (κ:=(Option Addr × Nat) × OL) (((none,0),[])) (hmx) [[],[],[1],[1,2],[1,2,3],[],[5],[5,6],[5,6,7],(ra 5 4),(ra 5 5),(ra 1 10),(ra 0 12),(ra 0 13),(ra 0 14)] [12,13,14] (by kernel_rfl) (by kernel_rfl) 8 10 11 (by decide) (by decide) (by decide) (by decide) (by decide) (by decide) (by decide) (by decide) (by decide) [gK b s i p (.slice A lit.length c) (.slice B parts.length d) pl e] (gK b s i p (.slice A lit.length c) (.slice B parts.length d) pl e :: Lp) (.cells (jm.cells ⟨⟨lit.toArray⟩,0,false⟩).toArray 318 (0,0)) (fun b_ k_=>(b_,.cells (jm.cells ⟨⟨lit.toArray⟩,0,false⟩).toArray 318 (0,0)) :: gK b s i p (.slice A lit.length c) (.slice B parts.length d) pl e :: k_.2) (fun x hx=>by rw [sN.1 hx];exact fK) (fun x hx=>by rw [sN.1 hx];exact fK) (fun _ _ x hx=>by rw [sN.1 hx];exact gB _ fK) (fun (aJ:Nat) (bT:(Option Addr × Nat) × OL) (aQ:Nat) (v:aj) (G:GH)=>match aQ with|0=>v=(aG b 0)|1=>v=(aG b 0)|2=>v=(aG b 0)|3=>v=(aG b 4)|4=>v=.slice B parts.length d|5=>v=(aG b 0)|6=>v=(aG b 0)|7=>v=(aG b 2)|8=>v=.string ⟨lit.toArray⟩|9=>v=.agg (jm.cells ⟨⟨lit.toArray⟩,0,false⟩).toArray|10=>v=.slice (some ⟨aJ,0,none⟩) 1 1|11=>v=.slice bT.1.1 (parts.length+1) bT.1.2∧bV 318 3 v (parts.length+1) (Dt (parts++[⟨⟨lit.toArray⟩,0,false⟩])) bT.2|_=>True) (fun b b' k i v G hi hc h=>by match i,hi,hc,h with|0,_,_,h=>exact h|1,_,_,h=>exact h|2,_,_,h=>exact h|3,_,_,h=>exact h|4,_,_,h=>exact h|5,_,_,h=>exact h|6,_,_,h=>exact h|7,_,_,h=>exact h|8,_,_,h=>exact h|9,_,_,h=>exact h|10,hi,_,_=>exact absurd hi (by decide)|11,_,hc,_=>exact absurd hc (by decide)|12,_,hc,_=>exact absurd hc (by decide)|13,_,hc,_=>exact absurd hc (by decide)|14,_,hc,_=>exact absurd hc (by decide)|_+15,_,_,_=>exact trivial) (fun b k k' i v G hi hc h=>by match i,hi,hc,h with|0,_,_,h=>exact h|1,_,_,h=>exact h|2,_,_,h=>exact h|3,_,_,h=>exact h|4,_,_,h=>exact h|5,_,_,h=>exact h|6,_,_,h=>exact h|7,_,_,h=>exact h|8,_,_,h=>exact h|9,_,_,h=>exact h|10,_,_,h=>exact h|11,hi,_,_=>exact absurd hi (by decide)|12,_,hc,_=>exact absurd hc (by decide)|13,_,hc,_=>exact absurd hc (by decide)|14,_,hc,_=>exact absurd hc (by decide)|_+15,_,_,_=>exact trivial) H ?_ ?_ ?_ ?_ ?_ (by kernel_rfl) (by kernel_rfl)
  ·clear H;refine aF ?_ ?_ ?_ ?_ (aF ?_ ?_ ?_ ?_ (aF ?_ ?_ ?_ ?_ (bH ?_ (bH ?_ (bH ?_ cO)))))
   ·intro aJ bT dH aS a w G1 dN _ _ _ _ aL hc hG HT hv;have H:=HT;clear aL;have Hb:=H.full;have H:=Hb;clear hc;refine aD 1 H ?_;clear H;intro a H;refine aC ⟨rfl,?_⟩;exact dL (by kernel_rfl) (dM aJ bT) rfl rfl HT Hb hG hv (fun _ _ h=>h) (rfl) H
   ·intro aJ bT dH aS a w G1 dN _ _ _ _ aL hc hG HT hv;have H:=HT;clear aL;have Hb:=H.full;have H:=Hb;clear hc;refine aD 1 H ?_;clear H;intro a H;refine aC ⟨rfl,?_⟩;exact dL (by kernel_rfl) (dM aJ bT) rfl rfl HT Hb hG hv (fun _ _ h=>h) (rfl) H
   ·intro aJ bT dH aS a w G1 dN _ _ _ _ aL hc hG HT hv;have H:=HT;clear aL;have H:=H.aN (hv 1 8 (hc 1 (by decide)) rfl) rfl;have Hb:=H.full;have H:=Hb;clear hc;refine aD 1 H ?_;clear H;intro a H;refine aC ⟨rfl,?_⟩;exact dL (by kernel_rfl) (dM aJ bT) rfl rfl HT Hb hG hv (fun _ _ h=>h) (rfl) H
   ·intro aJ bT dH aS a w G1 dN _ _ _ _ aL hc hG HT hv;have H:=HT;clear aL;have H:=H.aN (hv 2 9 (hc 2 (by decide)) rfl) rfl;have Hb:=H.full;have H:=Hb;clear hc;refine aD 1 H ?_;clear H;intro a H;refine aC ⟨rfl,?_⟩;exact dL (by kernel_rfl) (dM aJ bT) rfl rfl HT Hb hG hv (fun _ _ h=>h) (rfl) H
   ·intro aJ bT dH aS a w G1 dN _ _ _ _ aL hc hG HT hv;have H:=HT;clear aL;have H:=H.aN (hv 3 10 (hc 3 (by decide)) rfl) rfl;have Hb:=H.full;have H:=Hb;clear hc;refine iC Ve H wn rfl (H.hp.wQ (dN _ fK) rfl) rfl ?_;clear H;intro a H;refine aC ⟨rfl,?_⟩;exact dL (by kernel_rfl) (dM aJ bT) rfl rfl HT Hb hG hv (fun _ _ h=>h) (rfl) H
   ·intro aJ bT dH aS a w G1 dN _ _ _ _ aL hc hG HT hv;have H:=HT;clear aL;have Hb:=H.full;have H:=Hb;clear hc;refine aD 1 H ?_;clear H;intro a H;refine aC ⟨rfl,?_⟩;exact dL (by kernel_rfl) (dM aJ bT) rfl rfl HT Hb hG hv (fun _ _ h=>h) (rfl) H
   ·intro aJ bT dH aS a w G1 dN _ _ _ _ aL hc hG HT hv;have H:=HT;clear aL;have H:=H.aN (hv 5 12 (hc 5 (by decide)) rfl) rfl;have Hb:=H.full;have H:=Hb;clear hc;refine aD 1 H ?_;clear H;intro a H;refine aC ⟨rfl,?_⟩;exact dL (by kernel_rfl) (dM aJ bT) rfl rfl HT Hb hG hv (fun _ _ h=>h) (rfl) H
   ·intro aJ bT dH aS a w G1 dN _ _ _ _ aL hc hG HT hv;have H:=HT;clear aL;have H:=H.aN (hv 6 13 (hc 6 (by decide)) rfl) rfl;have Hb:=H.full;have H:=Hb;clear hc;refine aD 1 H ?_;clear H;intro a H;refine aC ⟨rfl,?_⟩;exact dL (by kernel_rfl) (dM aJ bT) rfl rfl HT Hb hG hv (fun _ _ h=>h) (rfl) H
   ·intro _ _ _ _ _ _ _ _ _ hB;exact absurd hB (by decide)
   ·intro aJ bT dH aS a w G1 dN _ _ _ _ aL hc hG HT hv;have H:=HT;clear aL;have H:=H.aN (hv 8 15 (hc 8 (by decide)) rfl) rfl;have Hb:=H.full;have H:=Hb;clear hc;refine jh abW [_,_,_] H wn rfl rfl rfl rfl ?_;clear H;intro a H;refine aC ⟨rfl,?_⟩;exact dL (by kernel_rfl) (dM aJ bT) rfl rfl HT Hb hG hv (fun _ _ h=>h) (rfl) H
   ·intro _ _ _ _ _ _ _ _ _ _ hB;exact absurd hB (by decide)
   ·intro _ _ _ _ _ _ _ _ _ _ _ hB;exact absurd hB (by decide)
   ·intro _ _ _ _ _ _ _ _ hB;exact absurd hB (by decide)
   ·intro _ _ _ _ _ _ _ _ hB;exact absurd hB (by decide)
   intro _ _ _ _ _ _ _ _ hB;exact absurd hB (by decide)
  ·clear H;intro o_ aJ bT aS a w G1 jT _ hc hG HT hv;obtain rfl:_=o_:=Option.some.inj jT;clear jT;have H:=HT;have H:=H.aN (hv 7 14 (by decide) (hc 7 (by decide)) rfl) rfl;have Hb:=H.full;have H:=Hb;clear hc;refine gy aiw (Li:=[]) (L:=gK b s i p (.slice A lit.length c) (.slice B parts.length d) pl e :: (Lp++Lo)) H wn rfl (arq _ _ _ _ b s i p _ B parts.length d pl e lit (Hp.owns (Li:=[]) H.hp) hbuf hne) rfl ?_;clear H;rintro v15 Bg PV a w ⟨rfl,rfl⟩ Bz H;dsimp only [List.nil_append] at H;refine aC ⟨rfl,?_⟩;exact Bq (by kernel_rfl) (dM aJ bT) rfl HT Hb hG (fun j e h1 h2 h3=>hv j e h1 h2 h3) Bz (rfl) H
  ·clear H;intro o_ bT aS a w G1 jT _ hc hG HT hv;obtain rfl:_=o_:=Option.some.inj jT;clear jT;have H:=HT;have H:=H.aN (hv 0 9 16 (by decide) (hc 9 (by decide)) rfl) rfl;have Hb:=H.full;have H:=Hb;clear hc;refine gG KZ KV [_,_,_] [_,_,_] H wn rfl rfl rfl rfl rfl (by intro i q h;match i,h with|0,h=>exact h|n+1,h=>simp at h) rfl rfl ?_;clear H;intro b17 a w Nn H;refine aC ⟨rfl,b17,?_⟩;exact Eo (by kernel_rfl) rfl HT Hb hG (fun j e h1 h2 h3=>hv _ j e h1 h2 h3) (rfl) H
  ·clear H;intro o_ aJ aS a w G1 jT _ hc hG HT hv;obtain rfl:_=o_:=Option.some.inj jT;clear jT;have H:=HT;have H:=H.aN (hv (((none,0),[])) 4 11 (by decide) (hc 4 (by decide)) rfl) rfl;have H:=H.aN (hv (((none,0),[])) 10 17 (by decide) (hc 10 (by decide)) rfl) rfl;have Hb:=H.full;have H:=Hb;clear hc;refine lJ (Li:=[_,_]) (Lo:=Lp) (news:=jm.cells ⟨⟨lit.toArray⟩,0,false⟩) KZ KV rfl rfl H wn rfl rfl NQ rfl (H.hp.bO 0 rfl rfl) rfl (by omega) (by omega) rfl ?_;clear H;intro v18 adu a w Ia H;obtain ⟨A18,c18,rfl,-,-⟩:=Ia.shape;rw [← aat] at Ia;refine aC ⟨rfl,((A18,c18),adu),?_⟩;exact Eo (by kernel_rfl) rfl HT Hb hG (fun j e h1 h2 h3=>hv _ j e h1 h2 h3) (⟨rfl,Ia⟩) H
  clear H;intro b17 bT a w G iN H hv;have H:=H.aN (hv 0 7 rfl rfl) rfl;obtain ⟨u18,Tp,J8⟩:=hv 11 18 (by decide) rfl;(try dsimp only at J8);obtain ⟨rfl,Ia⟩:=J8;have H:=H.ig Tp;clear hv;refine kH H (Rk rfl (Rf ajx rfl ?_));clear H;intro a H;refine aX Ve 1 (vs:=[_]) _ H wn rfl rfl rfl rfl rfl rfl rfl rfl ?_;clear H;intro w H;dsimp only [List.set,setRow] at H;refine aC ⟨rfl,?_⟩;refine dQ ?_;refine fM 4 H ?_;clear H;intro a H;refine gy ahU (Li:=[_]) (L:=gK b s i p (.slice A lit.length c) (.slice bT.1.1 (parts.length+1) bT.1.2) pl e :: bT.2) H wn rfl (arp _ _ _ b s i p A lit.length c bT.1.1 (parts.length+1) bT.1.2 pl e (Hp.owns (Li:=[_]) H.hp)) rfl ?_;clear H;rintro v24 _ L24 a w ⟨rfl,rfl⟩ kK H;dsimp only [lca,bG] at H;refine aC ?_;refine (leave0 H results274 ?_).2
  first
   | exact H.hp.kC (L':=gK b s i _ _ _ pl e :: bT.2) (zX _ _) ⟨_,_,_,bT.2,[],by rw [gu],⟨.inl rfl,bV.nil,by rw [uq,ah hne];simpa using Ia⟩⟩
   | exact H.hp.dG ⟨_,_,_,Lp,Lo,by rw [oV],by
     have h0:lit=[]:=by
      cases lit with
      | nil=>rfl
      | cons x r=>simp at p6
     subst h0;exact ⟨ZH,hbuf,by rw [uq,av rfl];exact NQ⟩⟩
 intro p6
 intro a H;refine jL ?_;refine (leave0 H results274 ?_).2
 first
  | exact H.hp.kC (L':=gK b s i _ _ _ pl e :: bT.2) (zX _ _) ⟨_,_,_,bT.2,[],by rw [gu],⟨.inl rfl,bV.nil,by rw [uq,ah hne];simpa using Ia⟩⟩
  | exact H.hp.dG ⟨_,_,_,Lp,Lo,by rw [oV],by
    have h0:lit=[]:=by
     cases lit with
     | nil=>rfl
     | cons x r=>simp at p6
    subst h0;exact ⟨ZH,hbuf,by rw [uq,av rfl];exact NQ⟩⟩
theorem abd (G:GH) (Lp Lo:OL) (w0:World) (b:Nat) (s:ByteArray) (i:Int) (p v q:aj) (pl e:Int) (lit:List UInt8) (parts:List jm) (ch:Int) (plain:Bool) (hR:zT b lit parts p v q Lp Lo) (hO:fT G (gK b s i p v q pl e :: (Lp++Lo)) w0) (hl:lit.length≤4294967296) (hp:parts.length≤4294967290) (hc:49≤ch∧ch≤57) (hpl:0≤pl∧pl≤4294967296) :
  Calls prog 278 #[(aG b 0),.int .u8 ch,.bool plain] w0 (fI w0 G (gK b s i p v q pl e :: (Lp++Lo)) fun u G' L'=>∃ p' v' q' qp kF,L'=gK b s i p' v' q' (pl+1) e :: (qp++kF)∧zT b [] (uq lit parts++[⟨⟨#[]⟩,ch - 48,plain⟩]) p' v' q' qp kF):=by
 have hml:maxLen=9223372036854775807:=rfl
 have hfl:(uq lit parts).length≤parts.length+1:=by unfold uq;split <;> simp
 obtain ⟨A,c,rfl,Z6,Z7⟩:=hR.buf.shape;obtain ⟨B,d,rfl,ZI,ZJ⟩:=hR.prt.shape;obtain ⟨Lt,oV⟩:∃ x,x=Lp++Lo:=⟨_,rfl⟩;rw [← oV] at hO ⊢;refine jf (N:=29) (T:=[(0,_),(1,_),(2,_)]) func278 rfl ntmps278 rfl rfl hO ?_;refine ak 2 ?_;intro a H;refine gy QT (Li:=[]) (L:=gK b s i p (.slice A lit.length c) (.slice B parts.length d) pl e :: Lt) H wn rfl (by subst oV;exact RG _ Lp Lo _ b s i p _ _ pl e lit parts hR (Hp.owns (Li:=[]) H.hp) hl (by omega)) rfl ?_;clear H;rintro v7 G7 L7 a w ⟨p',v',q',qp,kF,rfl,JG⟩ wL H;dsimp only [List.nil_append] at H;obtain ⟨A7,c7,rfl,-,-⟩:=JG.buf.shape;obtain ⟨B7,d7,rfl,-,-⟩:=JG.prt.shape;refine aD 8 H ?_;clear H;intro a H;refine aqm H wn rfl rfl (by omega) (by omega) rfl ?_;clear H;intro a H;refine AJ _ kE IE H wn rfl rfl rfl ?_;clear H;intro a H;rw [EW (by omega) (by omega)] at H;refine aD 1 H ?_;clear H;intro a H;refine jh abW [_,_,_] H wn rfl rfl rfl rfl ?_;clear H;intro a H;refine gG KZ KV [_,_,_] [_,_,_] H wn rfl rfl rfl rfl rfl (by intro i q h;match i,h with|0,h=>exact h|n+1,h=>simp at h) rfl rfl ?_;clear H;intro b18 a w Np H;have H:=(St.cast H (show _=[_,_]++(qp++kF) from rfl)).perm (List.Perm.append_left _ ug);have H:=St.un H;refine lJ (Li:=[_,_]++kF) (Lo:=qp) (news:=jm.cells ⟨⟨#[]⟩,ch - 48,plain⟩) KZ KV rfl rfl H wn rfl rfl JG.prt rfl (H.hp.bO 0 rfl rfl) rfl (by omega) (by omega) rfl ?_;clear H;intro v19 Wj a w xM H;obtain ⟨FQ,c19,rfl,-,-⟩:=xM.shape;rw [← aat] at xM;have H:=H.assoc.perm (List.Perm.append_left _ ug);dsimp only [lca,bG] at H;refine aD 2 H ?_;clear H;intro a H;refine aX Ve 1 (vs:=[_]) _ H wn rfl rfl rfl rfl rfl rfl rfl rfl ?_;clear H;intro w H;dsimp only [List.set,setRow] at H;refine aD 9 H ?_;clear H;intro a H;refine aX bR 1 (vs:=[_]) _ H wn rfl rfl rfl rfl rfl rfl rfl rfl ?_;clear H;intro w H;dsimp only [List.set,setRow] at H;refine aC ?_;refine (leave0 H results278 ?_).2;exact H.hp.kC (L':=gK b s i _ _ _ (pl+1) e :: (Wj++kF)) (zX _ _) ⟨_,_,_,Wj,kF,rfl,JG.ptr,JG.buf,by simpa using xM⟩
end
section
open Go.RowKit
section
variable {N:Nat} {D:List Deferred} {w0:World} {F:Nat→Prop} {G0 G:GH} {L:OL} {T Xs:List (Nat × aj)}
variable {r:Option Nat} {P:Program} {Q:Exit→Act→World→Prop} {l:List Oper} {a a':Act} {w w':World}
abbrev VG:Type:=Nat × aj × Nat × Bool
def VH (ent:List VG) (S:Nat→Bool) (a:Act):Prop:=∀ e∈ent,S e.2.2.1=e.2.2.2→a.tmps[e.1]?=some e.2.1
theorem VH.at {ent:List VG} {S:Nat→Bool} {a:Act} (h:VH ent S a) (k:Nat) {t:Nat} {v:aj} {j:Nat} {b:Bool} (hk:ent[k]?=some (t,v,j,b)) (hS:S j=b):a.tmps[t]?=some v:=h _ (ko hk) hS
theorem aql {ops:Array Oper} {rest:List Oper} {d:Nat} {ty:TypeId} {pos:String} {aO:Array Edge} {g:Option (Nat × Bool)} {t:TypeId} {x y:Operand} {s:ByteArray} {ky:IntKind} {p:Int} (hi:Nat) (ht:P.underlying t=some .string) (H:St N D w0 F G0 G L T a w) (hw:Region.wanted ⟨some d,.slice t x none (some y) none,ty,pos,aO,g⟩ (yielded ops a.tmps)=true) (hx:ev T x=some (.string s)) (hy:ev T y=some (.int ky p)) (hp:p=(hi:Int)) (h1:hi≤s.size) (hd:Nat.blt d N=true)
  (k:∀ a',St N D w0 F G0 G L ((d,.string (s.extract 0 hi)) :: T) a' w→WL r P ops Q rest a' w):WL r P ops Q (⟨some d,.slice t x none (some y) none,ty,pos,aO,g⟩ :: rest) a w:=by
 subst hp
 have hr:=run_slice_string_h (P:=P) w t s ht ky (hi:Int) (by omega) (by omega)
 rw [Int.toNat_natCast] at hr
 refine fq (v:=.string (s.extract 0 hi)) (w':=w) hw rfl ?_ (k _ (H.put hd _ H.hp))
 simp only [execOp,H.ev hx,uf,Option.map_none,H.ev hy,dS,run_sliceAt_string w t _ _ _ _ ht,hr,lQ,qN]
end
end
section
open Go.RowKit
theorem ahV:∀ args w,(callFunc 281 args).run prog w=.ok (.enter 281 args) w:=enters func281 rfl (by kernel_rfl)
instance Ae:dR prog 340 0 0:=⟨by kernel_rfl⟩
theorem XW:∀ args w,(callFunc 273 args).run prog w=.ok (.enter 273 args) w:=enters func273 rfl (by kernel_rfl)
theorem XY:∀ args w,(callFunc 277 args).run prog w=.ok (.enter 277 args) w:=enters func277 rfl (by kernel_rfl)
theorem XZ:∀ args w,(callFunc 278 args).run prog w=.ok (.enter 278 args) w:=enters func278 rfl (by kernel_rfl)
instance wG:dR prog 340 1 1:=⟨by kernel_rfl⟩
theorem QU:∀ args w,(callFunc 276 args).run prog w=.ok (.enter 276 args) w:=enters func276 rfl (by kernel_rfl)
instance Er:dR prog 340 5 6:=⟨by kernel_rfl⟩
def qP (s p:ByteArray):Bool:=decide (p.size≤s.size) && ((s.extract 0 p.size).toList == p.toList)
theorem akD (G:GH) (w0:World) (hG:Hold G w0) (s p:ByteArray) (hs:s.size≤4611686018427387904) (hp:p.size≤4611686018427387904):Calls prog 281 #[.string s,.string p] w0 (bC w0 G fun u G'=>u=.bool (qP s p)∧G=G'):=by
 refine eN [(0,_),(1,_)] func281 rfl ntmps281 rfl rfl hG ?_;refine jM 10 10 ?_ ?_
 ·intro h10
  try have gX:=dT h10
  refine ak 2 ?_;intro a H;refine DI jE H (wg H rfl rfl h10) rfl rfl ?_;clear H;intro a H;refine aql p.size jE H (wg H rfl rfl h10) rfl rfl rfl (by omega) rfl ?_;clear H;refine ak 1 ?_;intro a H;refine AO H (wg H rfl rfl h10) rfl rfl rfl ?_;clear H;refine aP 3 ?_;exact ⟨dB (by unfold qP;first|(simp_all;done)|(simp_all;omega)),rfl⟩
 intro h10
 try have gX:=dF h10
 refine aP 9 ?_;exact ⟨dB (by unfold qP;first|(simp_all;done)|(simp_all;omega)),rfl⟩
theorem Sl (G:GH) (w0:World) (hG:Hold G w0) (s p:ByteArray) (hs:s.size≤4611686018427387904) (hp:p.size≤4611686018427387904):Calls prog 276 #[.string s,.string p] w0 (bC w0 G fun u G'=>u=.bool (qP s p)∧G=G'):=by
 refine eN [(0,_),(1,_)] func276 rfl ntmps276 rfl rfl hG ?_;refine ak 6 ?_;intro a H;refine s_call ahV H wn rfl (akD _ _ H.ro s p hs hp) rfl ?_;clear H;rintro v7 _ a w ⟨rfl,rfl⟩ - H;refine fu 2 H ?_;exact ⟨rfl,rfl⟩
def uj (s:ByteArray) (k:Nat):Bool:=decide (k < s.size) && decide (49≤fV s k) && decide (fV s k≤57)
theorem Xw (G:GH) (L:OL) (w0:World) (b:Nat) (s:ByteArray) (i:Int) (p v q:aj) (pl e:Int) (k:Nat) (hs:s.size≤4611686018427387904) (hO:fT G (gK b s i p v q pl e :: L) w0) :
  Calls prog 277 #[(aG b 0),vi k] w0 (fI w0 G (gK b s i p v q pl e :: L) fun u G' L'=>u=.bool (uj s k)∧L'=gK b s i p v q pl e :: L∧G'=G):=by
 refine jf (N:=30) (T:=[(0,_),(1,_)]) func277 rfl ntmps277 rfl rfl hO ?_;refine jM 12 12 ?_ ?_
 ·intro h12
  try have pE:=dT h12
  refine ak 1 ?_;intro a H;refine tT H (wg H rfl rfl h12) rfl rfl ?_;clear H;refine ak 3 ?_;intro a H;refine oL k jE H (wg H rfl rfl h12) rfl rfl rfl (by omega) rfl ?_;clear H;intro a H;rw [← kV] at H;refine kJ 3 21 H ?_ ?_ <;> clear H
  ·intro h21
   try have Ce:=dT h21
   refine ak 1 ?_;intro a H;refine tT H (wg H rfl rfl h21) rfl rfl ?_;clear H;refine ak 3 ?_;intro a H;refine oL k jE H (wg H rfl rfl h21) rfl rfl rfl (by omega) rfl ?_;clear H;intro a H;rw [← kV] at H;refine aD 4 H ?_;clear H;intro a H;refine lr H results277 rfl ?_;exact H.hp.dG ⟨dB (by unfold uj;first|(simp_all;done)|(simp_all;omega)),rfl,rfl⟩
  intro h21
  try have Ce:=dF h21
  refine ak 10 ?_;intro a H;refine lr H results277 rfl ?_;exact H.hp.dG ⟨dB (by unfold uj;first|(simp_all;done)|(simp_all;omega)),rfl,rfl⟩
 intro h12
 try have pE:=dF h12
 refine ak 19 ?_;intro a H;refine lr H results277 rfl ?_;exact H.hp.dG ⟨dB (by unfold uj;first|(simp_all;done)|(simp_all;omega)),rfl,rfl⟩
structure tY where
 i:Nat
 lit:List UInt8
 parts:List jm
 pl:Nat
 e:Int
def oK (s:ByteArray) (x:tY):tY :=
 if qP (s.extract x.i s.size) ⟨#[37,37]⟩=true then ⟨x.i+2,x.lit++[37],x.parts,x.pl,x.e⟩
 else if uj s (x.i+1)=true then ⟨x.i+2,[],uq x.lit x.parts++[⟨⟨#[]⟩,fV s (x.i+1) - 48,false⟩],x.pl+1,x.e⟩
 else if qP (s.extract x.i s.size) ⟨#[37,100]⟩=true∧uj s (x.i+2)=true then ⟨x.i+3,[],uq x.lit x.parts++[⟨⟨#[]⟩,fV s (x.i+2) - 48,true⟩],x.pl+1,x.e⟩
 else ⟨x.i,x.lit,x.parts,x.pl,14⟩
abbrev vY (b:Nat) (s:ByteArray) (x:tY) (p v q:aj):Nat × Obj:=gK b s x.i p v q x.pl x.e
theorem Xv {s:ByteArray} {k:Nat} (h:uj s k=true):k < s.size∧49≤fV s k∧fV s k≤57:=by
 simpa [uj,and_assoc] using h
theorem aoK (G:GH) (Lp Lo:OL) (w0:World) (b:Nat) (s:ByteArray) (x:tY) (p v q:aj) (hR:zT b x.lit x.parts p v q Lp Lo) (hO:fT G (vY b s x p v q :: (Lp++Lo)) w0) (hs:s.size≤4294967290) (hi:x.i < s.size) (hl:x.lit.length≤4294967290) (hp:x.parts.length≤4294967290) (hpl:x.pl≤4294967290) :
    Calls prog 272 #[(aG b 0)] w0 (fI w0 G (vY b s x p v q :: (Lp++Lo)) fun u G' L'=>∃ p' v' q' qp kF,L'=vY b s (oK s x) p' v' q' :: (qp++kF)∧zT b (oK s x).lit (oK s x).parts p' v' q' qp kF):=by
  obtain ⟨i,lit,parts,pl,e⟩:=x;dsimp only [vY] at *
  have hex:(s.extract i s.size).size≤4611686018427387904:=by rw [ByteArray.size_extract];omega
  obtain ⟨A,c,rfl,Z6,Z7⟩:=hR.buf.shape;obtain ⟨B,d,rfl,ZI,ZJ⟩:=hR.prt.shape;obtain ⟨Lt,oV⟩:∃ x,x=Lp++Lo:=⟨_,rfl⟩;rw [← oV] at hO ⊢;refine jf (N:=93) (T:=[(0,_)]) func272 rfl ntmps272 rfl rfl hO ?_;refine ak 2 ?_;intro a H;refine dI hmx [[],[0],[0,1],[0,1,2],[],[4],[4,5],[4,5,6],(ra 0 8),(ra 0 9),(ra 0 10)] [] (by kernel_rfl) [_,_,_,.string s,_,_,_,vi i,.string (s.extract i s.size),.bool (qP (s.extract i s.size) ⟨#[37,37]⟩),_] H (aF (Z0 rfl (Rm rfl)) (Z1 0 6 rfl (Rk rfl)) (Z1 1 7 rfl (Rf Ae rfl)) (Z1 2 8 rfl (Ro mh 0 rfl)) (aF (Z0 rfl (Rm rfl)) (Z1 4 10 rfl (Rk rfl)) (Z1 5 11 rfl (Rf wG rfl)) (Z1 6 12 rfl (Ro bR 0 rfl)) (bH ?_ (bH ?_ (bH (Z1 9 15 rfl (Ra rfl)) cO))))) ?_
  · refine dD 3 9 7 13 rfl rfl fun _ a w G1 hG HT H fin=>?_;refine U0 i jE H wn rfl rfl rfl (by omega) rfl ?_;clear H;intro a H;exact fin H iJ rfl
  · refine dZ 8 14 rfl rfl fun _ a w G1 hG HT H fin=>?_;refine s_call QU H wn rfl (Sl _ _ H.ro _ _ hex (by decide)) rfl ?_;clear H;rintro v15 Bg a w ⟨rfl,rfl⟩ Bz H;exact fin H Bz (rfl)
  clear H;intro a w G iN H hv;have H:=H.aN (hv 10 5 rfl rfl) rfl;clear hv;refine t0 1 H ?_;clear H;refine goC 0 ?_ ?_
  · intro h5
    try have p5:=dT h5
    refine ak 4 ?_;intro a H;refine gy XW (Li:=[]) (L:=gK b s i p (.slice A lit.length c) (.slice B parts.length d) pl e :: Lt) H wn rfl (by subst oV;exact acN _ Lp Lo _ b s i p _ B parts.length d pl e lit.length _ 37 hR.ptr (Hp.owns (Li:=[]) H.hp) hR.buf (by omega)) rfl ?_;clear H;rintro v19 _ L19 a w ⟨aua,Eb,rfl,xM,rfl⟩ qF H;dsimp only [List.nil_append] at H;obtain ⟨FQ,c19,rfl,-,-⟩:=xM.shape;refine aD 9 H ?_;clear H;intro a H;refine aX bR 0 (vs:=[_]) _ H wn rfl rfl rfl rfl rfl rfl rfl rfl ?_;clear H;intro w H;dsimp only [List.set,setRow] at H;refine aC ?_;refine (leave0 H results272 ?_).2;exact H.hp.dG ⟨_,_,_,Lp,Eb,by rw [oK,av h5];rfl,by rw [oK,av h5];exact ⟨.inr rfl,by simpa [Lib.byteCells] using xM,hR.prt⟩⟩
  intro h5
  try have p5:=dF h5
  refine ak 7 ?_;intro a H;rw [show ((i:Int)+1)=((i+1:Nat):Int) from rfl] at H;refine gy XY (Li:=[]) (L:=gK b s i p (.slice A lit.length c) (.slice B parts.length d) pl e :: Lt) H wn rfl (Xw _ Lt _ b s i p _ _ pl e (i+1) (by omega) (Hp.owns (Li:=[]) H.hp)) rfl ?_;clear H;rintro v34 _ L34 a w ⟨rfl,rfl,rfl⟩ Hy H;dsimp only [List.nil_append] at H;refine iR 2 H ?_ ?_ <;> clear H
  · intro h27
    try have p27:=dT h27
    have hd1:=Xv h27;refine ak 1 ?_;intro a H;refine dI hmx [[],[],[1],[1,2],[1,2,3],[],[5],[5,6],[5,6,7],(ra 5 4),(ra 1 9),(ra 0 11)] [11] (by kernel_rfl) [_,_,_,_,.string s,_,_,_,vi i,_,.int .u8 (fV s (i+1))] H (aF (Z0 rfl (Rm rfl)) (Z0 rfl (Rm rfl)) (Z1 1 36 rfl (Rk rfl)) (Z1 2 37 rfl (Rf Ae rfl)) (aF (Z1 3 38 rfl (Ro mh 0 rfl)) (Z0 rfl (Rm rfl)) (Z1 5 40 rfl (Rk rfl)) (Z1 6 41 rfl (Rf wG rfl)) (aF (Z1 7 42 rfl (Ro bR 0 rfl)) (Z1 8 43 rfl (Rd rfl)) ?_ (bQ rfl) cO))) ?_
    · refine dD 4 39 9 44 rfl rfl fun _ a w G1 hG HT H fin=>?_;refine oL (i+1) jE H wn rfl rfl rfl hd1.1 rfl ?_;clear H;intro a H;rw [← kV] at H;exact fin H iJ rfl
    clear H;intro a w G kS H hv;have H:=H.aN (hv 0 35 rfl rfl) rfl;have H:=H.aN (hv 10 45 rfl rfl) rfl;clear hv;refine gy XZ (Li:=[]) (L:=gK b s i p (.slice A lit.length c) (.slice B parts.length d) pl e :: Lt) H wn rfl (by subst oV;exact abd _ Lp Lo _ b s i p _ _ pl e lit parts (fV s (i+1)) false hR (Hp.owns (Li:=[]) H.hp) (by omega) (by omega) hd1.2 (by omega)) rfl ?_;clear H;rintro v46 VR L46 a w ⟨p46,arU,q46,IZ,IY,rfl,BF⟩ Zm H;dsimp only [List.nil_append] at H;obtain ⟨A46,c46,rfl,-,-⟩:=BF.buf.shape;obtain ⟨B46,d46,rfl,-,-⟩:=BF.prt.shape;refine aC ⟨rfl,?_⟩;refine dQ ?_;refine fM 8 H ?_;clear H;intro a H;refine aX bR 0 (vs:=[_]) _ H wn rfl rfl rfl rfl rfl rfl rfl rfl ?_;clear H;intro w H;dsimp only [List.set,setRow] at H;refine aC ?_;refine (leave0 H results272 ?_).2;exact H.hp.dG ⟨_,_,_,IZ,IY,by rw [oK,ah (by simp [h5]),av h27];rfl,by rw [oK,ah (by simp [h5]),av h27];exact BF⟩
  intro h27
  try have p27:=dF h27
  refine ak 1 ?_
  intro a H;by_cases c1:qP (s.extract i s.size) ⟨#[37,100]⟩=true
  · refine dI hmx [[],[0],[0,1],[0,1,2],[],[4],[4,5],[4,5,6],(ra 0 8),(ra 0 9),(ra 0 10),(ra 0 11),(ra 0 11),(ra 0 11++[12]),(ra 0 11++[12,13]),(ra 0 11++[12,13,14]),(ra 0 11++ra 12 4),(ra 0 17),(ra 0 18),(ra 0 19)] [] (by kernel_rfl) [_,_,_,.string s,_,_,_,vi i,.string (s.extract i s.size),.bool (qP (s.extract i s.size) ⟨#[37,100]⟩),.bool (decide (qP (s.extract i s.size) ⟨#[37,100]⟩=true)),_,_,(aG b 0),_,vi i,vi ((i+2:Nat):Int),.bool (uj s (i+2)),_,_] H (aF (Z0 rfl (Rm rfl)) (Z1 0 55 rfl (Rk rfl)) (Z1 1 56 rfl (Rf Ae rfl)) (Z1 2 57 rfl (Ro mh 0 rfl)) (aF (Z0 rfl (Rm rfl)) (Z1 4 59 rfl (Rk rfl)) (Z1 5 60 rfl (Rf wG rfl)) (Z1 6 61 rfl (Ro bR 0 rfl)) (aF ?_ ?_ ?_ (Z1 10 65 rfl (YM (aK c1) rfl)) (aF (Z1 10 65 rfl (YM (aK c1) rfl)) ?_ (Z2 13 68 10 65 rfl (YF wG (aK c1) rfl)) (Z2 14 69 10 65 rfl (YO bR 0 (aK c1) rfl)) (aF ?_ ?_ (Z2 10 65 17 72 rfl (Pt (aK c1) rfl)) (Z1 18 73 rfl (Ra rfl)) cO))))) ?_
    · refine dD 3 58 7 62 rfl rfl fun _ a w G1 hG HT H fin=>?_;refine U0 i jE H wn rfl rfl rfl (by omega) rfl ?_;clear H;intro a H;exact fin H iJ rfl
    · refine dZ 8 63 rfl rfl fun _ a w G1 hG HT H fin=>?_;refine s_call QU H wn rfl (Sl _ _ H.ro _ _ hex (by decide)) rfl ?_;clear H;rintro v64 G64 a w ⟨rfl,rfl⟩ R6 H;exact fin H R6 (rfl)
    · refine dZ 9 64 rfl rfl fun _ a w G1 hG HT H fin=>?_;refine aD 1 H ?_;clear H;intro a H;exact fin H iJ (by show _=_;simp)
    · refine dD 12 67 10 65 rfl rfl fun _ a w G1 hG HT H fin=>?_;refine tT H (wg H rfl rfl (aK c1)) rfl rfl ?_;clear H;intro a H;exact fin H iJ rfl
    · refine dD 15 70 10 65 rfl rfl fun _ a w G1 hG HT H fin=>?_;refine KO _ H (wg H rfl rfl (aK c1)) rfl rfl rfl (by omega) (by omega) rfl ?_;clear H;intro a H;exact fin H iJ rfl
    · refine xA 11 66 16 71 10 65 rfl rfl fun _ a w G1 hG HT H fin=>?_;refine gy XY (Li:=[]) (L:=gK b s i p (.slice A lit.length c) (.slice B parts.length d) pl e :: Lt) H (wg H rfl rfl (aK c1)) rfl (Xw _ Lt _ b s i p _ _ pl e (i+2) (by omega) (Hp.owns (Li:=[]) H.hp)) rfl ?_;clear H;rintro v72 G72 L72 a w ⟨rfl,rfl,rfl⟩ akp H;dsimp only [List.nil_append] at H;exact fin H akp (rfl)
    clear H;intro a w G Hf H hv;have H:=H.aN (hv 19 54 rfl rfl) rfl;clear hv;refine t0 1 H ?_;clear H;refine goC 0 ?_ ?_
    · intro tq
      try have p54:=dT tq
      have hd2:=Xv tq;refine ak 1 ?_;intro a H;refine dI hmx [[],[],[1],[1,2],[1,2,3],[],[5],[5,6],[5,6,7],(ra 5 4),(ra 1 9),(ra 0 11)] [11] (by kernel_rfl) [_,_,_,_,.string s,_,_,_,vi i,_,.int .u8 (fV s (i+2))] H (aF (Z0 rfl (Rm rfl)) (Z0 rfl (Rm rfl)) (Z1 1 75 rfl (Rk rfl)) (Z1 2 76 rfl (Rf Ae rfl)) (aF (Z1 3 77 rfl (Ro mh 0 rfl)) (Z0 rfl (Rm rfl)) (Z1 5 79 rfl (Rk rfl)) (Z1 6 80 rfl (Rf wG rfl)) (aF (Z1 7 81 rfl (Ro bR 0 rfl)) (Z1 8 82 rfl (Rd rfl)) ?_ (bQ rfl) cO))) ?_
      · refine dD 4 78 9 83 rfl rfl fun _ a w G1 hG HT H fin=>?_;refine oL (i+2) jE H wn rfl rfl rfl hd2.1 rfl ?_;clear H;intro a H;rw [← kV] at H;exact fin H iJ rfl
      clear H;intro a w G nL H hv;have H:=H.aN (hv 0 74 rfl rfl) rfl;have H:=H.aN (hv 10 84 rfl rfl) rfl;clear hv;refine gy XZ (Li:=[]) (L:=gK b s i p (.slice A lit.length c) (.slice B parts.length d) pl e :: Lt) H wn rfl (by subst oV;exact abd _ Lp Lo _ b s i p _ _ pl e lit parts (fV s (i+2)) true hR (Hp.owns (Li:=[]) H.hp) (by omega) (by omega) hd2.2 (by omega)) rfl ?_;clear H;rintro v85 G85 L85 a w ⟨p46,arU,q46,IZ,IY,rfl,BF⟩ atA H;dsimp only [List.nil_append] at H;obtain ⟨A46,c46,rfl,-,-⟩:=BF.buf.shape;obtain ⟨B46,d46,rfl,-,-⟩:=BF.prt.shape;refine aC ⟨rfl,?_⟩;refine dQ ?_;refine fM 8 H ?_;clear H;intro a H;refine aX bR 0 (vs:=[_]) _ H wn rfl rfl rfl rfl rfl rfl rfl rfl ?_;clear H;intro w H;dsimp only [List.set,setRow] at H;refine aC ?_;refine (leave0 H results272 ?_).2
      have vN:¬ qP (s.extract i s.size) ⟨#[37,37]⟩=true:=by simp [h5]
      have vM:¬ uj s (i+1)=true:=by simp [h27]
      first
        | exact H.hp.dG ⟨_,_,_,IZ,IY,by rw [oK,ah vN,ah vM,av ⟨c1,tq⟩];rfl,by rw [oK,ah vN,ah vM,av ⟨c1,tq⟩];exact BF⟩
        | (have Di:¬ (qP (s.extract i s.size) ⟨#[37,100]⟩=true∧uj s (i+2)=true):=by simp_all
           exact H.hp.dG ⟨_,_,_,Lp,Lo,by rw [oK,ah vN,ah vM,ah Di,oV],by rw [oK,ah vN,ah vM,ah Di];exact hR⟩)
    intro tq
    try have p54:=dF tq
    refine ak 4 ?_;intro a H;refine aX iw 0 (vs:=[_]) _ H wn rfl rfl rfl rfl rfl rfl rfl rfl ?_;clear H;intro w H;dsimp only [List.set,setRow] at H;refine aC ?_;refine (leave0 H results272 ?_).2
    have vN:¬ qP (s.extract i s.size) ⟨#[37,37]⟩=true:=by simp [h5]
    have vM:¬ uj s (i+1)=true:=by simp [h27]
    first
      | exact H.hp.dG ⟨_,_,_,IZ,IY,by rw [oK,ah vN,ah vM,av ⟨c1,tq⟩];rfl,by rw [oK,ah vN,ah vM,av ⟨c1,tq⟩];exact BF⟩
      | (have Di:¬ (qP (s.extract i s.size) ⟨#[37,100]⟩=true∧uj s (i+2)=true):=by simp_all
         exact H.hp.dG ⟨_,_,_,Lp,Lo,by rw [oK,ah vN,ah vM,ah Di,oV],by rw [oK,ah vN,ah vM,ah Di];exact hR⟩)
  refine dI hmx [[],[0],[0,1],[0,1,2],[],[4],[4,5],[4,5,6],(ra 0 8),(ra 0 9),(ra 0 10),(ra 0 11),(ra 0 11),(ra 0 11++[12]),(ra 0 11++[12,13]),(ra 0 11++[12,13,14]),(ra 0 11++ra 12 4),(ra 0 17),(ra 0 18),(ra 0 19)] [] (by kernel_rfl) [_,_,_,.string s,_,_,_,vi i,.string (s.extract i s.size),.bool (qP (s.extract i s.size) ⟨#[37,100]⟩),.bool (decide (qP (s.extract i s.size) ⟨#[37,100]⟩=true)),undef,undef,undef,undef,undef,undef,undef,_,_] H (aF (Z0 rfl (Rm rfl)) (Z1 0 55 rfl (Rk rfl)) (Z1 1 56 rfl (Rf Ae rfl)) (Z1 2 57 rfl (Ro mh 0 rfl)) (aF (Z0 rfl (Rm rfl)) (Z1 4 59 rfl (Rk rfl)) (Z1 5 60 rfl (Rf wG rfl)) (Z1 6 61 rfl (Ro bR 0 rfl)) (aF ?_ ?_ ?_ (aY 10 (bD c1) rfl rfl) (aF (aY 10 (bD c1) rfl rfl) (aY 10 (bD c1) rfl rfl) (aY 10 (bD c1) rfl rfl) (aY 10 (bD c1) rfl rfl) (aF (aY 10 (bD c1) rfl rfl) (aY 10 (bD c1) rfl rfl) (Z2 10 65 17 72 rfl (Pf (bD c1) rfl)) (Z1 18 73 rfl (Ra rfl)) cO))))) ?_
  · refine dD 3 58 7 62 rfl rfl fun _ a w G1 hG HT H fin=>?_;refine U0 i jE H wn rfl rfl rfl (by omega) rfl ?_;clear H;intro a H;exact fin H iJ rfl
  · refine dZ 8 63 rfl rfl fun _ a w G1 hG HT H fin=>?_;refine s_call QU H wn rfl (Sl _ _ H.ro _ _ hex (by decide)) rfl ?_;clear H;rintro v64 G64 a w ⟨rfl,rfl⟩ R6 H;exact fin H R6 (rfl)
  · refine dZ 9 64 rfl rfl fun _ a w G1 hG HT H fin=>?_;refine aD 1 H ?_;clear H;intro a H;exact fin H iJ (by show _=_;simp)
  clear H;intro a w G Hf H hv;have H:=H.aN (hv 19 54 rfl rfl) rfl;clear hv;refine t0 6 H ?_;clear H;intro a H;refine aX iw 0 (vs:=[_]) _ H wn rfl rfl rfl rfl rfl rfl rfl rfl ?_;clear H;intro w H;dsimp only [List.set,setRow] at H;refine aC ?_;refine (leave0 H results272 ?_).2
  have vN:¬ qP (s.extract i s.size) ⟨#[37,37]⟩=true:=by simp [h5]
  have vM:¬ uj s (i+1)=true:=by simp [h27]
  first
    | exact H.hp.dG ⟨_,_,_,IZ,IY,by rw [oK,ah vN,ah vM,av ⟨c1,tq⟩];rfl,by rw [oK,ah vN,ah vM,av ⟨c1,tq⟩];exact BF⟩
    | (have Di:¬ (qP (s.extract i s.size) ⟨#[37,100]⟩=true∧uj s (i+2)=true):=by simp_all
       exact H.hp.dG ⟨_,_,_,Lp,Lo,by rw [oK,ah vN,ah vM,ah Di,oV],by rw [oK,ah vN,ah vM,ah Di];exact hR⟩)
end
section
open Go.RowKit
theorem ahS:∀ args w,(callFunc 272 args).run prog w=.ok (.enter 272 args) w:=enters func272 rfl (by kernel_rfl)
def Ms (s:ByteArray) (i:Nat):UInt8:=if h:i < s.size then s[i] else 0
theorem adL (s:ByteArray) (i:Nat):fV s i=((Ms s i).toNat:Int):=by
 unfold fV Ms;split <;> rfl
def om (s:ByteArray) (x:tY):tY:=if fV s x.i=37 then oK s x else ⟨x.i+1,x.lit++[Ms s x.i],x.parts,x.pl,x.e⟩
def Ck (s:ByteArray):Nat→tY→tY
 | 0,x=>x
 | f+1,x=>if x.i < s.size∧x.e=0 then Ck s f (om s x) else x
def mS (s:ByteArray) (x:tY):Nat:=if x.e=0 then s.size - x.i else 0
theorem abM {s:ByteArray} {f:Nat} {x:tY} (h:¬ (x.i < s.size∧x.e=0)):Ck s f x=x:=by
 cases f with
 | zero=>rfl
 | succ f=>rw [Ck,ah h]
theorem ajL (lit:List UInt8) (parts:List jm):(uq lit parts).length≤parts.length+1:=by unfold uq;split <;> simp
theorem ace (s:ByteArray) (x:tY) (h:x.i < s.size∧x.e=0) (h1:x.lit.length≤x.i) (h2:x.parts.length≤2*x.i) (h3:x.pl≤x.i) :
  (om s x).i≤x.i+3∧(om s x).lit.length≤(om s x).i∧(om s x).parts.length≤2*(om s x).i∧(om s x).pl≤(om s x).i∧mS s (om s x) < mS s x∧mS s x≤s.size:=by
 have hf:=ajL x.lit x.parts;have hm:mS s x=s.size - x.i:=av h.2
 unfold om oK
 split
 ·split
  ·refine ⟨?_,?_,?_,?_,?_,?_⟩ <;> simp only [mS,iA,kr,List.length_nil] at*<;> simp only [h.2,if_true] at*<;> omega
  split
  ·refine ⟨?_,?_,?_,?_,?_,?_⟩ <;> simp only [mS,iA,kr,List.length_nil] at*<;> simp only [h.2,if_true] at*<;> omega
  split
  ·refine ⟨?_,?_,?_,?_,?_,?_⟩ <;> simp only [mS,iA,kr,List.length_nil] at*<;> simp only [h.2,if_true] at*<;> omega
  refine ⟨?_,?_,?_,?_,?_,?_⟩ <;> simp only [mS,iA,kr,List.length_nil] at*<;> simp only [h.2,if_true] at*<;> (try omega) <;> (simp;omega)
 refine ⟨?_,?_,?_,?_,?_,?_⟩ <;> simp only [mS,iA,kr,List.length_nil] at*<;> simp only [h.2,if_true] at*<;> omega
def AQ:tY:=⟨0,[],[],0,0⟩
def kD (s:ByteArray):tY:=Ck s s.size AQ
def tV (x:tY):Int:=if x.e=0∧9 < (x.pl:Int) then 9 else x.e
theorem aqu (G:GH) (Md Mc:OL) (w0:World) (b:Nat) (s:ByteArray) (p0 v0 q0:aj) (hR:zT b [] [] p0 v0 q0 Md Mc) (hO:fT G (vY b s AQ p0 v0 q0 :: (Md++Mc)) w0) (hs:s.size≤1073741824) :
  Calls prog 266 #[(aG b 0)] w0 (fI w0 G (vY b s AQ p0 v0 q0 :: (Md++Mc)) fun u G' L'=>∃ p' v' q' qp kF,L'=gK b s (kD s).i p' v' q' (kD s).pl (tV (kD s)) :: (qp++kF)∧zT b [] (uq (kD s).lit (kD s).parts) p' v' q' qp kF):=by
 obtain ⟨A0,c0,rfl,-,-⟩:=hR.buf.shape;obtain ⟨B0,d0,rfl,-,-⟩:=hR.prt.shape;refine jf (N:=68) (T:=[(0,_)]) func266 rfl ntmps266 rfl rfl hO ?_;intro a H;refine Ab (fun _ K1=>?_);refine Mw ?_;skip;refine eH (ι:=Nat × tY × aj × Option Addr × Nat × Option Addr × Nat × OL × OL × GH) (Tc:=[(0,_)]) (Lc:=[]) (fun gh=>[]) (fun gh=>[vY b s gh.2.1 gh.2.2.1 (.slice gh.2.2.2.1 gh.2.1.lit.length gh.2.2.2.2.1) (.slice gh.2.2.2.2.2.1 gh.2.1.parts.length gh.2.2.2.2.2.2.1)]++(gh.2.2.2.2.2.2.2.1++gh.2.2.2.2.2.2.2.2.1)) (fun gh=>gh.2.2.2.2.2.2.2.2.2) (fun gh=>zT b gh.2.1.lit gh.2.1.parts gh.2.2.1 (.slice gh.2.2.2.1 gh.2.1.lit.length gh.2.2.2.2.1) (.slice gh.2.2.2.2.2.1 gh.2.1.parts.length gh.2.2.2.2.2.2.1) gh.2.2.2.2.2.2.2.1 gh.2.2.2.2.2.2.2.2.1∧Ck s gh.1 gh.2.1=kD s∧mS s gh.2.1≤gh.1∧gh.1≤s.size∧gh.2.1.i≤s.size+3∧gh.2.1.lit.length≤gh.2.1.i∧gh.2.1.parts.length≤2*gh.2.1.i∧gh.2.1.pl≤gh.2.1.i) (fun gh=>gh.1) ((s.size,AQ,p0,A0,c0,B0,d0,Md,Mc,G)) (by exact (H).sub ⟨rfl,bq⟩) ?_ ?_
 ·exact ⟨hR,rfl,by simp [mS,AQ],bP _,by simp [AQ],by simp [AQ],by simp [AQ],by simp [AQ]⟩
 clear H;rintro ⟨k,x,p,vA,vc,qA,qc,Lp,Lo,g⟩ a w hI H;dsimp only at hI H;obtain ⟨hR,hsc,hmk,hks,hxi,hx1,hx2,hx3⟩:=hI;dsimp only [lca,bG] at H;refine Ab (fun _ K2=>?_);refine Ab (fun _ K3=>?_)
 by_cases c0:(x.i:Int) < (s.size:Int)
 ·skip
  by_cases c1:x.e=0
  ·skip;refine dI hmx [[],[0],[0,1],[0,1,2],[],[4],[4,5],[4,5,6],(ra 4 4),(ra 0 9),(ra 0 10),(ra 0 11),(ra 0 12),(ra 0 13),(ra 0 14),(ra 0 15),(ra 0 16)] [] (by kernel_rfl) [_,_,_,vi x.i,_,_,_,.string s,_,_,_,_,(aG b 0),_,vi x.e,_,_] H (aF (Z0 rfl (Rm rfl)) (Z1 0 2 rfl (Rk rfl)) (Z1 1 3 rfl (Rf wG rfl)) (Z1 2 4 rfl (Ro bR 0 rfl)) (aF (Z0 rfl (Rm rfl)) (Z1 4 6 rfl (Rk rfl)) (Z1 5 7 rfl (Rf Ae rfl)) (Z1 6 8 rfl (Ro mh 0 rfl)) (aF (Z1 7 9 rfl (Rv jE rfl)) (Z2 3 5 8 10 rfl (Rc rfl)) (Z1 9 11 rfl (Rm rfl)) (Z1 10 12 rfl (YM (aK c0) rfl)) (aF ?_ (Z2 12 14 10 12 rfl (YF Er (aK c0) rfl)) (Z2 13 15 10 12 rfl (YO iw 0 (aK c0) rfl)) (Z2 14 16 10 12 rfl (YC (aK c0) rfl)) (bH (Z2 10 12 15 17 rfl (Pt (aK c0) rfl)) cO))))) ?_
   ·refine dD 11 13 10 12 rfl rfl fun _ a w G1 hG HT H fin=>?_;refine tT H (wg H rfl rfl (aK c0)) rfl rfl ?_;clear H;intro a H;exact fin H iJ rfl
   clear H;intro a w G YJ H hv;have H:=H.aN (hv 16 18 rfl rfl) rfl;clear hv;refine aC ⟨rfl,?_⟩;refine K3 _ _ ?_;clear K3;refine WO H rfl (aK c1) ?_;refine kP H (Kc K2 (SB (SQ fun _ K4=>SQ fun _ K5=>?_)));clear H K2;intro a H;refine dI hmx [[],[0],[0,1],[0,1,2],[],[4],[4,5],[4,5,6],(ra 0 8),(ra 0 9)] [] (by kernel_rfl) [_,_,_,.string s,_,_,_,vi x.i,.int .u8 (fV s x.i),_] H (aF (Z0 rfl (Rm rfl)) (Z1 0 19 rfl (Rk rfl)) (Z1 1 20 rfl (Rf Ae rfl)) (Z1 2 21 rfl (Ro mh 0 rfl)) (aF (Z0 rfl (Rm rfl)) (Z1 4 23 rfl (Rk rfl)) (Z1 5 24 rfl (Rf wG rfl)) (Z1 6 25 rfl (Ro bR 0 rfl)) (bH ?_ (bH (Z1 8 27 rfl (Rc rfl)) cO)))) ?_
   ·refine dD 3 22 7 26 rfl rfl fun _ a w G1 hG HT H fin=>?_;refine oL x.i jE H wn rfl rfl rfl (by omega) rfl ?_;clear H;intro a H;rw [← kV] at H;exact fin H iJ rfl
   clear H;intro a w G iN H hv;have H:=H.aN (hv 9 28 rfl rfl) rfl;clear hv;refine aC ⟨rfl,?_⟩;refine K5 _ _ ?_;clear K5;refine WM H rfl ?_ ?_
   ·intro vC
    try have p28:=dT vC
    refine kP H (SQ fun _ K6=>SC (Rm rfl ?_));clear H;intro a H;refine gy ahS (Li:=[]) (L:=vY b s x p (.slice vA x.lit.length vc) (.slice qA x.parts.length qc) :: (Lp++Lo)) H wn rfl (aoK _ Lp Lo _ b s x p _ _ hR (Hp.owns (Li:=[]) H.hp) (by omega) (by omega) (by omega) (by omega) (by omega)) rfl ?_;clear H;rintro v30 zQ L30 a w ⟨p',v',q',qp,kF,rfl,Nl⟩ Ao H;dsimp only [List.nil_append] at H;have hst:om s x=oK s x:=av p28;have hok:=ace s x ⟨by omega,c1⟩ hx1 hx2 hx3
    have hkk:k=(k - 1)+1:=by omega
    have Tn:Ck s (k - 1) (om s x)=kD s:=by rw [hkk,Ck,av ⟨by omega,c1⟩] at hsc;exact hsc
    rw [← hst] at H Nl;obtain ⟨A30,c30,rfl,-,-⟩:=Nl.buf.shape;obtain ⟨B30,d30,rfl,-,-⟩:=Nl.prt.shape;refine aC ?_;refine K6 _ _ ?_;clear K6;refine yK ?_;refine cB ((k - 1,om s x,p',A30,c30,B30,d30,qp,kF,zQ)) (by exact (H).sub ⟨rfl,bq⟩) ?_ ?_
    ·(try dsimp only);exact ⟨Nl,Tn,by omega,by omega,by omega,by omega,by omega,by omega⟩
    first|omega|(dsimp only;omega)
   intro vC
   try have p28:=dF vC
   refine jL ?_;refine K4 _ _ ?_;clear K4;refine Ab (fun _ K7=>?_);refine dI hmx [[],[0],[0,1],[],[3],[3,4],[3,4,5],[],[7],[7,8],[7,8,9],(ra 3 8),(ra 0 12)] [12] (by kernel_rfl) [_,_,_,_,_,_,.string s,_,_,_,vi x.i,.int .u8 (fV s x.i)] H (aF (Z0 rfl (Rm rfl)) (Z1 0 31 rfl (Rk rfl)) (Z1 1 32 rfl (Rf ajw rfl)) (Z0 rfl (Rm rfl)) (aF (Z1 3 34 rfl (Rk rfl)) (Z1 4 35 rfl (Rf Ae rfl)) (Z1 5 36 rfl (Ro mh 0 rfl)) (Z0 rfl (Rm rfl)) (aF (Z1 7 38 rfl (Rk rfl)) (Z1 8 39 rfl (Rf wG rfl)) (Z1 9 40 rfl (Ro bR 0 rfl)) ?_ (bH (bQ rfl) cO)))) ?_
   ·refine dD 6 37 10 41 rfl rfl fun _ a w G1 hG HT H fin=>?_;refine oL x.i jE H wn rfl rfl rfl (by omega) rfl ?_;clear H;intro a H;rw [← kV] at H;exact fin H iJ rfl
   clear H;intro a w G tu H hv;have H:=H.aN (hv 2 33 rfl rfl) rfl;have H:=H.aN (hv 11 42 rfl rfl) rfl;clear hv;refine gy XW (Li:=[]) (L:=vY b s x p (.slice vA x.lit.length vc) (.slice qA x.parts.length qc) :: (Lp++Lo)) H wn rfl (acN _ Lp Lo _ b s x.i p _ qA x.parts.length qc x.pl x.e x.lit.length _ (fV s x.i) hR.ptr (Hp.owns (Li:=[]) H.hp) hR.buf (by omega)) rfl ?_;clear H;rintro v43 _ L43 a w ⟨aub,PX,rfl,ZU,rfl⟩ BL H;dsimp only [List.nil_append] at H;obtain ⟨Pz,Qj,rfl,-,-⟩:=ZU.shape;have hst:om s x=⟨x.i+1,x.lit++[Ms s x.i],x.parts,x.pl,x.e⟩:=ah p28;have hok:=ace s x ⟨by omega,c1⟩ hx1 hx2 hx3
   have hkk:k=(k - 1)+1:=by omega
   have Tn:Ck s (k - 1) (om s x)=kD s:=by rw [hkk,Ck,av ⟨by omega,c1⟩] at hsc;exact hsc
   have akA:zT b (om s x).lit (om s x).parts (aG b 2) (.slice Pz (om s x).lit.length Qj) (.slice qA (om s x).parts.length qc) Lp PX:=by
    rw [hst];exact ⟨.inr rfl,by simpa [Lib.byteCells,adL] using ZU,hR.prt⟩
   refine aC ⟨rfl,?_⟩;refine K7 _ _ ?_;clear K7;refine kP H (SC (Rm rfl (Rk rfl (I5 wG bR 0 rfl rfl (Rd rfl (Rk rfl (Rf wG rfl ?_)))))));clear H;intro a H;refine aX bR 0 (vs:=[_]) _ H wn rfl rfl rfl rfl rfl rfl rfl rfl ?_;clear H;intro w H;dsimp only [List.set,setRow] at H;replace H:St _ _ _ _ _ _ (vY b s (om s x) (aG b 2) (.slice Pz (om s x).lit.length Qj) (.slice qA (om s x).parts.length qc) :: (Lp++PX)) _ _ _:=H.cast (by rw [hst];simp [vY,gK]);refine aC ?_;refine cB ((k - 1,om s x,(aG b 2),Pz,Qj,qA,qc,Lp,PX,_)) (by exact (H).sub ⟨rfl,bq⟩) ?_ ?_
   ·(try dsimp only);exact ⟨akA,Tn,by omega,by omega,by omega,by omega,by omega,by omega⟩
   first|omega|(dsimp only;omega)
  skip;refine dI hmx [[],[0],[0,1],[0,1,2],[],[4],[4,5],[4,5,6],(ra 4 4),(ra 0 9),(ra 0 10),(ra 0 11),(ra 0 12),(ra 0 13),(ra 0 14),(ra 0 15),(ra 0 16)] [] (by kernel_rfl) [_,_,_,vi x.i,_,_,_,.string s,_,_,_,_,(aG b 0),_,vi x.e,_,_] H (aF (Z0 rfl (Rm rfl)) (Z1 0 2 rfl (Rk rfl)) (Z1 1 3 rfl (Rf wG rfl)) (Z1 2 4 rfl (Ro bR 0 rfl)) (aF (Z0 rfl (Rm rfl)) (Z1 4 6 rfl (Rk rfl)) (Z1 5 7 rfl (Rf Ae rfl)) (Z1 6 8 rfl (Ro mh 0 rfl)) (aF (Z1 7 9 rfl (Rv jE rfl)) (Z2 3 5 8 10 rfl (Rc rfl)) (Z1 9 11 rfl (Rm rfl)) (Z1 10 12 rfl (YM (aK c0) rfl)) (aF ?_ (Z2 12 14 10 12 rfl (YF Er (aK c0) rfl)) (Z2 13 15 10 12 rfl (YO iw 0 (aK c0) rfl)) (Z2 14 16 10 12 rfl (YC (aK c0) rfl)) (bH (Z2 10 12 15 17 rfl (Pt (aK c0) rfl)) cO))))) ?_
  ·refine dD 11 13 10 12 rfl rfl fun _ a w G1 hG HT H fin=>?_;refine tT H (wg H rfl rfl (aK c0)) rfl rfl ?_;clear H;intro a H;exact fin H iJ rfl
  clear H;intro a w G YJ H hv;have H:=H.aN (hv 16 18 rfl rfl) rfl;clear hv;refine aC ⟨rfl,?_⟩;refine K3 _ _ ?_;clear K3;refine Qk H rfl (bD c1) ?_;refine yK ?_;refine K1 _ _ ?_;clear K1;refine Ab (fun _ K8=>?_)
  have TH:x=kD s:=by
   rw [abM (by first|exact fun h=>c0 (by omega)|exact fun h=>c1 h.2)] at hsc;exact hsc
  subst TH;refine kP H (SC (Rm rfl ?_));clear H;intro a H;refine gy QT (Li:=[]) (L:=vY b s (kD s) p (.slice vA (kD s).lit.length vc) (.slice qA (kD s).parts.length qc) :: (Lp++Lo)) H wn rfl (RG _ Lp Lo _ b s (kD s).i p _ _ (kD s).pl (kD s).e (kD s).lit (kD s).parts hR (Hp.owns (Li:=[]) H.hp) (by omega) (by omega)) rfl ?_;clear H;rintro v52 VU L52 a w ⟨p52,arV,q52,adv,adr,rfl,rH⟩ alH H;dsimp only [List.nil_append] at H;obtain ⟨yC,yI,rfl,-,-⟩:=rH.buf.shape;obtain ⟨B52,d52,rfl,-,-⟩:=rH.prt.shape;refine kH H (Kn K8 (SQ fun _ K9=>SC (Rm rfl (Rk rfl (I5 Er iw 0 rfl rfl (Rc rfl (Rm rfl (Sp 58 rfl ?_ ?_)))))))) <;> clear H K8
  ·intro ny a H
   try have p58:=dT ny
   refine kH H (YM ny rfl ?_);clear H;intro a H;refine tT H (wg H rfl rfl ny) rfl rfl ?_;clear H;intro a H;refine kH H (YF Yj ny rfl (YO bR 0 ny rfl (YC ny rfl (Pt ny rfl (Kn K9 (Cd rfl ?_ ?_)))))) <;> clear H K9
   ·intro h64 a H
    try have p64:=dT h64
    refine kP H (SC (Rm rfl (Rk rfl (Rf Er rfl ?_))));clear H;intro a H;refine aX iw 0 (vs:=[_]) _ H wn rfl rfl rfl rfl rfl rfl rfl rfl ?_;clear H;intro w H;dsimp only [List.set,setRow] at H;refine aC ?_;refine (leave0 H results266 ?_).2
    first
     | exact H.hp.dG ⟨_,_,_,_,_,by rw [tV,av ⟨by assumption,by assumption⟩],rH⟩
     | exact H.hp.dG ⟨_,_,_,_,_,by rw [tV,ah (by first|exact fun h=>p58 h.1|exact fun h=>p64 h.2)],rH⟩
   intro h64 a H
   try have p64:=dF h64
   refine jL ?_;refine (leave0 H results266 ?_).2
   first
    | exact H.hp.dG ⟨_,_,_,_,_,by rw [tV,av ⟨by assumption,by assumption⟩],rH⟩
    | exact H.hp.dG ⟨_,_,_,_,_,by rw [tV,ah (by first|exact fun h=>p58 h.1|exact fun h=>p64 h.2)],rH⟩
  intro ny a H
  try have p58:=dF ny
  refine kH H (lN ny rfl (nU ny rfl (Pf ny rfl (Kn K9 (Cf rfl rfl ?_)))));clear H K9;intro a H;refine jL ?_;refine (leave0 H results266 ?_).2
  first
   | exact H.hp.dG ⟨_,_,_,_,_,by rw [tV,av ⟨by assumption,by assumption⟩],rH⟩
   | exact H.hp.dG ⟨_,_,_,_,_,by rw [tV,ah (by first|exact fun h=>p58 h.1|exact fun h=>p64 h.2)],rH⟩
 skip;refine dI hmx [[],[0],[0,1],[0,1,2],[],[4],[4,5],[4,5,6],(ra 4 4),(ra 0 9),(ra 0 10),(ra 0 11),(ra 0 12),(ra 0 13),(ra 0 14),(ra 0 15),(ra 0 16)] [] (by kernel_rfl) [_,_,_,vi x.i,_,_,_,.string s,_,_,_,undef,undef,undef,undef,undef,_] H (aF (Z0 rfl (Rm rfl)) (Z1 0 2 rfl (Rk rfl)) (Z1 1 3 rfl (Rf wG rfl)) (Z1 2 4 rfl (Ro bR 0 rfl)) (aF (Z0 rfl (Rm rfl)) (Z1 4 6 rfl (Rk rfl)) (Z1 5 7 rfl (Rf Ae rfl)) (Z1 6 8 rfl (Ro mh 0 rfl)) (aF (Z1 7 9 rfl (Rv jE rfl)) (Z2 3 5 8 10 rfl (Rc rfl)) (Z1 9 11 rfl (Rm rfl)) (aY 10 (bD c0) rfl rfl) (aF (aY 10 (bD c0) rfl rfl) (aY 10 (bD c0) rfl rfl) (aY 10 (bD c0) rfl rfl) (aY 10 (bD c0) rfl rfl) (bH (Z2 10 12 15 17 rfl (Pf (bD c0) rfl)) cO))))) ?_
 clear H;intro a w G YJ H hv;have H:=H.aN (hv 16 18 rfl rfl) rfl;clear hv;refine aC ⟨rfl,?_⟩;refine K3 _ _ ?_;clear K3;refine Qk H rfl rfl ?_;refine yK ?_;refine K1 _ _ ?_;clear K1;refine Ab (fun _ yF=>?_)
 have TH:x=kD s:=by
  rw [abM (by first|exact fun h=>c0 (by omega)|exact fun h=>c1 h.2)] at hsc;exact hsc
 subst TH;refine kP H (SC (Rm rfl ?_));clear H;intro a H;refine gy QT (Li:=[]) (L:=vY b s (kD s) p (.slice vA (kD s).lit.length vc) (.slice qA (kD s).parts.length qc) :: (Lp++Lo)) H wn rfl (RG _ Lp Lo _ b s (kD s).i p _ _ (kD s).pl (kD s).e (kD s).lit (kD s).parts hR (Hp.owns (Li:=[]) H.hp) (by omega) (by omega)) rfl ?_;clear H;rintro v52 VU L52 a w ⟨p52,arV,q52,adv,adr,rfl,rH⟩ alH H;dsimp only [List.nil_append] at H;obtain ⟨yC,yI,rfl,-,-⟩:=rH.buf.shape;obtain ⟨B52,d52,rfl,-,-⟩:=rH.prt.shape;refine kH H (Kn yF (SQ fun _ oN=>SC (Rm rfl (Rk rfl (I5 Er iw 0 rfl rfl (Rc rfl (Rm rfl (Sp 58 rfl ?_ ?_)))))))) <;> clear H yF
 ·intro ny a H
  try have p58:=dT ny
  refine kH H (YM ny rfl ?_);clear H;intro a H;refine tT H (wg H rfl rfl ny) rfl rfl ?_;clear H;intro a H;refine kH H (YF Yj ny rfl (YO bR 0 ny rfl (YC ny rfl (Pt ny rfl (Kn oN (Cd rfl ?_ ?_)))))) <;> clear H oN
  ·intro h64 a H
   try have p64:=dT h64
   refine kP H (SC (Rm rfl (Rk rfl (Rf Er rfl ?_))));clear H;intro a H;refine aX iw 0 (vs:=[_]) _ H wn rfl rfl rfl rfl rfl rfl rfl rfl ?_;clear H;intro w H;dsimp only [List.set,setRow] at H;refine aC ?_;refine (leave0 H results266 ?_).2
   first
    | exact H.hp.dG ⟨_,_,_,_,_,by rw [tV,av ⟨by assumption,by assumption⟩],rH⟩
    | exact H.hp.dG ⟨_,_,_,_,_,by rw [tV,ah (by first|exact fun h=>p58 h.1|exact fun h=>p64 h.2)],rH⟩
  intro h64 a H
  try have p64:=dF h64
  refine jL ?_;refine (leave0 H results266 ?_).2
  first
   | exact H.hp.dG ⟨_,_,_,_,_,by rw [tV,av ⟨by assumption,by assumption⟩],rH⟩
   | exact H.hp.dG ⟨_,_,_,_,_,by rw [tV,ah (by first|exact fun h=>p58 h.1|exact fun h=>p64 h.2)],rH⟩
 intro ny a H
 try have p58:=dF ny
 refine kH H (lN ny rfl (nU ny rfl (Pf ny rfl (Kn oN (Cf rfl rfl ?_)))));clear H oN;intro a H;refine jL ?_;refine (leave0 H results266 ?_).2
 first
  | exact H.hp.dG ⟨_,_,_,_,_,by rw [tV,av ⟨by assumption,by assumption⟩],rH⟩
  | exact H.hp.dG ⟨_,_,_,_,_,by rw [tV,ah (by first|exact fun h=>p58 h.1|exact fun h=>p64 h.2)],rH⟩
end
section
open Go.RowKit
def zL (c:Int):List Dat:=[.lf (.int .u8 c)]
theorem acs {G:GH} {c:Int} {cs:List aj} (h:aU G (zL c) cs):cs=[.int .u8 c]:=by
 simp only [zL,aU,au] at h
 obtain ⟨_,_,rfl,⟨rfl,_⟩,rfl⟩:=h
 rfl
def Gn (s:ByteArray):List Int:=s.data.toList.map fun b=>(b.toNat:Int)
theorem adT (G:GH) (l:List Int):bU G 1 (l.map zL) (l.map fun c=>Value.int .u8 c):=by
 refine ⟨l.map fun c=>[.int .u8 c],by induction l with|nil=>rfl|cons x r ih=>simp [ih],by simp,fun j r cs hr hc=>?_⟩
 rw [qM] at hr hc
 obtain ⟨x,hx,rfl⟩:=oO.1 hr
 rw [hx] at hc
 cases hc
 exact ⟨by simp only [zL,aU];exact ⟨_,_,rfl,by simp [au,Value.oneCell'],rfl⟩,rfl⟩
theorem apl {G:GH} {sz b o n cap:Nat} {cur:Array aj} {e:TypeId} {fz:Nat × Nat} {rows:List (List Dat)} (hb:G b=some (.cells cur e fz)) (h:au (fun k=>if k=b then some (.cells cur e (0,0)) else G k) (.sl sz rows) (.slice (some ⟨b,o,none⟩) n cap)) (hr:∀ r∈rows,∃ c,r=zL c):au G (.sl sz rows) (.slice (some ⟨b,o,none⟩) n cap):=by
 simp only [au] at h ⊢
 obtain ⟨A,c,h1,h2,h3,h4⟩:=h
 refine ⟨A,c,h1,h2,h3,fun hn=>?_⟩
 obtain ⟨b',o',e',hrr⟩:=h4 hn
 injection h1 with e1
 subst e1
 injection e' with e2
 injection e2 with e3 e4
 subst e3;subst e4
 refine ⟨_,_,rfl,mq.mk fun k r hk=>?_⟩
 obtain ⟨cs,g1,g2,g3⟩:=hrr.get hk
 refine ⟨cs,g1,fun j u hj=>?_,?_⟩
 ·have:=g2 j u hj
  unfold aI at this ⊢
  simp only [if_true] at this
  rw [hb];exact this
 ·obtain ⟨c,rfl⟩:=hr r (ko hk)
  have:=acs g3
  subst this
  simp only [zL,aU];exact ⟨_,_,rfl,by simp [au,Value.oneCell'],rfl⟩
section
variable {N:Nat} {D:List Deferred} {w0:World} {F:Nat→Prop} {G0 G:GH} {L:OL} {T:List (Nat × aj)}
variable {r:Option Nat} {P:Program} {ops:Array Oper} {Q:Exit→Act→World→Prop} {rest:List Oper} {a:Act} {w:World}
variable {d:Nat} {ty:TypeId} {pos:String} {aO:Array Edge} {g:Option (Nat × Bool)}
theorem arO {w:World} {b o n:Nat} {c:Array aj} {e:TypeId} {fz:Nat × Nat} (h:w.heap[b]?=some (.cells c e fz)) (hn:n≠0):∃ Eu,tZ b (.cells c e Eu) w (w.freeze ⟨b,o,none⟩ n):=by
 unfold World.freeze
 rw [ah hn]
 refine ⟨if fz.1 == fz.2 then (o,o+n) else (min fz.1 o,max fz.2 (o+n)),rfl,rfl,rfl,by simp,?_,fun k hk=>?_⟩
 ·simp [Array.getElem?_modify,h]
 ·simp [Array.getElem?_modify,Ne.symm hk]
theorem apU {t u e:TypeId} {x:Operand} {s:ByteArray} (ht:P.underlying t=some .string) (hu:P.underlying u=some (.slice e)) (he:P.underlying e=some (.int .u8)) (H:St N D w0 F G0 G L T a w) (hw:Region.wanted ⟨some d,.convert t u x,ty,pos,aO,g⟩ (yielded ops a.tmps)=true) (hx:ev T x=some (.string s)) (hz:s.size≤4294967296) (hd:Nat.blt d N=true)
  (k:∀ v G' a' w',(∀ k o,G k=some o→G' k=some o)→au G' (.sl 1 ((Gn s).map zL)) v→St N D w0 F G0 G' L ((d,v) :: T) a' w'→WL r P ops Q rest a' w'):WL r P ops Q (⟨some d,.convert t u x,ty,pos,aO,g⟩ :: rest) a w:=by
 have hc:=Lib.run_convert_string_bytes (P:=P) w t u e s ht hu he
 have hge:=grownCap_ge w s.size 0 e
 have hml:s.size≤maxLen:=by
  have:maxLen=9223372036854775807:=rfl
  omega
 have hgm:=grownCap_le_maxLen w s.size 0 e hml
 have H1:=H.hp.drew.alloc (.cells (Lib.bytesCells w e s) e)
 have hw1:(w.drew.alloc (.cells (Lib.bytesCells w e s) e)).heap[w.drew.heap.size]?=some (.cells (Lib.bytesCells w e s) e (0,0)):=H1.own _ fK
 obtain ⟨fz,hu2⟩:=arO (o:=(Lib.bytesCells w e s).size) (n:=1) hw1 (by decide)
 have H2:=H1.upd (i:=0) rfl hu2
 have H3:St N D w0 F G0 G ((w.heap.size,.cells (Lib.bytesCells w e s) e fz) :: L) ((d,.slice (some ⟨w.heap.size,0,none⟩) s.size (grownCap w s.size 0 e)) :: T) (a.put (some d) (.slice (some ⟨w.heap.size,0,none⟩) s.size (grownCap w s.size 0 e))) (Lib.bytesWorld w e s):=H.put hd _ H2
 obtain ⟨G',hm,hb,H4⟩:=H3.eu
 have hlen:(Gn s).length=s.size:=by rw [Gn,bM,sK];rfl
 have hrep:au G' (.sl 1 ((Gn s).map zL)) (.slice (some ⟨w.heap.size,0,none⟩) s.size (grownCap w s.size 0 e)):=by
  refine apl hb ?_ (fun r hr=>by obtain ⟨c,-,rfl⟩:=List.mem_map.1 hr;exact ⟨c,rfl⟩)
  refine au.eX (cur:=Lib.bytesCells w e s) (e:=e) (n:=s.size) (cap:=grownCap w s.size 0 e) (by simp) (by rw [bM,hlen]) hge hgm ?_ (adT _ _)
  rw [Lib.bytesCells,Array.toList_append,Nat.mul_one,List.take_left' (by rw [Array.toList_map,bM,sK];rfl)]
  simp [Gn]
 have k2:=k _ _ _ _ hm hrep H4
 refine fq (v:=.slice (some ⟨w.heap.size,0,none⟩) s.size (grownCap w s.size 0 e)) (w':=Lib.bytesWorld w e s) hw rfl ?_ k2
 simp only [execOp,H.ev hx,dS,hc,lQ,qN]
theorem aqa {t yt:TypeId} {x y:Operand} {p q:ByteArray} (H:St N D w0 F G0 G L T a w) (hw:Region.wanted ⟨some d,.binOp .lss t x y yt,ty,pos,aO,g⟩ (yielded ops a.tmps)=true) (hx:ev T x=some (.string p)) (hy:ev T y=some (.string q)) (hd:Nat.blt d N=true)
  (k:∀ a',St N D w0 F G0 G L ((d,.bool (Op.bytesLess p.toList q.toList)) :: T) a' w→WL r P ops Q rest a' w):WL r P ops Q (⟨some d,.binOp .lss t x y yt,ty,pos,aO,g⟩ :: rest) a w:=by
 refine fq (v:=.bool (Op.bytesLess p.toList q.toList)) (w':=w) hw rfl ?_ (k _ (H.put hd _ H.hp))
 simp [execOp,H.ev hx,H.ev hy,dS,eqGuard,binOp,Op.stringOp]
end
end
section
open Go.RowKit
theorem ahR:∀ args w,(callFunc 271 args).run prog w=.ok (.enter 271 args) w:=enters func271 rfl (by kernel_rfl)
theorem ahO:∀ args w,(callFunc 266 args).run prog w=.ok (.enter 266 args) w:=enters func266 rfl (by kernel_rfl)
theorem ahM:∀ args w,(callFunc 264 args).run prog w=.ok (.enter 264 args) w:=enters func264 rfl (by kernel_rfl)
theorem arn:pI prog 340 [(0,1),(1,1),(2,2),(4,1),(5,1),(6,1)] [.string ⟨#[]⟩,.int .i64 0,.pointer none,.slice none 0 0,.slice none 0 0,.int .i64 0,.int .i64 0]:=⟨by kernel_rfl,by kernel_rfl⟩
theorem ahP:∀ args w,(callFunc 267 args).run prog w=.ok (.enter 267 args) w:=enters func267 rfl (by kernel_rfl)
instance:dR prog 318 1 1:=⟨by kernel_rfl⟩
theorem ahC:∀ args w,(callFunc 246 args).run prog w=.ok (.enter 246 args) w:=enters func246 rfl (by kernel_rfl)
theorem ahD:∀ args w,(callFunc 247 args).run prog w=.ok (.enter 247 args) w:=enters func247 rfl (by kernel_rfl)
theorem ahN:∀ args w,(callFunc 265 args).run prog w=.ok (.enter 265 args) w:=enters func265 rfl (by kernel_rfl)
theorem ahE:∀ args w,(callFunc 248 args).run prog w=.ok (.enter 248 args) w:=enters func248 rfl (by kernel_rfl)
def Qb (fv:aj) (G:GH) (c:Int) (b:Bool):Prop:=∀ (G1:GH) (w1:World),(∀ b o,G b=some o→G1 b=some o)→Hold G1 w1→qo prog fv [.int .u8 c] w1 (bC w1 G1 fun u G'=>u=.bool b)
theorem amX (G:GH) (w0:World) (hG:Hold G w0) (l:List Int) (p:Int→Bool) (v fv:aj) (hv:au G (.sl 1 (l.map zL)) v) (hf:∀ c∈l,Qb fv G c (p c)) :
  Calls prog 271 #[v,fv] w0 (bC w0 G fun u G'=>u=vi (mJ (l.findIdx? p))):=by
 obtain ⟨A,c,rfl,hc1,hc2,hg⟩:=hv.slice;have hml:maxLen=9223372036854775807:=rfl;rw [bM] at *;refine eN [(0,_),(1,_)] func271 rfl ntmps271 rfl rfl hG ?_;refine ak 10 ?_;intro a H;refine eH (ι:=Nat × GH) (Tc:=[(0,_),(1,_),(7,_)]) (Lc:=[]) (fun gh=>[(8,vi gh.1)]) (fun gh=>[]) (fun gh=>gh.2) (fun gh=>gh.1≤l.length∧(l.take gh.1).findIdx? p=none∧(∀ b o,G b=some o→gh.2 b=some o)) (fun gh=>l.length - gh.1) ((0,G)) sB ?_ ?_
 ·exact ⟨by omega,rfl,fun _ _ h=>h⟩
 clear H;rintro ⟨k,g⟩ a w hI H;dsimp only at hI H;obtain ⟨hk,hno,hgm⟩:=hI;dsimp only [lca,bG] at H;refine dO 4 H ?_ ?_ <;> clear H
 ·intro p9
  have hk2:k < l.length:=by omega
  obtain ⟨b,o,cs,rfl,hcl,hrow,hr⟩:=hg k (zL l[k]) (by simp [hk2]);obtain rfl:=acs hr
  have hcell:aI G b (o+k*1)=some (.int .u8 l[k]):=by simpa using hrow 0 _ rfl
  refine ak 12 ?_;intro a H;refine iC Vf H wn rfl (H.hp.aI (aH hgm hcell)) rfl ?_;clear H;intro a H;refine ji H wn rfl rfl (hf _ (lD hk2) _ _ hgm H.ro) rfl ?_;clear H;rintro v16 nk a w rfl gU H;refine iR 1 H ?_ ?_ <;> clear H
  ·intro h16
   try have p16:=dT h16
   refine aP 4 ?_
   first
    | exact (by rw [rR hk2 hno h16];rfl)
    | exact (by rw [show l.take k=l from fJ (by omega)] at hno;rw [hno];rfl)
  intro h16
  try have p16:=dF h16
  refine ak 4 ?_;intro a H;refine aC ?_;refine cB ((k+1,nk)) sB ?_ ?_
  ·(try dsimp only);exact ⟨by omega,BU hk2 hno h16,fun b o h=>gU b o (hgm b o h)⟩
  first|omega|(dsimp only;omega)
 intro p9
 refine aP 4 ?_
 first
  | exact (by rw [rR hk2 hno h16];rfl)
  | exact (by rw [show l.take k=l from fJ (by omega)] at hno;rw [hno];rfl)
theorem TR (o:Option Nat):decide (0≤mJ o)=o.isSome:=by cases o <;> simp [mJ]
theorem afs (G:GH) (w0:World) (hG:Hold G w0) (l:List Int) (p:Int→Bool) (v fv:aj) (hv:au G (.sl 1 (l.map zL)) v) (hf:∀ c∈l,Qb fv G c (p c)) :
  Calls prog 264 #[v,fv] w0 (bC w0 G fun u G'=>u=.bool (l.findIdx? p).isSome):=by
 obtain ⟨A,c,rfl,hc1,hc2,-⟩:=hv.slice;rw [bM] at *;refine eN [(0,_),(1,_)] func264 rfl ntmps264 rfl rfl hG ?_;refine ak 6 ?_;intro a H;refine s_call ahR H wn rfl (amX _ _ H.ro l p _ _ hv hf) rfl ?_;clear H;rintro v7 G7 a w rfl wL H;refine fu 3 H ?_;exact (dB (TR _))
def Jg (c:Int):Bool:=decide (c < 32) || decide (c=127)
theorem afv (G:GH) (c:Int):Qb (.func (.func 265) #[] #[]) G c (Jg c):=by
 intro G1 w0 hm hG;refine iM (caps:=[]) ahN ?_;refine eN [(0,_)] func265 rfl ntmps265 rfl rfl hG ?_;refine lU 7 5 ?_ ?_
 ·intro p5
  refine aP 5 ?_;exact (dB (by unfold Jg;first|(simp_all;done)|(simp_all;omega)))
 intro p5
 refine aP 5 ?_;exact (dB (by unfold Jg;first|(simp_all;done)|(simp_all;omega)))
def wT (t:ByteArray):Int:=if 64 < t.size then 10 else if qm t=false then 12 else if ((Gn t).findIdx? Jg).isSome=true then 5 else tV (kD t)
def xS (t:ByteArray):List jm:=if wT t=0 then uq (kD t).lit (kD t).parts else []
theorem anA (G:GH) (l:List jm):bU G 3 (l.map jm.dat) (Dt l):=by
 refine ⟨l.map jm.cells,rfl,by simp,fun j r cs hr hc=>?_⟩;rw [qM] at hr hc;obtain ⟨x,hx,rfl⟩:=oO.1 hr;rw [hx] at hc
 cases hc
 exact ⟨aav G x,rfl⟩
theorem aoI (G:GH) (w0:World) (hG:Hold G w0) (t:ByteArray) (ht:t.size < 4611686018427387904) :
  Calls prog 246 #[.string t] w0 (bC w0 G fun u G'=>∃ x,u=.tuple #[x,vi (wT t)]∧au G' (.sl 3 ((xS t).map jm.dat)) x):=by
 refine eN [(0,_)] func246 rfl ntmps246 rfl rfl hG ?_;refine goB 12 ?_ ?_
 ·intro p5
  have he:wT t=10:=by rw [wT,av (by omega)]
  refine ak 4 ?_;intro a H;refine cu ?_;refine (eU H results246 (.cons (aZ H rfl) (.cons (aZ H rfl) .nil)) ?_).1
  first
   | exact H.rt ⟨_,by rw [he0],by rw [xS,av he0];exact hrep⟩
   | exact H.rt ⟨_,by rw [he],by rw [xS,ah (by rw [he];first|decide|assumption)];exact au.iH rfl (by decide)⟩
 intro p5
 refine ak 2 ?_;intro a H;refine s_call Jm H wn rfl (Le _ _ H.ro t ht) rfl ?_;clear H;rintro v11 _ a w ⟨rfl,rfl⟩ - H;refine iR 3 H ?_ ?_ <;> clear H
 ·intro h9
  try have p9:=dT h9
  have he:wT t=12:=by rw [wT,ah (by omega),av (by simpa using h9)]
  refine ak 4 ?_;intro a H;refine cu ?_;refine (eU H results246 (.cons (aZ H rfl) (.cons (aZ H rfl) .nil)) ?_).1
  first
   | exact H.rt ⟨_,by rw [he0],by rw [xS,av he0];exact hrep⟩
   | exact H.rt ⟨_,by rw [he],by rw [xS,ah (by rw [he];first|decide|assumption)];exact au.iH rfl (by decide)⟩
 intro h9
 try have p9:=dF h9
 refine ak 2 ?_;intro a H;refine apU jE KY IE H wn rfl (by omega) rfl ?_;clear H;intro v15 Bg a w ze Z5 H;obtain ⟨VB,c15,rfl,-,-,-⟩:=Z5.slice;refine s_call ahM H wn rfl (afs _ _ H.ro _ Jg _ _ Z5 (fun c _=>afv _ c)) rfl ?_;clear H;rintro v16 nk a w rfl gU H;refine iR 2 H ?_ ?_ <;> clear H
 ·intro mU
  try have oJ:=dT mU
  have he:wT t=5:=by rw [wT,ah (by omega),ah (by simpa using h9),av mU]
  refine ak 4 ?_;intro a H;refine cu ?_;refine (eU H results246 (.cons (aZ H rfl) (.cons (aZ H rfl) .nil)) ?_).1
  first
   | exact H.rt ⟨_,by rw [he0],by rw [xS,av he0];exact hrep⟩
   | exact H.rt ⟨_,by rw [he],by rw [xS,ah (by rw [he];first|decide|assumption)];exact au.iH rfl (by decide)⟩
 intro mU
 try have oJ:=dF mU
 refine ak 3 ?_;intro a H;refine jh arn [_,_,_,_,_,_,_] H wn rfl rfl rfl rfl ?_;clear H;intro a H;refine dP (cs:=[_,_,_,_,_,_,_]) H wn rfl rfl rfl ?_;clear H;intro b19 a w akH H;refine aD 5 H ?_;clear H;intro a H;refine gy ahO (Li:=[]) (L:=[vY b19 t AQ (.pointer none) (.slice none 0 0) (.slice none 0 0)]) H wn rfl (aqu _ [] [] _ b19 t _ _ _ ⟨.inl rfl,bV.nil,bV.nil⟩ (Hp.owns (Li:=[]) H.hp) (by omega)) rfl ?_;clear H;rintro v21 PE L21 a w ⟨p',v',q',qp,kF,rfl,Si⟩ Am H;dsimp only [List.nil_append] at H;obtain ⟨A21,c21,rfl,-,-⟩:=Si.buf.shape;obtain ⟨B21,d21,rfl,-,-⟩:=Si.prt.shape;refine aC ?_;refine dQ ?_
 have he:wT t=tV (kD t):=by rw [wT,ah (by omega),ah (by simpa using h9),ah (by simp [mU])]
 refine dO 7 H ?_ ?_ <;> clear H
 ·intro p26
  refine ak 1 ?_;intro a H;have H:=H.sub (T':=[(4,_)]) ⟨rfl,bq⟩;refine dI hmx [[],[0],[0,1],[0,1,2],[],(ra 0 5)] [] (by kernel_rfl) [_,_,_,vi (tV (kD t)),_,_] H (aF (Z0 rfl (Rm rfl)) (Z1 0 27 rfl (Rk rfl)) (Z1 1 28 rfl (Rf Er rfl)) (Z1 2 29 rfl (Ro iw 0 rfl)) (bH (Z0 rfl (Ra rfl)) (bH (Z1 3 30 rfl (Ra rfl)) cO))) ?_
  clear H;intro a w G pW H hv;have H:=H.aN (hv 4 2 rfl rfl) rfl;have H:=H.aN (hv 5 3 rfl rfl) rfl;clear hv;refine t0 1 H ?_;clear H;intro a H;refine cu ?_;refine (eU H results246 (.cons (aZ H rfl) (.cons (aZ H rfl) .nil)) ?_).1
  first
   | exact H.rt ⟨_,by rw [he0],by rw [xS,av he0];exact hrep⟩
   | exact H.rt ⟨_,by rw [he],by rw [xS,ah (by rw [he];first|decide|assumption)];exact au.iH rfl (by decide)⟩
 intro p26
 refine ak 1 ?_
 have he0:wT t=0:=by rw [he];omega
 intro a H;have H:=(St.cast H (show _=[_]++(qp++kF) from rfl)).perm (List.Perm.append_left _ ug);have H:=St.un H;obtain ⟨Gr,hmr,hrep,H⟩:=St.mR (Li:=[_]++kF) (Lo:=qp) H Si.prt (rows:=(uq (kD t).lit (kD t).parts).map jm.dat) (by simp) (anA _ _);dsimp only [lca,bG] at H;refine fM 8 H ?_;clear H;intro a H;refine cu ?_;refine (eU H results246 (.cons (aZ H rfl) (.cons (aZ H rfl) .nil)) ?_).1
 first
  | exact H.rt ⟨_,by rw [he0],by rw [xS,av he0];exact hrep⟩
  | exact H.rt ⟨_,by rw [he],by rw [xS,ah (by rw [he];first|decide|assumption)];exact au.iH rfl (by decide)⟩
structure iX where
 fmt:Int
 start:Int
 wV:ByteArray
 restart:Int
def iX.dat (x:iX):List Dat:=[li x.fmt,li x.start,.lf (.string x.wV),li x.restart]
abbrev iX.cells (x:iX):List aj:=[vi x.fmt,vi x.start,.string x.wV,vi x.restart]
theorem Ud {G:GH} {x:iX} {cs:List aj} (h:aU G x.dat cs):cs=x.cells:=by
 simp only [iX.dat,aU,au] at h
 obtain ⟨_,_,rfl,⟨rfl,_⟩,_,_,rfl,⟨rfl,_⟩,_,_,rfl,⟨rfl,_⟩,_,_,rfl,⟨rfl,_⟩,rfl⟩:=h
 rfl
theorem amV (G:GH) (w0:World) (hG:Hold G w0) (l:List jm) (p:jm→Bool) (v fv:aj) (hv:au G (.sl 3 (l.map jm.dat)) v) (hf:∀ x∈l,qY fv G x.dat (p x)) :
  Calls prog 267 #[v,fv] w0 (bC w0 G fun u G'=>u=vi (mJ (l.findIdx? p))):=by
 obtain ⟨A,c,rfl,hc1,hc2,hg⟩:=hv.slice;have hml:maxLen=9223372036854775807:=rfl;rw [bM] at *;refine eN [(0,_),(1,_)] func267 rfl ntmps267 rfl rfl hG ?_;refine ak 10 ?_;intro a H;refine eH (ι:=Nat × GH) (Tc:=[(0,_),(1,_),(7,_)]) (Lc:=[]) (fun gh=>[(8,vi gh.1)]) (fun gh=>[]) (fun gh=>gh.2) (fun gh=>gh.1≤l.length∧(l.take gh.1).findIdx? p=none∧(∀ b o,G b=some o→gh.2 b=some o)) (fun gh=>l.length - gh.1) ((0,G)) sB ?_ ?_
 ·exact ⟨by omega,rfl,fun _ _ h=>h⟩
 clear H;rintro ⟨k,g⟩ a w hI H;dsimp only at hI H;obtain ⟨hk,hno,hgm⟩:=hI;dsimp only [lca,bG] at H;refine dO 4 H ?_ ?_ <;> clear H
 ·intro p9
  have hk2:k < l.length:=by omega
  obtain ⟨b,o,cs,rfl,hcl,hrow,hr⟩:=hg k l[k].dat (by simp [hk2]);obtain rfl:=aau hr;refine ak 12 ?_;intro a H;refine aR KV (cs:=l[k].cells) H wn rfl rfl (fun j v hj=>H.hp.aI (aH hgm (hrow j v hj))) rfl ?_;clear H;intro a H;refine ji H wn rfl rfl (hf _ (lD hk2) _ _ _ hgm H.ro (aav _ l[k])) rfl ?_;clear H;rintro v16 nk a w rfl gU H;refine iR 1 H ?_ ?_ <;> clear H
  ·intro h16
   try have p16:=dT h16
   refine aP 4 ?_
   first
    | exact (by rw [rR hk2 hno h16];rfl)
    | exact (by rw [show l.take k=l from fJ (by omega)] at hno;rw [hno];rfl)
  intro h16
  try have p16:=dF h16
  refine ak 4 ?_;intro a H;refine aC ?_;refine cB ((k+1,nk)) sB ?_ ?_
  ·(try dsimp only);exact ⟨by omega,BU hk2 hno h16,fun b o h=>gU b o (hgm b o h)⟩
  first|omega|(dsimp only;omega)
 intro p9
 refine aP 4 ?_
 first
  | exact (by rw [rR hk2 hno h16];rfl)
  | exact (by rw [show l.take k=l from fJ (by omega)] at hno;rw [hno];rfl)
theorem afr (G:GH) (w0:World) (hG:Hold G w0) (l:List jm) (p:jm→Bool) (v fv:aj) (hv:au G (.sl 3 (l.map jm.dat)) v) (hf:∀ x∈l,qY fv G x.dat (p x)) :
  Calls prog 247 #[v,fv] w0 (bC w0 G fun u G'=>u=.bool (l.findIdx? p).isSome):=by
 obtain ⟨A,c,rfl,hc1,hc2,-⟩:=hv.slice;rw [bM] at *;refine eN [(0,_),(1,_)] func247 rfl ntmps247 rfl rfl hG ?_;refine ak 6 ?_;intro a H;refine s_call ahP H wn rfl (amV _ _ H.ro l p _ _ hv hf) rfl ?_;clear H;rintro v7 G7 a w rfl wL H;refine fu 3 H ?_;exact (dB (TR _))
theorem anC {G:GH} {bl:Nat} {k:Int} (hb:aI G bl 0=some (vi k)) (x:jm):qY (.func (.func 248) #[] #[(aG bl 0)]) G x.dat (decide (k < x.level)):=by
 intro G1 w0 cs hm hG hr;refine iM (caps:=[(aG bl 0)]) ahE ?_;obtain rfl:=aau hr;replace hb:=aH hm hb;refine eN [(0,_),(1,_)] func248 rfl ntmps248 rfl rfl hG ?_;refine ak 1 ?_;intro a H;refine dP (cs:=[_,_,_]) H wn rfl rfl rfl ?_;clear H;intro b2 a w hb2 H;refine fu 9 H ?_;exact rfl
def Aw (t:ByteArray) (k:Int):Int:=if k < 1∨9 < k then 2 else if wT t=0∧((xS t).findIdx? fun x=>decide (k < x.level)).isSome=true then 6 else wT t
theorem anB (G:GH) (w0:World) (hG:Hold G w0) (t:ByteArray) (k:Int) (ht:t.size < 4611686018427387904) :
  Calls prog 223 #[.string t,vi k] w0 (bC w0 G fun u G'=>u=vi (Aw t k)):=by
 refine eN [(0,_),(1,_)] func223 rfl ntmps223 rfl rfl hG ?_;refine ak 1 ?_;intro a H;refine dP (cs:=[_]) H wn rfl rfl rfl ?_;clear H;intro b3 a w hb3 H;refine pU 7 9 H ?_ ?_ <;> clear H
 ·intro p9
  refine aP 8 ?_;exact (aB vi (by unfold Aw;(repeat' split) <;> first|rfl|(exfalso;simp_all;done)|(exfalso;simp_all;omega)|(simp_all;done)))
 intro p9
 refine goB 4 ?_ ?_
 ·intro pE
  refine aP 3 ?_;exact (aB vi (by unfold Aw;(repeat' split) <;> first|rfl|(exfalso;simp_all;done)|(exfalso;simp_all;omega)|(simp_all;done)))
 intro pE
 refine ak 1 ?_;intro a H;obtain ⟨Ga,hma,rJ,H⟩:=H.eu
 have hbk:aI Ga b3 0=some (vi k):=by unfold aI;rw [rJ];rfl
 refine fM 2 H ?_;clear H;intro a H;refine s_call ahC H wn rfl (aoI _ _ H.ro t ht) rfl ?_;clear H;rintro v15 Bg a w ⟨x15,rfl,Z8⟩ ze H;obtain ⟨VB,c15,rfl,-,-,-⟩:=Z8.slice;replace hbk:=aH ze hbk;refine aD 1 H ?_;clear H;intro a H;(iterate 2 refine jY H wn rfl rfl rfl ?_;clear H;intro a H);refine kJ 8 20 H ?_ ?_ <;> clear H
 ·intro h20
  try have Fp:=dT h20
  refine ak 1 ?_;intro a H;refine nQ H (wg H rfl rfl h20) rfl rfl ?_;clear H;intro a H;refine s_call ahD H (wg H rfl rfl h20) rfl (afr _ _ H.ro _ (fun x=>decide (k < x.level)) _ _ Z8 (fun x _=>anC hbk x)) rfl ?_;clear H;rintro v23 VL a w rfl Db H;refine gF 2 H ?_ ?_ <;> clear H
  ·intro jq
   refine aP 7 ?_;exact (aB vi (by unfold Aw;(repeat' split) <;> first|rfl|(exfalso;simp_all;done)|(exfalso;simp_all;omega)|(simp_all;done)))
  intro jq
  refine aP 5 ?_;exact (aB vi (by unfold Aw;(repeat' split) <;> first|rfl|(exfalso;simp_all;done)|(exfalso;simp_all;omega)|(simp_all;done)))
 intro h20
 try have Fp:=dF h20
 refine aP 11 ?_;exact (aB vi (by unfold Aw;(repeat' split) <;> first|rfl|(exfalso;simp_all;done)|(exfalso;simp_all;omega)|(simp_all;done)))
end
section
open Go.RowKit
instance AY:Ty prog 96 4 40 [.int .i64 0,.int .i64 0,.string ⟨#[]⟩,.int .i64 0] true:=⟨by kernel_rfl,by kernel_rfl⟩
theorem FK:prog.underlying 91=some (.slice 96):=by kernel_rfl
instance:jZ prog 91 (.slice 96):=⟨FK⟩
instance:dR prog 96 0 0:=⟨by kernel_rfl⟩
instance:dR prog 96 1 1:=⟨by kernel_rfl⟩
instance:dR prog 96 2 2:=⟨by kernel_rfl⟩
theorem ahs:∀ args w,(callFunc 223 args).run prog w=.ok (.enter 223 args) w:=enters func223 rfl (by kernel_rfl)
instance:dR prog 96 3 3:=⟨by kernel_rfl⟩
def En:Nat→List iX→Int
 | _,[]=>0
 | i,x :: r=>if x.fmt < 1∨7 < x.fmt then 3 else if x.start < 0∨32767 < x.start then 2 else if Aw x.wV ((i+1:Nat):Int)≠0 then Aw x.wV ((i+1:Nat):Int) else if x.restart < 0∨(i:Int) < x.restart then 5 else En (i+1) r
def eP (l:List iX):Int:=if l.length=0 then 11 else if 9 < l.length then 9 else En 0 l
theorem jd {l:List iX} {k:Nat} (h:k < l.length):En k (l.drop k)=if l[k].fmt < 1∨7 < l[k].fmt then 3 else if l[k].start < 0∨32767 < l[k].start then 2 else if Aw l[k].wV ((k+1:Nat):Int)≠0 then Aw l[k].wV ((k+1:Nat):Int) else if l[k].restart < 0∨(k:Int) < l[k].restart then 5 else En (k+1) (l.drop (k+1)):=by
 rw [pJ h,En]
theorem aeE (G:GH) (w0:World) (hG:Hold G w0) (l:List iX) (v:aj) (hv:au G (.sl 4 (l.map iX.dat)) v) (ht:∀ x∈l,x.wV.size < 4611686018427387904) :
  Calls prog 185 #[v] w0 (bC w0 G fun u G'=>u=vi (eP l)):=by
 obtain ⟨A,c,rfl,hc1,hc2,hg⟩:=hv.slice;have hml:maxLen=9223372036854775807:=rfl;rw [bM] at *;refine eN [(0,_)] func185 rfl ntmps185 rfl rfl hG ?_;refine goB 11 ?_ ?_
 ·intro p6
  refine aP 3 ?_
  first
   | exact (aB vi (by rw [eP,av (by omega)]))
   | exact (aB vi (by rw [eP,ah (by omega),av (by omega)]))
   | exact (aB vi (by rw [eP,ah (by omega),ah (by omega),← he,jd hk2,av (by omega)]))
   | exact (aB vi (by rw [eP,ah (by omega),ah (by omega),← he,jd hk2,ah (by omega),av (by omega)]))
   | exact (aB vi (by rw [eP,ah (by omega),ah (by omega),← he,jd hk2,ah (by omega),ah (by omega),av p45]))
   | exact (aB vi (by rw [eP,ah (by omega),ah (by omega),← he,jd hk2,ah (by omega),ah (by omega),ah p45,av (by omega)]))
   | exact (aB vi (by rw [eP,ah (by omega),ah (by omega),← he,ku (by omega)];rfl))
 intro p6
 refine goB 6 ?_ ?_
 ·intro gX
  refine aP 3 ?_
  first
   | exact (aB vi (by rw [eP,av (by omega)]))
   | exact (aB vi (by rw [eP,ah (by omega),av (by omega)]))
   | exact (aB vi (by rw [eP,ah (by omega),ah (by omega),← he,jd hk2,av (by omega)]))
   | exact (aB vi (by rw [eP,ah (by omega),ah (by omega),← he,jd hk2,ah (by omega),av (by omega)]))
   | exact (aB vi (by rw [eP,ah (by omega),ah (by omega),← he,jd hk2,ah (by omega),ah (by omega),av p45]))
   | exact (aB vi (by rw [eP,ah (by omega),ah (by omega),← he,jd hk2,ah (by omega),ah (by omega),ah p45,av (by omega)]))
   | exact (aB vi (by rw [eP,ah (by omega),ah (by omega),← he,ku (by omega)];rfl))
 intro gX
 refine ak 8 ?_;intro a H;refine eH (ι:=Nat × GH) (Tc:=[(14,_),(15,_)]) (Lc:=[]) (fun gh=>[(16,vi gh.1)]) (fun gh=>[]) (fun gh=>gh.2) (fun gh=>gh.1≤l.length∧En gh.1 (l.drop gh.1)=En 0 l∧(∀ b o,G b=some o→gh.2 b=some o)) (fun gh=>l.length - gh.1) ((0,G)) sB ?_ ?_
 ·exact ⟨gN _,rfl,fun _ _ h=>h⟩
 clear H;rintro ⟨k,g⟩ a w hI H;dsimp only at hI H;obtain ⟨hk,he,hgm⟩:=hI;dsimp only [lca,bG] at H;refine dO 4 H ?_ ?_ <;> clear H
 ·intro jH
  have hk2:k < l.length:=by omega
  obtain ⟨b,o,cs,rfl,hcl,hrow,hr⟩:=hg k l[k].dat (by simp [hk2]);obtain rfl:=Ud hr;refine ak 6 ?_;intro a H;refine aR AY (cs:=l[k].cells) H wn rfl rfl (fun j v hj=>H.hp.aI (aH hgm (hrow j v hj))) rfl ?_;clear H;intro a H;refine dz AY H wn rfl ?_;clear H;intro b4 a w hb4 H;refine aD 1 H ?_;clear H;intro a H;refine aX AY 0 (vs:=[_,_,_,_]) _ H wn rfl rfl rfl rfl rfl rfl rfl rfl ?_;clear H;intro w H;dsimp only [List.set,setRow] at H;refine pU 8 25 H ?_ ?_ <;> clear H
  ·intro p25
   refine aP 10 ?_
   first
    | exact (aB vi (by rw [eP,av (by omega)]))
    | exact (aB vi (by rw [eP,ah (by omega),av (by omega)]))
    | exact (aB vi (by rw [eP,ah (by omega),ah (by omega),← he,jd hk2,av (by omega)]))
    | exact (aB vi (by rw [eP,ah (by omega),ah (by omega),← he,jd hk2,ah (by omega),av (by omega)]))
    | exact (aB vi (by rw [eP,ah (by omega),ah (by omega),← he,jd hk2,ah (by omega),ah (by omega),av p45]))
    | exact (aB vi (by rw [eP,ah (by omega),ah (by omega),← he,jd hk2,ah (by omega),ah (by omega),ah p45,av (by omega)]))
    | exact (aB vi (by rw [eP,ah (by omega),ah (by omega),← he,ku (by omega)];rfl))
  intro p25
  refine goB 6 ?_ ?_
  ·intro Ce
   refine aP 3 ?_
   first
    | exact (aB vi (by rw [eP,av (by omega)]))
    | exact (aB vi (by rw [eP,ah (by omega),av (by omega)]))
    | exact (aB vi (by rw [eP,ah (by omega),ah (by omega),← he,jd hk2,av (by omega)]))
    | exact (aB vi (by rw [eP,ah (by omega),ah (by omega),← he,jd hk2,ah (by omega),av (by omega)]))
    | exact (aB vi (by rw [eP,ah (by omega),ah (by omega),← he,jd hk2,ah (by omega),ah (by omega),av p45]))
    | exact (aB vi (by rw [eP,ah (by omega),ah (by omega),← he,jd hk2,ah (by omega),ah (by omega),ah p45,av (by omega)]))
    | exact (aB vi (by rw [eP,ah (by omega),ah (by omega),← he,ku (by omega)];rfl))
  intro Ce
  refine lU 5 34 ?_ ?_
  ·intro p34
   refine aP 10 ?_
   first
    | exact (aB vi (by rw [eP,av (by omega)]))
    | exact (aB vi (by rw [eP,ah (by omega),av (by omega)]))
    | exact (aB vi (by rw [eP,ah (by omega),ah (by omega),← he,jd hk2,av (by omega)]))
    | exact (aB vi (by rw [eP,ah (by omega),ah (by omega),← he,jd hk2,ah (by omega),av (by omega)]))
    | exact (aB vi (by rw [eP,ah (by omega),ah (by omega),← he,jd hk2,ah (by omega),ah (by omega),av p45]))
    | exact (aB vi (by rw [eP,ah (by omega),ah (by omega),← he,jd hk2,ah (by omega),ah (by omega),ah p45,av (by omega)]))
    | exact (aB vi (by rw [eP,ah (by omega),ah (by omega),← he,ku (by omega)];rfl))
  intro p34
  refine goB 6 ?_ ?_
  ·intro p30
   refine aP 3 ?_
   first
    | exact (aB vi (by rw [eP,av (by omega)]))
    | exact (aB vi (by rw [eP,ah (by omega),av (by omega)]))
    | exact (aB vi (by rw [eP,ah (by omega),ah (by omega),← he,jd hk2,av (by omega)]))
    | exact (aB vi (by rw [eP,ah (by omega),ah (by omega),← he,jd hk2,ah (by omega),av (by omega)]))
    | exact (aB vi (by rw [eP,ah (by omega),ah (by omega),← he,jd hk2,ah (by omega),ah (by omega),av p45]))
    | exact (aB vi (by rw [eP,ah (by omega),ah (by omega),← he,jd hk2,ah (by omega),ah (by omega),ah p45,av (by omega)]))
    | exact (aB vi (by rw [eP,ah (by omega),ah (by omega),← he,ku (by omega)];rfl))
  intro p30
  refine ak 7 ?_;intro a H;rw [show ((k:Int)+1)=((k+1:Nat):Int) from rfl] at H;refine s_call ahs H wn rfl (anB _ _ H.ro l[k].wV ((k+1:Nat):Int) (ht _ (lD hk2))) rfl ?_;clear H;rintro v43 FV a w rfl BL H;refine gF 6 H ?_ ?_ <;> clear H
  ·intro p45
   refine aP 4 ?_
   first
    | exact (aB vi (by rw [eP,av (by omega)]))
    | exact (aB vi (by rw [eP,ah (by omega),av (by omega)]))
    | exact (aB vi (by rw [eP,ah (by omega),ah (by omega),← he,jd hk2,av (by omega)]))
    | exact (aB vi (by rw [eP,ah (by omega),ah (by omega),← he,jd hk2,ah (by omega),av (by omega)]))
    | exact (aB vi (by rw [eP,ah (by omega),ah (by omega),← he,jd hk2,ah (by omega),ah (by omega),av p45]))
    | exact (aB vi (by rw [eP,ah (by omega),ah (by omega),← he,jd hk2,ah (by omega),ah (by omega),ah p45,av (by omega)]))
    | exact (aB vi (by rw [eP,ah (by omega),ah (by omega),← he,ku (by omega)];rfl))
  intro p45
  refine lU 6 50 ?_ ?_
  ·intro p50
   refine aP 10 ?_
   first
    | exact (aB vi (by rw [eP,av (by omega)]))
    | exact (aB vi (by rw [eP,ah (by omega),av (by omega)]))
    | exact (aB vi (by rw [eP,ah (by omega),ah (by omega),← he,jd hk2,av (by omega)]))
    | exact (aB vi (by rw [eP,ah (by omega),ah (by omega),← he,jd hk2,ah (by omega),av (by omega)]))
    | exact (aB vi (by rw [eP,ah (by omega),ah (by omega),← he,jd hk2,ah (by omega),ah (by omega),av p45]))
    | exact (aB vi (by rw [eP,ah (by omega),ah (by omega),← he,jd hk2,ah (by omega),ah (by omega),ah p45,av (by omega)]))
    | exact (aB vi (by rw [eP,ah (by omega),ah (by omega),← he,ku (by omega)];rfl))
  intro p50
  refine goB 6 ?_ ?_
  ·intro p55
   refine aP 3 ?_
   first
    | exact (aB vi (by rw [eP,av (by omega)]))
    | exact (aB vi (by rw [eP,ah (by omega),av (by omega)]))
    | exact (aB vi (by rw [eP,ah (by omega),ah (by omega),← he,jd hk2,av (by omega)]))
    | exact (aB vi (by rw [eP,ah (by omega),ah (by omega),← he,jd hk2,ah (by omega),av (by omega)]))
    | exact (aB vi (by rw [eP,ah (by omega),ah (by omega),← he,jd hk2,ah (by omega),ah (by omega),av p45]))
    | exact (aB vi (by rw [eP,ah (by omega),ah (by omega),← he,jd hk2,ah (by omega),ah (by omega),ah p45,av (by omega)]))
    | exact (aB vi (by rw [eP,ah (by omega),ah (by omega),← he,ku (by omega)];rfl))
  intro p55
  refine ak 4 ?_;intro a H;refine aC ?_;refine cB ((k+1,FV)) (by exact (H.dY (Pl:=[_]) (dJ:=[]) [] (by decide) rfl).sub ⟨rfl,rfl,rfl,bq⟩) ?_ ?_
  ·(try dsimp only);exact ⟨by omega,by rw [jd hk2,ah (by omega),ah (by omega),ah p45,ah (by omega)] at he;exact he,fun b o h=>BL b o (hgm b o h)⟩
  first|omega|(dsimp only;omega)
 intro jH
 refine aP 4 ?_
 first
  | exact (aB vi (by rw [eP,av (by omega)]))
  | exact (aB vi (by rw [eP,ah (by omega),av (by omega)]))
  | exact (aB vi (by rw [eP,ah (by omega),ah (by omega),← he,jd hk2,av (by omega)]))
  | exact (aB vi (by rw [eP,ah (by omega),ah (by omega),← he,jd hk2,ah (by omega),av (by omega)]))
  | exact (aB vi (by rw [eP,ah (by omega),ah (by omega),← he,jd hk2,ah (by omega),ah (by omega),av p45]))
  | exact (aB vi (by rw [eP,ah (by omega),ah (by omega),← he,jd hk2,ah (by omega),ah (by omega),ah p45,av (by omega)]))
  | exact (aB vi (by rw [eP,ah (by omega),ah (by omega),← he,ku (by omega)];rfl))
end
section
open Go.RowKit
instance FE:Ty prog 32 1 24 [.slice none 0 0] false:=⟨by kernel_rfl,by kernel_rfl⟩
theorem AZ:prog.underlying 32=some (.slice 93):=by kernel_rfl
instance:jZ prog 32 (.slice 93):=⟨AZ⟩
instance sF:Ty prog 93 2 32 [.int .i64 0,.slice none 0 0] true:=⟨by kernel_rfl,by kernel_rfl⟩
instance ajB:dR prog 93 0 0:=⟨by kernel_rfl⟩
instance Vg:Ty prog 91 1 24 [.slice none 0 0] false:=⟨by kernel_rfl,by kernel_rfl⟩
theorem QF:∀ args w,(callFunc 125 args).run prog w=.ok (.enter 125 args) w:=enters func125 rfl (by kernel_rfl)
instance Rx:dR prog 93 1 1:=⟨by kernel_rfl⟩
theorem agX:∀ args w,(callFunc 185 args).run prog w=.ok (.enter 185 args) w:=enters func185 rfl (by kernel_rfl)
theorem GD:∀ args w,(callFunc 123 args).run prog w=.ok (.enter 123 args) w:=enters func123 rfl (by kernel_rfl)
theorem agW:∀ args w,(callFunc 184 args).run prog w=.ok (.enter 184 args) w:=enters func184 rfl (by kernel_rfl)
theorem agV:∀ args w,(callFunc 183 args).run prog w=.ok (.enter 183 args) w:=enters func183 rfl (by kernel_rfl)
structure eD where
 id:Int
 levels:List iX
def eD.dat (x:eD):List Dat:=[li x.id,.sl 4 (x.levels.map iX.dat)]
structure fE where
 id:Int
 parent:Int
 author:ByteArray
 time:Int
 text:ByteArray
 done:Bool
def fE.dat (x:fE):List Dat:=[li x.id,li x.parent,.lf (.string x.author),li x.time,.lf (.string x.text),.lf (.bool x.done)]
abbrev fE.cells (x:fE):List aj:=[vi x.id,vi x.parent,.string x.author,vi x.time,.string x.text,.bool x.done]
structure iy where
 name:ByteArray
 value:ByteArray
def iy.dat (x:iy):List Dat:=[.lf (.string x.name),.lf (.string x.value)]
abbrev iy.cells (x:iy):List aj:=[.string x.name,.string x.value]
theorem MI {G:GH} {x:fE} {cs:List aj} (h:aU G x.dat cs):cs=x.cells:=by
 simp only [fE.dat,aU,au] at h
 obtain ⟨_,_,rfl,⟨rfl,_⟩,_,_,rfl,⟨rfl,_⟩,_,_,rfl,⟨rfl,_⟩,_,_,rfl,⟨rfl,_⟩,_,_,rfl,⟨rfl,_⟩,_,_,rfl,⟨rfl,_⟩,rfl⟩:=h
 rfl
theorem Vo {G:GH} {x:iy} {cs:List aj} (h:aU G x.dat cs):cs=x.cells:=by
 simp only [iy.dat,aU,au] at h
 obtain ⟨_,_,rfl,⟨rfl,_⟩,_,_,rfl,⟨rfl,_⟩,rfl⟩:=h
 rfl
theorem Uc {G:GH} {l:List eD} {A:Option Addr} {n c k:Nat} (hv:au G (.sl 2 (l.map eD.dat)) (.slice A n c)) (hk:k < l.length):∃ b o B d,A=some ⟨b,o,none⟩∧(∀ j u,[vi l[k].id,.slice B l[k].levels.length d][j]?=some u→aI G b (o+k*2+j)=some u)∧au G (.sl 4 (l[k].levels.map iX.dat)) (.slice B l[k].levels.length d):=by
 obtain ⟨A',c',he,_,_,hg⟩:=hv.slice
 injection he with e1 e2 e3
 subst e1;obtain ⟨b,o,cs,h1,h2,h3,h4⟩:=hg k l[k].dat (by simp [hk])
 simp only [eD.dat,aU] at h4
 obtain ⟨v1,_,rfl,⟨rfl,-⟩,v2,_,rfl,hl,rfl⟩:∃ v vs,cs=v :: vs∧au G (li l[k].id) v∧∃ v2 vs2,vs=v2 :: vs2∧au G (.sl 4 (l[k].levels.map iX.dat)) v2∧vs2=[]:=h4;obtain ⟨B,d,rfl,-,-,-⟩:=hl.slice;rw [bM] at *;exact ⟨b,o,B,d,h1,h3,hl⟩
theorem anu {G:GH} {bl:Nat} {l:List eD} {A:Option Addr} {n c:Nat} (hb:aI G bl 0=some (.slice A n c)) (hv:au G (.sl 2 (l.map eD.dat)) (.slice A n c)):sJ (.func (.func 184) #[] #[(aG bl 0)]) G l.length fun k=>(l[k]?.map eD.id).getD 0:=by
 intro k hk G1 w0 hm hG;refine iM (caps:=[(aG bl 0)]) agW ?_;replace hb:=aH hm hb
 obtain rfl:n=l.length:=by have:=hv.len;simpa using this
 obtain ⟨b,o,B,d,rfl,hrow,-⟩:=Uc (hv.mono hm) hk;have hq:=hrow 0 _ rfl;refine eN [(0,_),(1,_)] func184 rfl ntmps184 rfl rfl hG ?_;refine aP 11 ?_;dsimp only;rw [eO hk];rfl
def E8 (l:List eD) (i:Nat):Int:=dh [pY (fun k=>(l[k]?.map eD.id).getD 0) i,eP ((l[i]?.map eD.levels).getD [])]
theorem anw {G:GH} {bl:Nat} {l:List eD} {A:Option Addr} {n c:Nat} (hb:aI G bl 0=some (.slice A n c)) (hv:au G (.sl 2 (l.map eD.dat)) (.slice A n c)) (hl:l.length≤4294967296) (ht:∀ x∈l,∀ y∈x.levels,y.wV.size < 4611686018427387904):sJ (.func (.func 183) #[] #[(aG bl 0)]) G l.length (E8 l):=by
 intro k hk G1 w0 hm hG;refine iM (caps:=[(aG bl 0)]) agV ?_;replace hb:=aH hm hb;replace hv:=hv.mono hm;have hcb:=anu hb hv
 obtain rfl:n=l.length:=by have:=hv.len;simpa using this
 obtain ⟨b,o,B,d,rfl,hrow,hlv⟩:=Uc hv hk;have hq:=hrow 1 _ rfl
 have he:E8 l k=dh [pY (fun k=>(l[k]?.map eD.id).getD 0) k,eP l[k].levels]:=by unfold E8;rw [eO hk];rfl
 refine eN [(0,_),(1,_)] func183 rfl ntmps183 rfl rfl hG ?_;refine ak 4 ?_;intro a H;have H:=H.sub (T':=[(0,_),(1,_)]) ⟨rfl,rfl,bq⟩;refine dI hmx [[],[],[0,1],[],[],[3,4],[3,4,5],(ra 3 4),(ra 0 8),(ra 0 9),(ra 0 10),(ra 0 11)] [9,10,11] (by kernel_rfl) [_,.func (.func 184) #[] #[(aG bl 0)],vi (pY (fun k=>(l[k]?.map eD.id).getD 0) k),_,_,_,_,_,vi (eP l[k].levels)] H (aF (Z0 rfl (Rm rfl)) ?_ ?_ (X0 rfl fun hG=>Rg FE rfl (aH hG hb)) (aF (Z0 rfl (Rm rfl)) (Z2 3 7 4 8 rfl (Ri AZ sF rfl rfl)) (Z1 5 9 rfl (Rf Rx rfl)) (X1 6 10 rfl fun hG=>Rg Vg rfl (aH hG hq)) (aF ?_ (bQ rfl) (bQ rfl) (bQ rfl) cO))) ?_
 ·refine Bh rfl fun _ a w G1 hG HT H fin=>?_;refine nQ H wn rfl rfl ?_;clear H;intro a H;exact fin H iJ rfl
 ·refine dD 0 4 1 5 rfl rfl fun _ a w G1 hG HT H fin=>?_;refine s_call QF H wn rfl (TM _ _ H.ro k _ _ (by omega) (fun i hi=>(hcb.mono hG) i (by omega))) rfl ?_;clear H;rintro v6 G6 a w rfl gD H;exact fin H gD (rfl)
 ·refine dZ 7 11 rfl rfl fun _ a w G1 hG HT H fin=>?_;refine s_call agX H wn rfl (aeE _ _ H.ro _ _ (hlv.mono hG) (ht _ (lD hk))) rfl ?_;clear H;rintro v12 Bf a w rfl mV H;exact fin H mV (rfl)
 clear H;intro a w G iN H hv;have H:=H.aN (hv 2 6 rfl rfl) rfl;have H:=H.aN (hv 8 12 rfl rfl) rfl;clear hv;refine gG ql iw [_,_] [_,_] H wn rfl rfl rfl rfl rfl (by intro i q h;match i,h with|0,h=>exact h|1,h=>exact h|n+2,h=>simp at h) rfl rfl ?_;clear H;intro b13 a w JN H;obtain ⟨D6,za,akE,H⟩:=H.eu;refine s_call qC H wn rfl (qD _ _ H.ro _ _ (xZ akE)) rfl ?_;clear H;rintro v14 _ a w ⟨rfl,rfl⟩ - H;refine kH H (Ra rfl ?_);clear H;intro a H;refine aC ⟨rfl,?_⟩;refine dQ ?_;refine uy 0 H ?_;rw [he]
def Jc (l:List eD):Int:=dh [dx (decide (64 < (l.length:Int))) 9,iF (E8 l) (min l.length 64)]
theorem sJ.le {fv:aj} {G:GH} {n m:Nat} {E:Nat→Int} (h:sJ fv G n E) (hm:m≤n):sJ fv G m E:=fun i hi=>h i (by omega)
theorem aeF (G:GH) (w0:World) (hG:Hold G w0) (l:List eD) (v:aj) (hv:au G (.sl 2 (l.map eD.dat)) v) (hl:l.length≤4294967296) (ht:∀ x∈l,∀ y∈x.levels,y.wV.size < 4611686018427387904) :
  Calls prog 120 #[v] w0 (bC w0 G fun u G'=>u=vi (Jc l)):=by
 obtain ⟨A,c,rfl,hc1,hc2,-⟩:=hv.slice;rw [bM] at *;refine eN [(0,_)] func120 rfl ntmps120 rfl rfl hG ?_;refine ak 1 ?_;intro a H;refine dP (cs:=[_]) H wn rfl rfl rfl ?_;clear H;intro b1 a w hb1 H;refine aD 3 H ?_;clear H;intro a H;have H:=H.sub (T':=[(1,_)]) ⟨rfl,bq⟩;obtain ⟨Ga,hma,hb1',H⟩:=H.eu
 have hbl:aI Ga b1 0=some (.slice A l.length c):=by unfold aI;rw [hb1'];rfl
 have hcb:=anw hbl (hv.mono hma) hl ht;refine dI hmx [[],[0],[0,1],[0,1,2],[],[4],[4,5],[],(ra 0 8),(ra 0 9),(ra 0 10),(ra 0 11)] [9,10,11] (by kernel_rfl) [_,_,_,vi (dx (decide (64 < (l.length:Int))) 9),_,_,vi ((min l.length 64:Nat):Int),.func (.func 183) #[] #[(aG b1 0)],vi (iF (E8 l) (min l.length 64))] H (aF (X0 rfl fun hG=>Rg FE rfl (aH hG hbl)) (Z1 0 3 rfl (Rl AZ rfl)) (Z1 1 4 rfl (Rc rfl)) ?_ (aF (X0 rfl fun hG=>Rg FE rfl (aH hG hbl)) (Z1 4 7 rfl (Rl AZ rfl)) ?_ ?_ (aF ?_ (bQ rfl) (bQ rfl) (bQ rfl) cO))) ?_
 ·refine dZ 2 5 rfl rfl fun _ a w G1 hG HT H fin=>?_;refine s_call jA H wn rfl (jF _ _ H.ro _ 9) rfl ?_;clear H;rintro v6 G6 a w ⟨rfl,-⟩ gD H;exact fin H gD (rfl)
 ·refine dZ 5 8 rfl rfl fun _ a w G1 hG HT H fin=>?_;refine OP H wn rfl rfl rfl ?_;clear H;intro a H;exact fin H iJ (aB vi (by omega))
 ·refine Bh rfl fun _ a w G1 hG HT H fin=>?_;refine nQ H wn rfl rfl ?_;clear H;intro a H;exact fin H iJ rfl
 ·refine dD 6 9 7 10 rfl rfl fun _ a w G1 hG HT H fin=>?_;refine s_call GD H wn rfl (I8 _ _ H.ro (min l.length 64) (E8 l) _ (by omega) ((hcb.mono hG).le (Nat.min_le_left _ _))) rfl ?_;clear H;rintro v11 qX a w rfl kZ H;exact fin H kZ (rfl)
 clear H;intro a w G iN H hv;have H:=H.aN (hv 3 6 rfl rfl) rfl;have H:=H.aN (hv 8 11 rfl rfl) rfl;clear hv;refine gG ql iw [_,_] [_,_] H wn rfl rfl rfl rfl rfl (by intro i q h;match i,h with|0,h=>exact h|1,h=>exact h|n+2,h=>simp at h) rfl rfl ?_;clear H;intro b12 a w EA H;obtain ⟨Bf,BJ,EB,H⟩:=H.eu;refine s_call qC H wn rfl (qD _ _ H.ro _ _ (xZ EB)) rfl ?_;clear H;rintro v13 _ a w ⟨rfl,rfl⟩ - H;refine kH H (Ra rfl ?_);clear H;intro a H;refine aC ⟨rfl,?_⟩;refine dQ ?_;refine uy 0 H ?_;exact rfl
end
section
open Go.RowKit
theorem tX:prog.underlying 31=some (.slice 192):=by kernel_rfl
instance:jZ prog 31 (.slice 192):=⟨tX⟩
instance jD:Ty prog 192 6 72 [.int .i64 0,.int .i64 0,.string ⟨#[]⟩,.int .i64 0,.int .i64 0,.slice none 0 0] true:=⟨by kernel_rfl,by kernel_rfl⟩
instance Q9:dR prog 192 1 1:=⟨by kernel_rfl⟩
instance ajs:dR prog 192 2 2:=⟨by kernel_rfl⟩
instance Ad:dR prog 192 0 0:=⟨by kernel_rfl⟩
theorem XU:∀ args w,(callFunc 243 args).run prog w=.ok (.enter 243 args) w:=enters func243 rfl (by kernel_rfl)
theorem ahr:∀ args w,(callFunc 221 args).run prog w=.ok (.enter 221 args) w:=enters func221 rfl (by kernel_rfl)
theorem ahA:∀ args w,(callFunc 244 args).run prog w=.ok (.enter 244 args) w:=enters func244 rfl (by kernel_rfl)
theorem ahB:∀ args w,(callFunc 245 args).run prog w=.ok (.enter 245 args) w:=enters func245 rfl (by kernel_rfl)
structure bS where
 id:Int
 kind:Int
 name:ByteArray
 base:Int
 next:Int
 props:List aT
def bS.dat (x:bS):List Dat:=[li x.id,li x.kind,.lf (.string x.name),li x.base,li x.next,.sl 2 (x.props.map aT.dat)]
theorem KT {G:GH} {x:bS} {cs:List aj} (h:aU G x.dat cs):∃ A c,cs=[vi x.id,vi x.kind,.string x.name,vi x.base,vi x.next,.slice A x.props.length c]∧au G (.sl 2 (x.props.map aT.dat)) (.slice A x.props.length c):=by
 simp only [bS.dat,aU] at h
 obtain ⟨v1,_,rfl,h1,v2,_,rfl,h2,v3,_,rfl,h3,v4,_,rfl,h4,v5,_,rfl,h5,v6,_,rfl,h6,rfl⟩:=h
 simp only [au] at h1 h2 h3 h4 h5
 obtain ⟨rfl,-⟩:=h1;obtain ⟨rfl,-⟩:=h2;obtain ⟨rfl,-⟩:=h3;obtain ⟨rfl,-⟩:=h4;obtain ⟨rfl,-⟩:=h5;obtain ⟨A,c,rfl,-,-,-⟩:=h6.slice;rw [bM] at *;exact ⟨A,c,rfl,h6⟩
theorem Co {G:GH} {l:List bS} {A:Option Addr} {n c k:Nat} (hv:au G (.sl 6 (l.map bS.dat)) (.slice A n c)) (hk:k < l.length):∃ b o pA pc,A=some ⟨b,o,none⟩∧(∀ j u,[vi l[k].id,vi l[k].kind,.string l[k].name,vi l[k].base,vi l[k].next,.slice pA l[k].props.length pc][j]?=some u→aI G b (o+k*6+j)=some u)∧au G (.sl 2 (l[k].props.map aT.dat)) (.slice pA l[k].props.length pc) ∧
  aU G l[k].dat [vi l[k].id,vi l[k].kind,.string l[k].name,vi l[k].base,vi l[k].next,.slice pA l[k].props.length pc]:=by
 obtain ⟨A',c',he,_,_,hg⟩:=hv.slice
 injection he with e1 e2 e3
 subst e1;obtain ⟨b,o,cs,h1,h2,h3,h4⟩:=hg k l[k].dat (by simp [hk]);obtain ⟨pA,pc,rfl,hp⟩:=KT h4;exact ⟨b,o,pA,pc,h1,h3,hp,h4⟩
def okB (x:Int):Bool:=decide (32≤x∧x≤126)
def Fa (s:ByteArray) (k:Nat):Bool:=(List.range k).all fun i=>okB (fV s i)
def nO (s:ByteArray):Bool:=decide (s.size≠0∧s.size≤40∧fV s 0≠32∧fV s (s.size - 1)≠32) && Fa s s.size
theorem anQ (s:ByteArray) (k:Nat):Fa s (k+1)=(Fa s k && okB (fV s k)):=by simp [Fa,List.range_succ]
theorem Fb {s:ByteArray} {k:Nat} (hk:k < s.size) (h:okB (fV s k)=false):Fa s s.size=false:=by
 rw [Fa,List.all_eq_false];exact ⟨k,by simpa using hk,by simp [h]⟩
theorem N7 (G:GH) (w0:World) (hG:Hold G w0) (s:ByteArray) (hs:s.size≤4611686018427387904):Calls prog 218 #[.string s] w0 (bC w0 G fun u G'=>u=.bool (nO s)):=by
 refine eN [(0,_)] func218 rfl ntmps218 rfl rfl hG ?_;refine jM 9 7 ?_ ?_
 ·intro h7
  try have p7:=dT h7
  refine aP 22 ?_
  first
   | exact (dB (by rw [nO,iY (by omega),wz]))
   | exact (dB (by rw [nO,iQ (by omega),show s.size=k by omega,hno];rfl))
   | exact (dB (by rw [nO,Fb (k:=k) (by omega) (iY (by omega)),Bool.and_false]))
 intro h7
 try have p7:=dF h7
 refine ak 1 ?_;intro a H;refine DI jE H (wg H rfl rfl h7) rfl rfl ?_;clear H;refine jM 3 12 ?_ ?_
 ·intro h12
  try have pE:=dT h12
  refine aP 17 ?_
  first
   | exact (dB (by rw [nO,iY (by omega),wz]))
   | exact (dB (by rw [nO,iQ (by omega),show s.size=k by omega,hno];rfl))
   | exact (dB (by rw [nO,Fb (k:=k) (by omega) (iY (by omega)),Bool.and_false]))
 intro h12
 try have pE:=dF h12
 refine ak 1 ?_;intro a H;refine oL 0 jE H (wg H rfl rfl h12) rfl rfl rfl (by omega) rfl ?_;clear H;intro a H;rw [← kV] at H;refine kJ 3 17 H ?_ ?_ <;> clear H
 ·intro jr
  try have jH:=dT jr
  refine aP 12 ?_
  first
   | exact (dB (by rw [nO,iY (by omega),wz]))
   | exact (dB (by rw [nO,iQ (by omega),show s.size=k by omega,hno];rfl))
   | exact (dB (by rw [nO,Fb (k:=k) (by omega) (iY (by omega)),Bool.and_false]))
 intro jr
 try have jH:=dF jr
 refine ak 2 ?_;intro a H;refine DI jE H (wg H rfl rfl jr) rfl rfl ?_;clear H;intro a H;refine lK _ H (wg H rfl rfl jr) rfl rfl rfl (by omega) (by omega) rfl ?_;clear H;intro a H;refine oL (s.size - 1) jE H (wg H rfl rfl jr) rfl rfl (by omega) (by omega) rfl ?_;clear H;intro a H;rw [← kV] at H;refine gF 3 H ?_ ?_ <;> clear H
 ·intro jq
  refine aP 3 ?_
  first
   | exact (dB (by rw [nO,iY (by omega),wz]))
   | exact (dB (by rw [nO,iQ (by omega),show s.size=k by omega,hno];rfl))
   | exact (dB (by rw [nO,Fb (k:=k) (by omega) (iY (by omega)),Bool.and_false]))
 intro jq
 refine ak 8 ?_;intro a H;refine eH (ι:=Nat) (Tc:=[(0,_),(26,_)]) (Lc:=[]) (fun gh=>[(27,vi gh)]) (fun gh=>[]) (fun gh=>G) (fun gh=>gh≤s.size∧Fa s gh=true) (fun gh=>s.size - gh) (0) sB ?_ ?_
 ·exact ⟨gN _,rfl⟩
 clear H;intro k a w hI H;obtain ⟨hk,hno⟩:=hI;dsimp only [lca,bG] at H;refine dO 4 H ?_ ?_ <;> clear H
 ·intro p28
  refine ak 10 ?_;intro a H;refine oL k jE H wn rfl rfl rfl (by omega) rfl ?_;clear H;intro a H;rw [← kV] at H;refine kJ 2 34 H ?_ ?_ <;> clear H
  ·intro kY
   try have p34:=dT kY
   refine aP 10 ?_
   first
    | exact (dB (by rw [nO,iY (by omega),wz]))
    | exact (dB (by rw [nO,iQ (by omega),show s.size=k by omega,hno];rfl))
    | exact (dB (by rw [nO,Fb (k:=k) (by omega) (iY (by omega)),Bool.and_false]))
  intro kY
  try have p34:=dF kY
  refine ak 2 ?_;intro a H;refine oL k jE H (wg H rfl rfl kY) rfl rfl rfl (by omega) rfl ?_;clear H;intro a H;rw [← kV] at H;refine gF 3 H ?_ ?_ <;> clear H
  ·intro p39
   refine aP 3 ?_
   first
    | exact (dB (by rw [nO,iY (by omega),wz]))
    | exact (dB (by rw [nO,iQ (by omega),show s.size=k by omega,hno];rfl))
    | exact (dB (by rw [nO,Fb (k:=k) (by omega) (iY (by omega)),Bool.and_false]))
  intro p39
  refine ak 4 ?_;intro a H;refine aC ?_;refine cB ((k+1)) sB ?_ ?_
  ·exact ⟨by omega,by rw [anQ,hno];simp [okB];omega⟩
  first|omega|(dsimp only;omega)
 intro p28
 refine aP 4 ?_
 first
  | exact (dB (by rw [nO,iY (by omega),wz]))
  | exact (dB (by rw [nO,iQ (by omega),show s.size=k by omega,hno];rfl))
  | exact (dB (by rw [nO,Fb (k:=k) (by omega) (iY (by omega)),Bool.and_false]))
theorem aai (G:GH) (w0:World) (hG:Hold G w0) (l:List bS) (p:bS→Bool) (v fv:aj) (hv:au G (.sl 6 (l.map bS.dat)) v) (hf:∀ x∈l,qY fv G x.dat (p x)) :
  Calls prog 243 #[v,fv] w0 (bC w0 G fun u G'=>u=vi (mJ (l.findIdx? p))):=by
 obtain ⟨A,c,rfl,hc1,hc2,-⟩:=hv.slice;have hml:maxLen=9223372036854775807:=rfl;rw [bM] at *;refine eN [(0,_),(1,_)] func243 rfl ntmps243 rfl rfl hG ?_;refine ak 10 ?_;intro a H;refine eH (ι:=Nat × GH) (Tc:=[(0,_),(1,_),(7,_)]) (Lc:=[]) (fun gh=>[(8,vi gh.1)]) (fun gh=>[]) (fun gh=>gh.2) (fun gh=>gh.1≤l.length∧(l.take gh.1).findIdx? p=none∧(∀ b o,G b=some o→gh.2 b=some o)) (fun gh=>l.length - gh.1) ((0,G)) sB ?_ ?_
 ·exact ⟨by omega,rfl,fun _ _ h=>h⟩
 clear H;rintro ⟨k,g⟩ a w hI H;dsimp only at hI H;obtain ⟨hk,hno,hgm⟩:=hI;dsimp only [lca,bG] at H;refine dO 4 H ?_ ?_ <;> clear H
 ·intro p9
  have hk2:k < l.length:=by omega
  obtain ⟨b,o,pA,pc,rfl,hrow,hp,hrep⟩:=Co (hv.mono hgm) hk2;refine ak 12 ?_;intro a H;refine aR jD (cs:=[_,_,_,_,_,_]) H wn rfl rfl (fun j v hj=>H.hp.aI (hrow j v hj)) rfl ?_;clear H;intro a H;refine ji H wn rfl rfl (hf _ (lD hk2) _ _ _ hgm H.ro hrep) rfl ?_;clear H;rintro v16 nk a w rfl gU H;refine iR 1 H ?_ ?_ <;> clear H
  ·intro h16
   try have p16:=dT h16
   refine aP 4 ?_
   first
    | exact (by rw [rR hk2 hno h16];rfl)
    | exact (by rw [show l.take k=l from fJ (by omega)] at hno;rw [hno];rfl)
  intro h16
  try have p16:=dF h16
  refine ak 4 ?_;intro a H;refine aC ?_;refine cB ((k+1,nk)) sB ?_ ?_
  ·(try dsimp only);exact ⟨by omega,BU hk2 hno h16,fun b o h=>gU b o (hgm b o h)⟩
  first|omega|(dsimp only;omega)
 intro p9
 refine aP 4 ?_
 first
  | exact (by rw [rR hk2 hno h16];rfl)
  | exact (by rw [show l.take k=l from fJ (by omega)] at hno;rw [hno];rfl)
def KF (p q:ByteArray):Bool:=p.toList == q.toList
theorem ajD {G:GH} {bk bn:Nat} {kind:Int} {name:ByteArray} (hk:aI G bk 0=some (vi kind)) (hn:aI G bn 0=some (.string name)) (x:bS):qY (.func (.func 244) #[] #[(aG bk 0),(aG bn 0)]) G x.dat (decide (x.kind=kind) && KF x.name name):=by
 intro G1 w0 cs hm hG hr;refine iM (caps:=[(aG bk 0),(aG bn 0)]) ahA ?_;obtain ⟨pA,pc,rfl,-⟩:=KT hr;replace hk:=aH hm hk;replace hn:=aH hm hn;refine eN [(0,_),(1,_),(2,_)] func244 rfl ntmps244 rfl rfl hG ?_;refine ak 1 ?_;intro a H;refine dP (cs:=[_,_,_,_,_,_]) H wn rfl rfl rfl ?_;clear H;intro b3 a w hb3 H;refine kJ 8 9 H ?_ ?_ <;> clear H
 ·intro h9
  try have p9:=dT h9
  refine ak 3 ?_;intro a H;refine AO H (wg H rfl rfl h9) rfl rfl rfl ?_;clear H;refine aP 3 ?_;unfold KF;simp_all
 intro h9
 try have p9:=dF h9
 refine aP 7 ?_;unfold KF;simp_all
theorem ajC {G:GH} {bi:Nat} {id:Int} (hb:aI G bi 0=some (vi id)) (x:bS):qY (.func (.func 245) #[] #[(aG bi 0)]) G x.dat (decide (x.id=id)):=by
 intro G1 w0 cs hm hG hr;refine iM (caps:=[(aG bi 0)]) ahB ?_;obtain ⟨pA,pc,rfl,-⟩:=KT hr;replace hb:=aH hm hb;refine eN [(0,_),(1,_)] func245 rfl ntmps245 rfl rfl hG ?_;refine ak 1 ?_;intro a H;refine dP (cs:=[_,_,_,_,_,_]) H wn rfl rfl rfl ?_;clear H;intro b2 a w hb2 H;refine fu 9 H ?_;exact rfl
def CZ (l:List bS) (kind:Int) (name:ByteArray):Option Nat:=l.findIdx? fun x=>decide (x.kind=kind) && KF x.name name
def MZ (l:List bS) (id:Int):Option Nat:=l.findIdx? fun x=>decide (x.id=id)
theorem aan (o:Option Nat):decide (0≤mJ o)=o.isSome:=by cases o <;> simp [mJ]
theorem ajE (G:GH) (w0:World) (hG:Hold G w0) (l:List bS) (kind:Int) (name:ByteArray) (v:aj) (hv:au G (.sl 6 (l.map bS.dat)) v) :
  Calls prog 219 #[v,vi kind,.string name] w0 (bC w0 G fun u G'=>u=.tuple #[vi (max (mJ (CZ l kind name)) 0),.bool (CZ l kind name).isSome]):=by
 obtain ⟨A,c,rfl,hc1,hc2,-⟩:=hv.slice;rw [bM] at *;refine eN [(0,_),(1,_),(2,_)] func219 rfl ntmps219 rfl rfl hG ?_;refine ak 1 ?_;intro a H;refine dP (cs:=[_]) H wn rfl rfl rfl ?_;clear H;intro b4 a w hb4 H;refine dP (cs:=[_]) H wn rfl rfl rfl ?_;clear H;intro b5 a w hb5 H;refine aD 3 H ?_;clear H;intro a H;obtain ⟨Ga,hma,xJ,H⟩:=H.eu;obtain ⟨Gb,hmb,yV,H⟩:=H.eu
 have q4:aI Gb b4 0=some (vi kind):=by unfold aI;rw [yV];rfl
 have q5:aI Gb b5 0=some (.string name):=by unfold aI;rw [hmb _ _ xJ];rfl
 refine fM 2 H ?_;clear H;intro a H;refine nQ H wn rfl rfl ?_;clear H;intro a H;refine s_call XU H wn rfl (aai _ _ H.ro l (fun x=>decide (x.kind=kind) && KF x.name name) _ _ ((hv.mono hma).mono hmb) (fun x _=>ajD q4 q5 x)) rfl ?_;clear H;rintro v11 qX a w rfl BI H;refine aD 4 H ?_;clear H;intro a H;refine OO H wn rfl rfl rfl ?_;clear H;refine ak 5 ?_;intro a H;refine cu ?_;refine (eU H results219 (.cons (aZ H rfl) (.cons (aZ H rfl) .nil)) ?_).1;exact H.rt (by rw [← aan];rfl)
theorem ajF (G:GH) (w0:World) (hG:Hold G w0) (l:List bS) (id:Int) (v:aj) (hv:au G (.sl 6 (l.map bS.dat)) v) :
  Calls prog 221 #[v,vi id] w0 (bC w0 G fun u G'=>u=.tuple #[vi (max (mJ (MZ l id)) 0),.bool (MZ l id).isSome]):=by
 obtain ⟨A,c,rfl,hc1,hc2,-⟩:=hv.slice;rw [bM] at *;refine eN [(0,_),(1,_)] func221 rfl ntmps221 rfl rfl hG ?_;refine ak 1 ?_;intro a H;refine dP (cs:=[_]) H wn rfl rfl rfl ?_;clear H;intro b3 a w hb3 H;refine aD 3 H ?_;clear H;intro a H;obtain ⟨Ga,hma,rJ,H⟩:=H.eu
 have q3:aI Ga b3 0=some (vi id):=by unfold aI;rw [rJ];rfl
 refine fM 2 H ?_;clear H;intro a H;refine nQ H wn rfl rfl ?_;clear H;intro a H;refine s_call XU H wn rfl (aai _ _ H.ro l (fun x=>decide (x.id=id)) _ _ (hv.mono hma) (fun x _=>ajC q3 x)) rfl ?_;clear H;rintro v9 G9 a w rfl zk H;refine aD 4 H ?_;clear H;intro a H;refine OO H wn rfl rfl rfl ?_;clear H;refine ak 5 ?_;intro a H;refine cu ?_;refine (eU H results221 (.cons (aZ H rfl) (.cons (aZ H rfl) .nil)) ?_).1;exact H.rt (by rw [← aan];rfl)
def EY (l:List bS) (kind id:Int):Bool:=match MZ l id with|some i=>decide ((l[i]?.map bS.kind)=some kind)|none=>false
theorem TQ (G:GH) (w0:World) (hG:Hold G w0) (l:List bS) (kind id:Int) (v:aj) (hv:au G (.sl 6 (l.map bS.dat)) v) :
  Calls prog 181 #[v,vi kind,vi id] w0 (bC w0 G fun u G'=>u=.bool (EY l kind id)):=by
 obtain ⟨A,c,rfl,hc1,hc2,-⟩:=hv.slice;rw [bM] at *;refine eN [(0,_),(1,_),(2,_)] func181 rfl ntmps181 rfl rfl hG ?_;refine ak 6 ?_;intro a H;refine s_call ahr H wn rfl (ajF _ _ H.ro l id _ hv) rfl ?_;clear H;rintro v12 Bf a w rfl BJ H;obtain ⟨o,ho⟩:∃ o,o=MZ l id:=⟨_,rfl⟩;rw [← ho] at H;refine aD 1 H ?_;clear H;intro a H;(iterate 2 refine jY H wn rfl rfl rfl ?_;clear H;intro a H);refine kJ 6 16 H ?_ ?_ <;> clear H
 ·intro h16
  try have p16:=dT h16
  obtain ⟨i,rfl⟩:=Option.isSome_iff_exists.1 h16
  have hil:i < l.length:=by
   obtain ⟨hi,-⟩:=List.findIdx?_eq_some_iff_getElem.1 ho.symm;exact hi
  intro a H;rw [show max (mJ (some i)) 0=(i:Int) by simp [mJ]] at H;obtain ⟨b,o',pA,pc,rfl,hrow,hp,hrep⟩:=Co (hv.mono BJ) hil;have r1:aI Bf b (o'+i*6+1)=some (vi l[i].kind):=hrow 1 _ rfl;refine fu 10 H ?_
  first
   | exact (dB (by rw [EY,← ho];dsimp only;rw [eO hil];simp))
   | exact (dB (by rw [EY,← ho];cases o <;> simp_all))
 intro h16
 try have p16:=dF h16
 refine aP 10 ?_
 first
  | exact (dB (by rw [EY,← ho];dsimp only;rw [eO hil];simp))
  | exact (dB (by rw [EY,← ho];cases o <;> simp_all))
end
section
open Go.RowKit
theorem MU:∀ args w,(callFunc 218 args).run prog w=.ok (.enter 218 args) w:=enters func218 rfl (by kernel_rfl)
theorem aho:∀ args w,(callFunc 219 args).run prog w=.ok (.enter 219 args) w:=enters func219 rfl (by kernel_rfl)
instance Rb:dR prog 192 5 5:=⟨by kernel_rfl⟩
theorem ahq:∀ args w,(callFunc 220 args).run prog w=.ok (.enter 220 args) w:=enters func220 rfl (by kernel_rfl)
theorem XH:∀ args w,(callFunc 129 args).run prog w=.ok (.enter 129 args) w:=enters func129 rfl (by kernel_rfl)
theorem au.pre {G:GH} {sz:Nat} {rows:List (List Dat)} {A:Option Addr} {n c:Nat} (h:au G (.sl sz rows) (.slice A n c)) (k:Nat) (hk:k≤rows.length):au G (.sl sz (rows.take k)) (.slice A k c):=by
 have h:=h.part 0 k (gN _) hk
 have e:(if c=0 then A else A.map (·.add (0*sz)))=A:=by
  split
  ·rfl
  cases A <;> simp [Addr.add]
 rw [e] at h
 simpa using h
theorem afM (G:GH) (w0:World) (hG:Hold G w0) (kind:Int):Calls prog 220 #[vi kind] w0 (bC w0 G fun u G'=>u=vi (if kind=1 then 2 else 1)):=by
 refine eN [(0,_)] func220 rfl ntmps220 rfl rfl hG ?_;refine goB 8 ?_ ?_
 ·intro p4
  refine aP 3 ?_;first|(rw [av (by omega)];done)|rw [ah (by omega)]
 intro p4
 refine aP 4 ?_;first|(rw [av (by omega)];done)|rw [ah (by omega)]
def xR (l:List bS) (k:Nat):Option Int:=if k=0 then none else l[k - 1]?.map bS.id
theorem Ow {l:List bS} {k:Nat} (h:k=0):xR l k=none:=av h
def Gj (k:Int):Bool:=decide (k=20) || decide (k=1)
def lY (q:Option Int) (dup:Bool) (s:bS):Int :=
 if s.id < 1∨1073741824 < s.id then 18 else if q=some s.id then 7 else if Du q s.id=true then 6 else if s.kind≠1∧s.kind≠2 then 3 else if nO s.name=false then 13 else if dup=true then 7
 else if s.props.any (fun p=>Gj p.key)=true then 4 else gL (if s.kind=1 then 2 else 1) s.props
def iV (l:List bS) (k:Nat) (s:bS):Int:=lY (xR l k) (CZ (l.take k) s.kind s.name).isSome s
theorem aot (G:GH) (w0:World) (hG:Hold G w0) (l:List bS) (k:Nat) (v:aj) (hv:au G (.sl 6 (l.map bS.dat)) v) (hk:k < l.length) (hs:l[k].name.size≤4611686018427387904) :
  Calls prog 180 #[v,vi k] w0 (bC w0 G fun u G'=>u=vi (iV l k l[k])):=by
 obtain ⟨A,c,rfl,hc1,hc2,-⟩:=hv.slice;have hml:maxLen=9223372036854775807:=rfl;rw [bM] at *;obtain ⟨b,o,pA,pc,rfl,hrow,hp,hrep⟩:=Co hv hk;obtain ⟨x,hx⟩:∃ x,x=l[k]:=⟨_,rfl⟩;rw [← hx] at hs hrow hp hrep ⊢;have hdp:∀ j v,[vi x.id,vi x.kind,.string x.name,vi x.base,vi x.next,.slice pA x.props.length pc][j]?=some v→aI G b (o+k*6+j)=some v:=hrow;obtain ⟨_,_,he0,atC,atD,-⟩:=hp.slice
 injection he0 with _ he1 he2
 rw [bM] at *;subst he2
 obtain ⟨pk,hpk⟩:∃ pk,0 < k→aI G b (o+(k - 1)*6+0)=some (vi pk)∧xR l k=some pk:=by
  by_cases h0:0 < k
  ·obtain ⟨b',o',_,_,he,hr',-,-⟩:=Co hv (show k - 1 < l.length by omega)
   injection he with he
   injection he with e1 e2 e3
   subst e1;subst e2;exact ⟨_,fun _=>⟨hr' 0 _ rfl,by rw [xR,ah (by omega),eO (by omega)];rfl⟩⟩
  exact ⟨0,fun h=>absurd h h0⟩
 refine eN [(0,_),(1,_)] func180 rfl ntmps180 rfl rfl hG ?_;refine ak 7 ?_;intro a H;refine aR jD (cs:=[_,_,_,_,_,_]) H wn rfl rfl (fun j v hj=>H.hp.aI (hrow j v hj)) rfl ?_;clear H;intro a H;refine dz jD H wn rfl ?_;clear H;intro b5 a w hb5 H;refine aX jD 0 (vs:=[_,_,_,_,_,_]) _ H wn rfl rfl rfl rfl rfl rfl rfl rfl ?_;clear H;intro w H;dsimp only [List.set,setRow] at H;refine aC ?_;refine dQ ?_;refine qz (ι:=GH) (Tc:=[(0,_),(1,_),(5,_)]) (Lc:=[(_,_)]) (fun gh=>[]) (fun gh=>[]) (fun gh=>gh) (fun gh=>¬ (x.id < 1∨1073741824 < x.id)∧¬ xR l k=some x.id∧¬ Du (xR l k) x.id=true∧¬ (x.kind≠1∧x.kind≠2)∧¬ nO x.name=false∧(∀ b o,G b=some o→gh b=some o)) sB ?_ ?_
 ·refine Ag 6 18 H ?_ ?_ <;> clear H
  ·intro qI
   refine aP 10 ?_
   first
    | exact (aB vi e0.symm)
    | exact (aB vi e4.symm)
    | exact (aB vi e7.symm)
    | exact (aB vi e13.symm)
    | exact (aB vi e3.symm)
    | exact (aB vi e6.symm)
    | exact (aB vi (by rw [iV,lY,av (by omega)]))
  intro qI
  refine goB 6 ?_ ?_
  ·intro jX
   refine aP 3 ?_
   first
    | exact (aB vi e0.symm)
    | exact (aB vi e4.symm)
    | exact (aB vi e7.symm)
    | exact (aB vi e13.symm)
    | exact (aB vi e3.symm)
    | exact (aB vi e6.symm)
    | exact (aB vi (by rw [iV,lY,av (by omega)]))
  intro jX
  refine ak 1 ?_
  intro a H;by_cases c0:0 < (k:Int)
  ·skip
   by_cases c1:x.id=pk
   ·refine dI hmx [[],[0],[0,1],[0,1,2],(ra 0 4),[0,1,2],[0,1,2],[0,1,2,6],[0,1,2,5,6,7],[0,1,2,5,6,7,8],[0,1,2,5,6,7,8,9],(ra 0 11),(ra 0 12),(ra 0 13)] [13] (by kernel_rfl) [_,_,_,_,vi x.id,_,_,vi ((k - 1:Nat):Int),_,_,_,_,_] H (aF (Z0 rfl (Rm rfl)) (Z1 0 24 rfl (Rc rfl)) (Z1 1 25 rfl (Rm rfl)) (Z1 2 26 rfl (YF Ad (aK c0) rfl)) (aF (Z2 3 27 2 26 rfl (YO bR 0 (aK c0) rfl)) (Z1 2 26 rfl (YM (aK c0) rfl)) (Z1 2 26 rfl (YM (aK c0) rfl)) ?_ (aF (Z3 5 29 7 31 2 26 rfl (YI tX jD (aK c0) rfl rfl)) (Z2 8 32 2 26 rfl (YF Ad (aK c0) rfl)) (X2 9 33 2 26 rfl fun hG=>YR bR (aK c0) rfl (aH hG (hpk (by omega)).1)) (Z3 4 28 10 34 2 26 rfl (YC (aK c0) rfl)) (bH (Z2 2 26 11 35 rfl (Pt (aK c0) rfl)) (bH (bQ rfl) cO))))) ?_
    ·refine dD 6 30 2 26 rfl rfl fun _ a w G1 hG HT H fin=>?_;refine lK _ H (wg H rfl rfl (aK c0)) rfl rfl rfl (by omega) (by omega) rfl ?_;clear H;intro a H;exact fin H iJ (by show _=_;first|rfl|exact aB vi (by omega))
    clear H;intro a w G BD H hv;have H:=H.aN (hv 12 36 rfl rfl) rfl;clear hv;refine t1 3 H ?_;clear H
    have e7:iV l k x=7:=by rw [iV,lY,ah (by omega),av (by rw [(hpk (by omega)).2,c1])]
    refine aP 3 ?_
    first
     | exact (aB vi e0.symm)
     | exact (aB vi e4.symm)
     | exact (aB vi e7.symm)
     | exact (aB vi e13.symm)
     | exact (aB vi e3.symm)
     | exact (aB vi e6.symm)
     | exact (aB vi (by rw [iV,lY,av (by omega)]))
   refine dI hmx [[],[0],[0,1],[0,1,2],(ra 0 4),[0,1,2],[0,1,2],[0,1,2,6],[0,1,2,5,6,7],[0,1,2,5,6,7,8],[0,1,2,5,6,7,8,9],(ra 0 11),(ra 0 12),(ra 0 13)] [13] (by kernel_rfl) [_,_,_,_,vi x.id,_,_,vi ((k - 1:Nat):Int),_,_,_,_,_] H (aF (Z0 rfl (Rm rfl)) (Z1 0 24 rfl (Rc rfl)) (Z1 1 25 rfl (Rm rfl)) (Z1 2 26 rfl (YF Ad (aK c0) rfl)) (aF (Z2 3 27 2 26 rfl (YO bR 0 (aK c0) rfl)) (Z1 2 26 rfl (YM (aK c0) rfl)) (Z1 2 26 rfl (YM (aK c0) rfl)) ?_ (aF (Z3 5 29 7 31 2 26 rfl (YI tX jD (aK c0) rfl rfl)) (Z2 8 32 2 26 rfl (YF Ad (aK c0) rfl)) (X2 9 33 2 26 rfl fun hG=>YR bR (aK c0) rfl (aH hG (hpk (by omega)).1)) (Z3 4 28 10 34 2 26 rfl (YC (aK c0) rfl)) (bH (Z2 2 26 11 35 rfl (Pt (aK c0) rfl)) (bH (bQ rfl) cO))))) ?_
   ·refine dD 6 30 2 26 rfl rfl fun _ a w G1 hG HT H fin=>?_;refine lK _ H (wg H rfl rfl (aK c0)) rfl rfl rfl (by omega) (by omega) rfl ?_;clear H;intro a H;exact fin H iJ (by show _=_;first|rfl|exact aB vi (by omega))
   clear H;intro a w G BD H hv;have H:=H.aN (hv 12 36 rfl rfl) rfl;clear hv;refine t1 4 H ?_;clear H
   have q1:¬ (0 < (k:Int)∧x.id=pk):=by first|exact fun h=>c1 h.2|exact fun h=>c0 h.1
   have q1':¬ xR l k=some x.id:=fun h=>q1 (by
    by_cases h0:0 < k
    ·rw [(hpk h0).2] at h
     injection h with h
     exact ⟨by omega,h.symm⟩
    rw [Ow (by omega)] at h
    cases h)
   intro a H;by_cases c3:x.id < pk
   ·refine dI hmx [[],[0],[0,1],[0,1,2],(ra 0 4),[0,1,2],[0,1,2],[0,1,2,6],[0,1,2,5,6,7],[0,1,2,5,6,7,8],[0,1,2,5,6,7,8,9],(ra 0 11),(ra 0 12),(ra 0 13)] [13] (by kernel_rfl) [_,_,_,_,vi x.id,_,_,vi ((k - 1:Nat):Int),_,_,_,_,_] H (aF (Z0 rfl (Rm rfl)) (Z1 0 38 rfl (Rc rfl)) (Z1 1 39 rfl (Rm rfl)) (Z1 2 40 rfl (YF Ad (aK c0) rfl)) (aF (Z2 3 41 2 40 rfl (YO bR 0 (aK c0) rfl)) (Z1 2 40 rfl (YM (aK c0) rfl)) (Z1 2 40 rfl (YM (aK c0) rfl)) ?_ (aF (Z3 5 43 7 45 2 40 rfl (YI tX jD (aK c0) rfl rfl)) (Z2 8 46 2 40 rfl (YF Ad (aK c0) rfl)) (X2 9 47 2 40 rfl fun hG=>YR bR (aK c0) rfl (aH hG (aH BD (hpk (by omega)).1))) (Z3 4 42 10 48 2 40 rfl (YC (aK c0) rfl)) (bH (Z2 2 40 11 49 rfl (Pt (aK c0) rfl)) (bH (bQ rfl) cO))))) ?_
    ·refine dD 6 44 2 40 rfl rfl fun _ a w G1 hG HT H fin=>?_;refine lK _ H (wg H rfl rfl (aK c0)) rfl rfl rfl (by omega) (by omega) rfl ?_;clear H;intro a H;exact fin H iJ (by show _=_;first|rfl|exact aB vi (by omega))
    clear H;intro a w G gD H hv;have H:=H.aN (hv 12 50 rfl rfl) rfl;clear hv;refine t1 3 H ?_;clear H
    have e6:iV l k x=6:=by rw [iV,lY,ah (by omega),ah q1',av (by rw [(hpk (by omega)).2];exact aK c3)]
    refine aP 3 ?_
    first
     | exact (aB vi e0.symm)
     | exact (aB vi e4.symm)
     | exact (aB vi e7.symm)
     | exact (aB vi e13.symm)
     | exact (aB vi e3.symm)
     | exact (aB vi e6.symm)
     | exact (aB vi (by rw [iV,lY,av (by omega)]))
   refine dI hmx [[],[0],[0,1],[0,1,2],(ra 0 4),[0,1,2],[0,1,2],[0,1,2,6],[0,1,2,5,6,7],[0,1,2,5,6,7,8],[0,1,2,5,6,7,8,9],(ra 0 11),(ra 0 12),(ra 0 13)] [13] (by kernel_rfl) [_,_,_,_,vi x.id,_,_,vi ((k - 1:Nat):Int),_,_,_,_,_] H (aF (Z0 rfl (Rm rfl)) (Z1 0 38 rfl (Rc rfl)) (Z1 1 39 rfl (Rm rfl)) (Z1 2 40 rfl (YF Ad (aK c0) rfl)) (aF (Z2 3 41 2 40 rfl (YO bR 0 (aK c0) rfl)) (Z1 2 40 rfl (YM (aK c0) rfl)) (Z1 2 40 rfl (YM (aK c0) rfl)) ?_ (aF (Z3 5 43 7 45 2 40 rfl (YI tX jD (aK c0) rfl rfl)) (Z2 8 46 2 40 rfl (YF Ad (aK c0) rfl)) (X2 9 47 2 40 rfl fun hG=>YR bR (aK c0) rfl (aH hG (aH BD (hpk (by omega)).1))) (Z3 4 42 10 48 2 40 rfl (YC (aK c0) rfl)) (bH (Z2 2 40 11 49 rfl (Pt (aK c0) rfl)) (bH (bQ rfl) cO))))) ?_
   ·refine dD 6 44 2 40 rfl rfl fun _ a w G1 hG HT H fin=>?_;refine lK _ H (wg H rfl rfl (aK c0)) rfl rfl rfl (by omega) (by omega) rfl ?_;clear H;intro a H;exact fin H iJ (by show _=_;first|rfl|exact aB vi (by omega))
   clear H;intro a w G gD H hv;have H:=H.aN (hv 12 50 rfl rfl) rfl;clear hv;refine t1 3 H ?_;clear H;intro a H;refine YG ?_
   have q2:¬ (0 < (k:Int)∧x.id < pk):=by first|exact fun h=>c3 h.2|exact fun h=>c0 h.1
   have q2':¬ Du (xR l k) x.id=true:=fun h=>q2 (by
    by_cases h0:0 < k
    ·rw [(hpk h0).2] at h;exact ⟨by omega,mE h⟩
    rw [Ow (by omega)] at h
    cases h)
   refine Ag 5 55 H ?_ ?_ <;> clear H
   ·intro p55
    refine goB 6 ?_ ?_
    ·intro p51
     have e3:iV l k x=3:=by rw [iV,lY,ah (by omega),ah q1',ah q2',av (by omega)]
     refine aP 3 ?_
     first
      | exact (aB vi e0.symm)
      | exact (aB vi e4.symm)
      | exact (aB vi e7.symm)
      | exact (aB vi e13.symm)
      | exact (aB vi e3.symm)
      | exact (aB vi e6.symm)
      | exact (aB vi (by rw [iV,lY,av (by omega)]))
    intro p51
    refine ak 3 ?_;intro a H;refine s_call MU H wn rfl (N7 _ _ H.ro x.name hs) rfl ?_;clear H;rintro v63 D8 a w rfl hm63 H;refine iR 3 H ?_ ?_ <;> clear H
    ·intro jU
     try have p60:=dT jU
     have e13:iV l k x=13:=by rw [iV,lY,ah (by omega),ah q1',ah q2',ah (by omega),av (by simpa using jU)]
     refine aP 3 ?_
     first
      | exact (aB vi e0.symm)
      | exact (aB vi e4.symm)
      | exact (aB vi e7.symm)
      | exact (aB vi e13.symm)
      | exact (aB vi e3.symm)
      | exact (aB vi e6.symm)
      | exact (aB vi (by rw [iV,lY,av (by omega)]))
    intro jU
    try have p60:=dF jU
    intro a H;refine jL ?_;refine ⟨D8,sB,?_⟩;exact ⟨by omega,q1',q2',by omega,by simpa using jU,fun b o h=>hm63 b o (gD b o (BD b o h))⟩
   intro p55
   refine ak 10 ?_;intro a H;refine s_call MU H wn rfl (N7 _ _ H.ro x.name hs) rfl ?_;clear H;rintro v63 D8 a w rfl hm63 H;refine iR 3 H ?_ ?_ <;> clear H
   ·intro jU
    try have p60:=dT jU
    have e13:iV l k x=13:=by rw [iV,lY,ah (by omega),ah q1',ah q2',ah (by omega),av (by simpa using jU)]
    refine aP 3 ?_
    first
     | exact (aB vi e0.symm)
     | exact (aB vi e4.symm)
     | exact (aB vi e7.symm)
     | exact (aB vi e13.symm)
     | exact (aB vi e3.symm)
     | exact (aB vi e6.symm)
     | exact (aB vi (by rw [iV,lY,av (by omega)]))
   intro jU
   try have p60:=dF jU
   intro a H;refine jL ?_;refine ⟨D8,sB,?_⟩;exact ⟨by omega,q1',q2',by omega,by simpa using jU,fun b o h=>hm63 b o (gD b o (BD b o h))⟩
  refine dI hmx [[],[0],[0,1],[0,1,2],(ra 0 4),[0,1,2],[0,1,2],[0,1,2,6],[0,1,2,5,6,7],[0,1,2,5,6,7,8],[0,1,2,5,6,7,8,9],(ra 0 11),(ra 0 12),(ra 0 13)] [13] (by kernel_rfl) [_,_,_,undef,undef,undef,undef,undef,undef,undef,undef,undef,_] H (aF (Z0 rfl (Rm rfl)) (Z1 0 24 rfl (Rc rfl)) (Z1 1 25 rfl (Rm rfl)) (aY 2 (bD c0) rfl rfl) (aF (aY 2 (bD c0) rfl rfl) (aY 2 (bD c0) rfl rfl) (aY 2 (bD c0) rfl rfl) (aY 2 (bD c0) rfl rfl) (aF (aY 2 (bD c0) rfl rfl) (aY 2 (bD c0) rfl rfl) (aY 2 (bD c0) rfl rfl) (aY 2 (bD c0) rfl rfl) (bH (Z2 2 26 11 35 rfl (Pf (bD c0) rfl)) (bH (bQ rfl) cO))))) ?_
  clear H;intro a w G BD H hv;have H:=H.aN (hv 12 36 rfl rfl) rfl;clear hv;refine t1 4 H ?_;clear H
  have q1:¬ (0 < (k:Int)∧x.id=pk):=by first|exact fun h=>c1 h.2|exact fun h=>c0 h.1
  have q1':¬ xR l k=some x.id:=fun h=>q1 (by
   by_cases h0:0 < k
   ·rw [(hpk h0).2] at h
    injection h with h
    exact ⟨by omega,h.symm⟩
   rw [Ow (by omega)] at h
   cases h)
  intro a H;refine dI hmx [[],[0],[0,1],[0,1,2],(ra 0 4),[0,1,2],[0,1,2],[0,1,2,6],[0,1,2,5,6,7],[0,1,2,5,6,7,8],[0,1,2,5,6,7,8,9],(ra 0 11),(ra 0 12),(ra 0 13)] [13] (by kernel_rfl) [_,_,_,undef,undef,undef,undef,undef,undef,undef,undef,undef,_] H (aF (Z0 rfl (Rm rfl)) (Z1 0 38 rfl (Rc rfl)) (Z1 1 39 rfl (Rm rfl)) (aY 2 (bD c0) rfl rfl) (aF (aY 2 (bD c0) rfl rfl) (aY 2 (bD c0) rfl rfl) (aY 2 (bD c0) rfl rfl) (aY 2 (bD c0) rfl rfl) (aF (aY 2 (bD c0) rfl rfl) (aY 2 (bD c0) rfl rfl) (aY 2 (bD c0) rfl rfl) (aY 2 (bD c0) rfl rfl) (bH (Z2 2 40 11 49 rfl (Pf (bD c0) rfl)) (bH (bQ rfl) cO))))) ?_
  clear H;intro a w G gD H hv;have H:=H.aN (hv 12 50 rfl rfl) rfl;clear hv;refine t1 3 H ?_;clear H;intro a H;refine YG ?_
  have q2:¬ (0 < (k:Int)∧x.id < pk):=by first|exact fun h=>c3 h.2|exact fun h=>c0 h.1
  have q2':¬ Du (xR l k) x.id=true:=fun h=>q2 (by
   by_cases h0:0 < k
   ·rw [(hpk h0).2] at h;exact ⟨by omega,mE h⟩
   rw [Ow (by omega)] at h
   cases h)
  refine Ag 5 55 H ?_ ?_ <;> clear H
  ·intro p55
   refine goB 6 ?_ ?_
   ·intro p51
    have e3:iV l k x=3:=by rw [iV,lY,ah (by omega),ah q1',ah q2',av (by omega)]
    refine aP 3 ?_
    first
     | exact (aB vi e0.symm)
     | exact (aB vi e4.symm)
     | exact (aB vi e7.symm)
     | exact (aB vi e13.symm)
     | exact (aB vi e3.symm)
     | exact (aB vi e6.symm)
     | exact (aB vi (by rw [iV,lY,av (by omega)]))
   intro p51
   refine ak 3 ?_;intro a H;refine s_call MU H wn rfl (N7 _ _ H.ro x.name hs) rfl ?_;clear H;rintro v63 D8 a w rfl hm63 H;refine iR 3 H ?_ ?_ <;> clear H
   ·intro jU
    try have p60:=dT jU
    have e13:iV l k x=13:=by rw [iV,lY,ah (by omega),ah q1',ah q2',ah (by omega),av (by simpa using jU)]
    refine aP 3 ?_
    first
     | exact (aB vi e0.symm)
     | exact (aB vi e4.symm)
     | exact (aB vi e7.symm)
     | exact (aB vi e13.symm)
     | exact (aB vi e3.symm)
     | exact (aB vi e6.symm)
     | exact (aB vi (by rw [iV,lY,av (by omega)]))
   intro jU
   try have p60:=dF jU
   intro a H;refine jL ?_;refine ⟨D8,sB,?_⟩;exact ⟨by omega,q1',q2',by omega,by simpa using jU,fun b o h=>hm63 b o (gD b o (BD b o h))⟩
  intro p55
  refine ak 10 ?_;intro a H;refine s_call MU H wn rfl (N7 _ _ H.ro x.name hs) rfl ?_;clear H;rintro v63 D8 a w rfl hm63 H;refine iR 3 H ?_ ?_ <;> clear H
  ·intro jU
   try have p60:=dT jU
   have e13:iV l k x=13:=by rw [iV,lY,ah (by omega),ah q1',ah q2',ah (by omega),av (by simpa using jU)]
   refine aP 3 ?_
   first
    | exact (aB vi e0.symm)
    | exact (aB vi e4.symm)
    | exact (aB vi e7.symm)
    | exact (aB vi e13.symm)
    | exact (aB vi e3.symm)
    | exact (aB vi e6.symm)
    | exact (aB vi (by rw [iV,lY,av (by omega)]))
  intro jU
  try have p60:=dF jU
  intro a H;refine jL ?_;refine ⟨D8,sB,?_⟩;exact ⟨by omega,q1',q2',by omega,by simpa using jU,fun b o h=>hm63 b o (gD b o (BD b o h))⟩
 clear H;intro g a w hI H;obtain ⟨q0,q1',q2',q3,q4,hgm⟩:=hI;dsimp only [lca,bG] at H;refine C9 ?_;refine C9 ?_;have Z4:=(hv.mono hgm).pre k (by rw [bM];omega);rw [← List.map_take] at Z4;have alZ:=hp.mono hgm;refine dI hmx [[],[],[0,1],[],[3],[],[5],(ra 0 7),(ra 0 8),(ra 0 9),(ra 0 9),(ra 0 10),(ra 0 12)] [12] (by kernel_rfl) [_,_,.slice (some ⟨b,o,none⟩) k c,_,vi x.kind,_,.string x.name,.tuple #[vi (max (mJ (CZ (l.take k) x.kind x.name)) 0),.bool (CZ (l.take k) x.kind x.name).isSome],_,vi (max (mJ (CZ (l.take k) x.kind x.name)) 0),.bool (CZ (l.take k) x.kind x.name).isSome,_] H (aF (Z0 rfl (Rm rfl)) (Z0 rfl (Rm rfl)) ?_ (Z0 rfl (Rf Q9 rfl)) (aF (Z1 3 69 rfl (Ro bR 0 rfl)) (Z0 rfl (Rf ajs rfl)) (Z1 5 71 rfl (Ro mh 0 rfl)) ?_ (aF (Z1 7 73 rfl (Rm rfl)) ?_ ?_ (Z1 9 74 rfl (Ra rfl)) (bH (bQ rfl) cO)))) ?_
 ·refine dD 0 66 1 67 rfl rfl fun _ a w G1 hG HT H fin=>?_;refine DJ tX jD k H wn rfl rfl rfl (by omega) rfl ?_;clear H;intro a H;exact fin H iJ rfl
 ·refine xA 2 68 4 70 6 72 rfl rfl fun _ a w G1 hG HT H fin=>?_;refine s_call aho H wn rfl (ajE _ _ H.ro (l.take k) x.kind x.name _ (Z4.mono hG)) rfl ?_;clear H;rintro v73 G73 a w rfl akq H;exact fin H akq (rfl)
 ·refine dZ 8 65 rfl rfl fun _ a w G1 hG HT H fin=>?_;refine jY H wn rfl rfl rfl ?_;clear H;intro a H;exact fin H iJ rfl
 ·refine dZ 8 65 rfl rfl fun _ a w G1 hG HT H fin=>?_;refine jY H wn rfl rfl rfl ?_;clear H;intro a H;exact fin H iJ rfl
 clear H;intro a w G mV H hv;have H:=H.aN (hv 10 75 rfl rfl) rfl;clear hv;refine t1 5 H ?_;clear H;refine goC 0 ?_ ?_
 ·intro JB
  try have KG:=dT JB
  have e7:iV l k x=7:=by rw [iV,lY,ah (by omega),ah q1',ah q2',ah q3,ah q4,av JB]
  refine aP 3 ?_
  first
   | exact (aB vi e0.symm)
   | exact (aB vi e4.symm)
   | exact (aB vi e7.symm)
   | exact (aB vi e13.symm)
   | exact (aB vi e3.symm)
   | exact (aB vi e6.symm)
   | exact (aB vi (by rw [iV,lY,av (by omega)]))
 intro JB
 try have KG:=dF JB
 refine ak 2 ?_
 have q5:¬ (CZ (l.take k) x.kind x.name).isSome=true:=by simpa using JB
 have Dm:=alZ.mono mV;refine ak 7 ?_;intro a H;refine eH (ι:=Nat) (Tc:=[(5,_),(78,_),(79,_)]) (Lc:=[(_,_)]) (fun gh=>[(80,vi gh)]) (fun gh=>[]) (fun gh=>G) (fun gh=>gh≤x.props.length∧(x.props.take gh).any (fun p=>Gj p.key)=false) (fun gh=>x.props.length - gh) (0) sB ?_ ?_
 ·exact ⟨gN _,rfl⟩
 clear H;intro n a w hI H;obtain ⟨hn,hno⟩:=hI;dsimp only [lca,bG] at H;refine dO 4 H ?_ ?_ <;> clear H
 ·intro p81
  have hn2:n < x.props.length:=by omega
  obtain ⟨pb,po,rfl,hrow2⟩:=Fq Dm hn2;have hrow:=hrow2;refine ak 5 ?_;intro a H;refine aR gM (cs:=[_,_]) H wn rfl rfl (fun j v hj=>H.hp.aI (hrow j v hj)) rfl ?_;clear H;intro a H;refine dz gM H wn rfl ?_;clear H;intro b9 a w tC H;refine aX gM 0 (vs:=[_,_]) _ H wn rfl rfl rfl rfl rfl rfl rfl rfl ?_;clear H;intro w H;dsimp only [List.set,setRow] at H;refine pU 6 87 H ?_ ?_ <;> clear H
  ·intro Uz
   refine ak 6 ?_
   have e4:iV l k x=4:=by
    rw [iV,lY,ah (by omega),ah q1',ah q2',ah q3,ah q4,ah q5,av];rw [List.any_eq_true];exact ⟨x.props[n],lD hn2,by simp [Gj];omega⟩
   refine aP 3 ?_
   first
    | exact (aB vi e0.symm)
    | exact (aB vi e4.symm)
    | exact (aB vi e7.symm)
    | exact (aB vi e13.symm)
    | exact (aB vi e3.symm)
    | exact (aB vi e6.symm)
    | exact (aB vi (by rw [iV,lY,av (by omega)]))
  intro Uz
  refine goB 5 ?_ ?_
  ·intro p91
   have e4:iV l k x=4:=by
    rw [iV,lY,ah (by omega),ah q1',ah q2',ah q3,ah q4,ah q5,av];rw [List.any_eq_true];exact ⟨x.props[n],lD hn2,by simp [Gj];omega⟩
   refine aP 3 ?_
   first
    | exact (aB vi e0.symm)
    | exact (aB vi e4.symm)
    | exact (aB vi e7.symm)
    | exact (aB vi e13.symm)
    | exact (aB vi e3.symm)
    | exact (aB vi e6.symm)
    | exact (aB vi (by rw [iV,lY,av (by omega)]))
  intro p91
  refine ak 4 ?_;intro a H;refine aC ?_;refine cB ((n+1)) (by exact (H.dY (Pl:=[_,_]) (dJ:=[_]) [1] (by decide) rfl).sub ⟨rfl,rfl,rfl,rfl,bq⟩) ?_ ?_
  ·exact ⟨by omega,by rw [fP hn2,List.any_append,hno];simp [Gj];omega⟩
  first|omega|(dsimp only;omega)
 intro p81
 refine ak 2 ?_
 have q6:¬ x.props.any (fun p=>Gj p.key)=true:=by
  rw [show x.props.take n=x.props from fJ (by omega)] at hno;rw [hno];decide
 have e0:iV l k x=gL (if x.kind=1 then 2 else 1) x.props:=by rw [iV,lY,ah (by omega),ah q1',ah q2',ah q3,ah q4,ah q5,ah q6]
 intro a H;refine dI hmx [[],[0],[0,1],[],[3],(ra 0 5),(ra 0 6)] [5,6] (by kernel_rfl) [_,vi x.kind,vi (if x.kind=1 then 2 else 1),_,.slice pA x.props.length pc] H (aF (Z0 rfl (Rf Q9 rfl)) (Z1 0 93 rfl (Ro bR 0 rfl)) ?_ (Z0 rfl (Rf Rb rfl)) (bH (Z1 3 96 rfl (Ro FC 0 rfl)) (bH (bQ rfl) (bH (bQ rfl) cO)))) ?_
 ·refine dZ 1 94 rfl rfl fun _ a w G1 hG HT H fin=>?_;refine s_call ahq H wn rfl (afM _ _ H.ro x.kind) rfl ?_;clear H;rintro v95 G95 a w rfl akr H;exact fin H akr (rfl)
 clear H;intro a w G He H hv;have H:=H.aN (hv 2 95 rfl rfl) rfl;have H:=H.aN (hv 4 97 rfl rfl) rfl;clear hv;refine s_call XH H wn rfl (abe _ _ H.ro _ x.props _ (Dm.mono He)) rfl ?_;clear H;rintro v98 G98 a w rfl atB H;refine kH H (Ra rfl ?_);clear H;intro a H;refine aC ⟨rfl,?_⟩;refine dQ ?_;refine uy 0 H ?_
 first
  | exact (aB vi e0.symm)
  | exact (aB vi e4.symm)
  | exact (aB vi e7.symm)
  | exact (aB vi e13.symm)
  | exact (aB vi e3.symm)
  | exact (aB vi e6.symm)
  | exact (aB vi (by rw [iV,lY,av (by omega)]))
end
section
open Go.RowKit
instance Pg:Ty prog 33 1 24 [.slice none 0 0] false:=⟨by kernel_rfl,by kernel_rfl⟩
theorem A9:prog.underlying 33=some (.slice 107):=by kernel_rfl
instance:jZ prog 33 (.slice 107):=⟨A9⟩
instance yg:Ty prog 107 6 64 [.int .i64 0,.int .i64 0,.string ⟨#[]⟩,.int .i64 0,.string ⟨#[]⟩,.bool false] true:=⟨by kernel_rfl,by kernel_rfl⟩
instance:dR prog 107 0 0:=⟨by kernel_rfl⟩
instance:dR prog 107 1 1:=⟨by kernel_rfl⟩
theorem aht:∀ args w,(callFunc 224 args).run prog w=.ok (.enter 224 args) w:=enters func224 rfl (by kernel_rfl)
theorem agZ:∀ args w,(callFunc 187 args).run prog w=.ok (.enter 187 args) w:=enters func187 rfl (by kernel_rfl)
instance ajm:dR prog 107 2 2:=⟨by kernel_rfl⟩
theorem XG:∀ args w,(callFunc 127 args).run prog w=.ok (.enter 127 args) w:=enters func127 rfl (by kernel_rfl)
instance ajn:dR prog 107 3 3:=⟨by kernel_rfl⟩
instance ajo:dR prog 107 4 4:=⟨by kernel_rfl⟩
theorem QL:∀ args w,(callFunc 190 args).run prog w=.ok (.enter 190 args) w:=enters func190 rfl (by kernel_rfl)
theorem ahb:∀ args w,(callFunc 189 args).run prog w=.ok (.enter 189 args) w:=enters func189 rfl (by kernel_rfl)
theorem aha:∀ args w,(callFunc 188 args).run prog w=.ok (.enter 188 args) w:=enters func188 rfl (by kernel_rfl)
theorem agY:∀ args w,(callFunc 186 args).run prog w=.ok (.enter 186 args) w:=enters func186 rfl (by kernel_rfl)
theorem EX {G:GH} {b:Nat} (l:List Int) (h:G b=some (.cells (l.map vi).toArray 49 (0,0))) (hl:l.length≤maxLen):au G (.sl 1 (l.map fun k=>[li k])) (.slice (some ⟨b,0,none⟩) l.length l.length) :=
 au.eX h (by simp) (bP _) hl (fJ (by simp)) (fG G l)
theorem Qu {G:GH} {l:List fE} {A:Option Addr} {n c k:Nat} (hv:au G (.sl 6 (l.map fE.dat)) (.slice A n c)) (hk:k < l.length):∃ b o,A=some ⟨b,o,none⟩∧(∀ j u,l[k].cells[j]?=some u→aI G b (o+k*6+j)=some u)∧aU G l[k].dat l[k].cells:=by
 obtain ⟨A',c',he,_,_,hg⟩:=hv.slice
 injection he with e1 e2 e3
 subst e1;obtain ⟨b,o,cs,h1,h2,h3,h4⟩:=hg k l[k].dat (by simp [hk]);have:=MI h4;subst this;exact ⟨b,o,h1,h3,h4⟩
theorem afl {G:GH} {bl:Nat} {l:List fE} {A:Option Addr} {n c:Nat} (hb:aI G bl 0=some (.slice A n c)) (hv:au G (.sl 6 (l.map fE.dat)) (.slice A n c)):sJ (.func (.func 189) #[] #[(aG bl 0)]) G l.length fun k=>(l[k]?.map fE.id).getD 0:=by
 intro k hk G1 w0 hm hG;refine iM (caps:=[(aG bl 0)]) ahb ?_;replace hb:=aH hm hb
 obtain rfl:n=l.length:=by have:=hv.len;simpa using this
 obtain ⟨b,o,rfl,hrow,-⟩:=Qu (hv.mono hm) hk;have hq:=hrow 0 _ rfl;refine eN [(0,_),(1,_)] func189 rfl ntmps189 rfl rfl hG ?_;refine aP 11 ?_;dsimp only;rw [eO hk];rfl
theorem afm {G:GH} {bc:Nat} {x:fE} (hb:aI G bc 1=some (vi x.parent)) (y:fE):qY (.func (.func 188) #[] #[(aG bc 0)]) G y.dat (decide (y.id=x.parent)):=by
 intro G1 w0 cs hm hG hr;refine iM (caps:=[(aG bc 0)]) aha ?_;obtain rfl:=MI hr;replace hb:=aH hm hb;refine eN [(0,_),(1,_)] func188 rfl ntmps188 rfl rfl hG ?_;refine ak 1 ?_;intro a H;refine dP (cs:=[_,_,_,_,_,_]) H wn rfl rfl rfl ?_;clear H;intro b2 a w hb2 H;refine fu 10 H ?_;exact rfl
theorem amQ (G:GH) (w0:World) (hG:Hold G w0) (l:List fE) (p:fE→Bool) (v fv:aj) (hv:au G (.sl 6 (l.map fE.dat)) v) (hf:∀ x∈l,qY fv G x.dat (p x)) :
  Calls prog 224 #[v,fv] w0 (bC w0 G fun u G'=>u=vi (mJ (l.findIdx? p))):=by
 obtain ⟨A,c,rfl,hc1,hc2,hg⟩:=hv.slice;have hml:maxLen=9223372036854775807:=rfl;rw [bM] at *;refine eN [(0,_),(1,_)] func224 rfl ntmps224 rfl rfl hG ?_;refine ak 10 ?_;intro a H;refine eH (ι:=Nat × GH) (Tc:=[(0,_),(1,_),(7,_)]) (Lc:=[]) (fun gh=>[(8,vi gh.1)]) (fun gh=>[]) (fun gh=>gh.2) (fun gh=>gh.1≤l.length∧(l.take gh.1).findIdx? p=none∧(∀ b o,G b=some o→gh.2 b=some o)) (fun gh=>l.length - gh.1) ((0,G)) sB ?_ ?_
 ·exact ⟨by omega,rfl,fun _ _ h=>h⟩
 clear H;rintro ⟨k,g⟩ a w hI H;dsimp only at hI H;obtain ⟨hk,hno,hgm⟩:=hI;dsimp only [lca,bG] at H;refine dO 4 H ?_ ?_ <;> clear H
 ·intro p9
  have hk2:k < l.length:=by omega
  obtain ⟨b,o,rfl,hrow,hrep⟩:=Qu hv hk2;refine ak 12 ?_;intro a H;refine aR yg (cs:=l[k].cells) H wn rfl rfl (fun j v hj=>H.hp.aI (aH hgm (hrow j v hj))) rfl ?_;clear H;intro a H;refine ji H wn rfl rfl (hf _ (lD hk2) _ _ _ hgm H.ro (hrep.mono hgm)) rfl ?_;clear H;rintro v16 nk a w rfl gU H;refine iR 1 H ?_ ?_ <;> clear H
  ·intro h16
   try have p16:=dT h16
   refine aP 4 ?_
   first
    | exact (by rw [rR hk2 hno h16];rfl)
    | exact (by rw [show l.take k=l from fJ (by omega)] at hno;rw [hno];rfl)
  intro h16
  try have p16:=dF h16
  refine ak 4 ?_;intro a H;refine aC ?_;refine cB ((k+1,nk)) sB ?_ ?_
  ·(try dsimp only);exact ⟨by omega,BU hk2 hno h16,fun b o h=>gU b o (hgm b o h)⟩
  first|omega|(dsimp only;omega)
 intro p9
 refine aP 4 ?_
 first
  | exact (by rw [rR hk2 hno h16];rfl)
  | exact (by rw [show l.take k=l from fJ (by omega)] at hno;rw [hno];rfl)
theorem afo (G:GH) (w0:World) (hG:Hold G w0) (l:List fE) (p:fE→Bool) (v fv:aj) (hv:au G (.sl 6 (l.map fE.dat)) v) (hf:∀ x∈l,qY fv G x.dat (p x)) :
  Calls prog 187 #[v,fv] w0 (bC w0 G fun u G'=>u=.bool (l.findIdx? p).isSome):=by
 obtain ⟨A,c,rfl,hc1,hc2,-⟩:=hv.slice;rw [bM] at *;refine eN [(0,_),(1,_)] func187 rfl ntmps187 rfl rfl hG ?_;refine ak 6 ?_;intro a H;refine s_call aht H wn rfl (amQ _ _ H.ro l p _ _ hv hf) rfl ?_;clear H;rintro v7 G7 a w rfl wL H;refine fu 3 H ?_;exact (dB (TR _))
def Gm (l:List fE) (i:Nat) (x:fE):Bool:=decide (x.parent=0) || ((l.take i).findIdx? fun y=>decide (y.id=x.parent)).isSome
def Qt (l:List fE) (i:Nat) (x:fE):Int:=dh [pY (fun k=>(l[k]?.map fE.id).getD 0) i,dx (!Gm l i x) 8,dx (!wB x.author) 39,dx (!decide (0≤x.time∧x.time≤1099511627776)) 40,Cr x.text]
def Gw (l:List fE) (i:Nat):Int:=match l[i]? with|some x=>Qt l i x|none=>0
theorem afk {G:GH} {bl:Nat} {l:List fE} {A:Option Addr} {n c:Nat} (hb:aI G bl 0=some (.slice A n c)) (hv:au G (.sl 6 (l.map fE.dat)) (.slice A n c)) (hl:l.length≤4294967296) (ht:∀ x∈l,x.author.size < 4611686018427387904∧x.text.size < 4611686018427387904):sJ (.func (.func 186) #[] #[(aG bl 0)]) G l.length (Gw l):=by
 intro k hk G1 w0 hm hG;refine iM (caps:=[(aG bl 0)]) agY ?_;replace hb:=aH hm hb;replace hv:=hv.mono hm;have hcb:=afl hb hv;obtain ⟨_,_,hee,hvc,-,-⟩:=hv.slice
 injection hee with _ _ hcc
 subst hcc;rw [bM] at hvc
 obtain rfl:n=l.length:=by have:=hv.len;simpa using this
 obtain ⟨b,o,rfl,hrow,hrep⟩:=Qu hv hk;have hte:=ht _ (lD hk);obtain ⟨x,hx⟩:∃ x,x=l[k]:=⟨_,rfl⟩;rw [← hx] at hrow hte
 have he:Gw l k=Qt l k x:=by unfold Gw;rw [eO hk,hx]
 refine eN [(0,_),(1,_)] func186 rfl ntmps186 rfl rfl hG ?_;refine ak 7 ?_;intro a H;refine aR yg (cs:=x.cells) H wn rfl rfl (fun j v hj=>H.hp.aI (hrow j v hj)) rfl ?_;clear H;intro a H;refine dz yg H wn rfl ?_;clear H;intro b4 a w hb4 H;refine aX yg 0 (vs:=[_,_,_,_,_,_]) _ H wn rfl rfl rfl rfl rfl rfl rfl rfl ?_;clear H;intro w H;dsimp only [List.set,setRow] at H;obtain ⟨Ga,hma,yV,H⟩:=H.eu
 have hcell:∀ (j:Nat) (u:aj),x.cells[j]?=some u→aI Ga b4 j=some u:=fun j u hj=>by unfold aI;rw [yV];simpa using hj
 have q1:=hcell 1 _ rfl;have hbA:=aH hma hb;have NU:=(hv.mono hma).pre k (by rw [bM];omega);rw [← List.map_take] at NU;refine aC ?_;refine dQ ?_;refine qz (ι:=Bool × GH) (Tc:=[(0,_),(1,_),(4,_)]) (Lc:=[]) (fun gh=>[(5,.bool gh.1)]) (fun gh=>[]) (fun gh=>gh.2) (fun gh=>gh.1=Gm l k x∧(∀ b o,Ga b=some o→gh.2 b=some o)) sB ?_ ?_
 ·refine gcQ 5 13 H ?_ ?_ <;> clear H
  ·intro mU
   try have oJ:=dT mU
   refine ak 7 ?_;intro a H;refine aC ?_;refine ⟨(_,_),sB,?_⟩;(try dsimp only)
   first
   | exact ⟨by unfold Gm;rw [iQ (by assumption)];rfl,fun _ _ h=>h⟩
   | exact ⟨by unfold Gm;rw [iY (by assumption)];rfl,hm18⟩
  intro mU
  try have oJ:=dF mU
  refine ak 2 ?_;intro a H;refine DJ A9 yg k H (wg H rfl rfl mU) rfl rfl rfl (by omega) rfl ?_;clear H;intro a H;refine nQ H (wg H rfl rfl mU) rfl rfl ?_;clear H;intro a H;refine s_call agZ H (wg H rfl rfl mU) rfl (afo _ _ H.ro (l.take k) (fun y=>decide (y.id=x.parent)) _ _ NU (fun y _=>afm q1 y)) rfl ?_;clear H;rintro v18 VJ a w rfl hm18 H;refine aD 2 H ?_;clear H;intro a H;refine aC ?_;refine ⟨(_,_),sB,?_⟩;(try dsimp only)
  first
  | exact ⟨by unfold Gm;rw [iQ (by assumption)];rfl,fun _ _ h=>h⟩
  | exact ⟨by unfold Gm;rw [iY (by assumption)];rfl,hm18⟩
 clear H;rintro ⟨bf,g⟩ a w hI H;dsimp only at hI H;obtain ⟨hbf,hgm⟩:=hI;replace hcell:=fun j u hj=>aH hgm (hcell j u hj);replace hcb:=(hcb.mono hma).mono hgm;dsimp only [lca,bG] at H;refine C9 ?_;have H:=H.sub (T':=[(0,_),(1,_),(4,_),(5,_)]) ⟨rfl,rfl,rfl,rfl,bq⟩;refine dI hmx [[],[],[0,1],[],[3],(ra 0 5),[],[6],(ra 0 8),(ra 0 9),(ra 0 10),[],[11],(ra 0 13),(ra 0 14),(ra 0 15),[],[16],(ra 0 18),(ra 0 19),(ra 0 20),(ra 0 21)] [19,20,21] (by kernel_rfl) [_,.func (.func 189) #[] #[(aG bl 0)],vi (pY (fun k=>(l[k]?.map fE.id).getD 0) k),_,_,vi (dx (!bf) 8),_,_,.bool (wB x.author),_,vi (dx (!wB x.author) 39),_,_,.bool (decide (0≤x.time∧x.time≤1099511627776)),_,vi (dx (!decide (0≤x.time∧x.time≤1099511627776)) 40),_,_,vi (Cr x.text)] H (aF (Z0 rfl (Rm rfl)) ?_ ?_ (Z0 rfl (Rm rfl)) (aF (Z1 3 23 rfl (Rn rfl)) ?_ (Z0 rfl (Rf ajm rfl)) (X1 6 26 rfl fun hG=>Rg mh rfl (aH hG (hcell 2 _ rfl))) (aF ?_ (Z1 8 28 rfl (Rn rfl)) ?_ (Z0 rfl (Rf ajn rfl)) (aF (X1 11 31 rfl fun hG=>Rg bR rfl (aH hG (hcell 3 _ rfl))) ?_ (Z1 13 33 rfl (Rn rfl)) ?_ (aF (Z0 rfl (Rf ajo rfl)) (X1 16 36 rfl fun hG=>Rg mh rfl (aH hG (hcell 4 _ rfl))) ?_ (bQ rfl) (bH (bQ rfl) (bH (bQ rfl) cO))))))) ?_
 ·refine Bh rfl fun _ a w G1 hG HT H fin=>?_;refine nQ H wn rfl rfl ?_;clear H;intro a H;exact fin H iJ rfl
 ·refine dD 0 20 1 21 rfl rfl fun _ a w G1 hG HT H fin=>?_;refine s_call QF H wn rfl (TM _ _ H.ro k _ _ (by omega) (fun i hi=>(hcb.mono hG) i (by omega))) rfl ?_;clear H;rintro v22 VK a w rfl RS H;exact fin H RS (rfl)
 ·refine dZ 4 24 rfl rfl fun _ a w G1 hG HT H fin=>?_;refine s_call jA H wn rfl (jF _ _ H.ro _ 8) rfl ?_;clear H;rintro v25 LU a w ⟨rfl,-⟩ ake H;exact fin H ake (rfl)
 ·refine dZ 7 27 rfl rfl fun _ a w G1 hG HT H fin=>?_;refine s_call XG H wn rfl (Wy _ _ H.ro x.author hte.1) rfl ?_;clear H;rintro v28 PI a w ⟨rfl,-⟩ akf H;exact fin H akf (rfl)
 ·refine dZ 9 29 rfl rfl fun _ a w G1 hG HT H fin=>?_;refine s_call jA H wn rfl (jF _ _ H.ro _ 39) rfl ?_;clear H;rintro v30 zQ a w ⟨rfl,-⟩ RX H;exact fin H RX (rfl)
 ·refine dZ 12 32 rfl rfl fun _ a w G1 hG HT H fin=>?_;refine s_call wE H wn rfl (wO _ _ H.ro x.time 0 1099511627776) rfl ?_;clear H;rintro v33 VN a w ⟨rfl,-⟩ akg H;exact fin H akg (rfl)
 ·refine dZ 14 34 rfl rfl fun _ a w G1 hG HT H fin=>?_;refine s_call jA H wn rfl (jF _ _ H.ro _ 40) rfl ?_;clear H;rintro v35 VO a w ⟨rfl,-⟩ RY H;exact fin H RY (rfl)
 ·refine dZ 17 37 rfl rfl fun _ a w G1 hG HT H fin=>?_;refine s_call QL H wn rfl (Vb _ _ H.ro x.text hte.2) rfl ?_;clear H;rintro v38 PK a w rfl aki H;exact fin H aki (rfl)
 clear H;intro a w G tu H hv;have H:=H.aN (hv 2 22 rfl rfl) rfl;have H:=H.aN (hv 5 25 rfl rfl) rfl;have H:=H.aN (hv 10 30 rfl rfl) rfl;have H:=H.aN (hv 15 35 rfl rfl) rfl;have H:=H.aN (hv 18 38 rfl rfl) rfl;clear hv;refine gG ql iw [_,_,_,_,_] [_,_,_,_,_] H wn rfl rfl rfl rfl rfl (by intro i q h;match i,h with|0,h=>exact h|1,h=>exact h|2,h=>exact h|3,h=>exact h|4,h=>exact h|n+5,h=>simp at h) rfl rfl ?_;clear H;intro b39 a w asZ H;obtain ⟨VP,NA,akM,H⟩:=H.eu;refine s_call qC H wn rfl (qD _ _ H.ro _ _ (EX [pY (fun k=>(l[k]?.map fE.id).getD 0) k,dx (!bf) 8,dx (!wB x.author) 39,dx (!decide (0≤x.time∧x.time≤1099511627776)) 40,Cr x.text] akM (show 5≤maxLen by decide))) rfl ?_;clear H;rintro v40 _ a w ⟨rfl,rfl⟩ - H;refine kH H (Ra rfl ?_);clear H;intro a H;refine aC ⟨rfl,?_⟩;refine dQ ?_;refine uy 0 H ?_;rw [he,Qt,← hbf]
def ME (l:List fE):Int:=dh [dx (decide (1024 < (l.length:Int))) 9,iF (Gw l) (min l.length 1024)]
theorem aeD (G:GH) (w0:World) (hG:Hold G w0) (l:List fE) (v:aj) (hv:au G (.sl 6 (l.map fE.dat)) v) (hl:l.length≤4294967296) (ht:∀ x∈l,x.author.size < 4611686018427387904∧x.text.size < 4611686018427387904) :
  Calls prog 121 #[v] w0 (bC w0 G fun u G'=>u=vi (ME l)):=by
 obtain ⟨A,c,rfl,hc1,hc2,-⟩:=hv.slice;rw [bM] at *;refine eN [(0,_)] func121 rfl ntmps121 rfl rfl hG ?_;refine ak 1 ?_;intro a H;refine dP (cs:=[_]) H wn rfl rfl rfl ?_;clear H;intro b1 a w hb1 H;refine aD 3 H ?_;clear H;intro a H;have H:=H.sub (T':=[(1,_)]) ⟨rfl,bq⟩;obtain ⟨Ga,hma,hb1',H⟩:=H.eu
 have hbl:aI Ga b1 0=some (.slice A l.length c):=by unfold aI;rw [hb1'];rfl
 have hcb:=afk hbl (hv.mono hma) hl ht;refine dI hmx [[],[0],[0,1],[0,1,2],[],[4],[4,5],[],(ra 0 8),(ra 0 9),(ra 0 10),(ra 0 11)] [9,10,11] (by kernel_rfl) [_,_,_,vi (dx (decide (1024 < (l.length:Int))) 9),_,_,vi ((min l.length 1024:Nat):Int),.func (.func 186) #[] #[(aG b1 0)],vi (iF (Gw l) (min l.length 1024))] H (aF (X0 rfl fun hG=>Rg Pg rfl (aH hG hbl)) (Z1 0 3 rfl (Rl A9 rfl)) (Z1 1 4 rfl (Rc rfl)) ?_ (aF (X0 rfl fun hG=>Rg Pg rfl (aH hG hbl)) (Z1 4 7 rfl (Rl A9 rfl)) ?_ ?_ (aF ?_ (bQ rfl) (bQ rfl) (bQ rfl) cO))) ?_
 ·refine dZ 2 5 rfl rfl fun _ a w G1 hG HT H fin=>?_;refine s_call jA H wn rfl (jF _ _ H.ro _ 9) rfl ?_;clear H;rintro v6 G6 a w ⟨rfl,-⟩ gD H;exact fin H gD (rfl)
 ·refine dZ 5 8 rfl rfl fun _ a w G1 hG HT H fin=>?_;refine OP H wn rfl rfl rfl ?_;clear H;intro a H;exact fin H iJ (aB vi (by omega))
 ·refine Bh rfl fun _ a w G1 hG HT H fin=>?_;refine nQ H wn rfl rfl ?_;clear H;intro a H;exact fin H iJ rfl
 ·refine dD 6 9 7 10 rfl rfl fun _ a w G1 hG HT H fin=>?_;refine s_call GD H wn rfl (I8 _ _ H.ro (min l.length 1024) (Gw l) _ (by omega) ((hcb.mono hG).le (Nat.min_le_left _ _))) rfl ?_;clear H;rintro v11 qX a w rfl kZ H;exact fin H kZ (rfl)
 clear H;intro a w G iN H hv;have H:=H.aN (hv 3 6 rfl rfl) rfl;have H:=H.aN (hv 8 11 rfl rfl) rfl;clear hv;refine gG ql iw [_,_] [_,_] H wn rfl rfl rfl rfl rfl (by intro i q h;match i,h with|0,h=>exact h|1,h=>exact h|n+2,h=>simp at h) rfl rfl ?_;clear H;intro b12 a w EA H;obtain ⟨Bf,BJ,EB,H⟩:=H.eu;refine s_call qC H wn rfl (qD _ _ H.ro _ _ (xZ EB)) rfl ?_;clear H;rintro v13 _ a w ⟨rfl,rfl⟩ - H;refine kH H (Ra rfl ?_);clear H;intro a H;refine aC ⟨rfl,?_⟩;refine dQ ?_;refine uy 0 H ?_;exact rfl
end
section
open Go.RowKit
def wP:Nat→List Int→List MapEntry
 | _,[]=>[]
 | i,k :: r=>⟨.int .i64 k,.int .i64 (i:Int),i⟩ :: wP (i+1) r
theorem aay (x:Int):∀ (i:Nat) (l:List Int),wP i (l++[x])=wP i l++[⟨.int .i64 x,.int .i64 ((i+l.length:Nat):Int),i+l.length⟩]
 | _,[]=>rfl
 | i,k :: r=>by
  rw [nu,wP,aay x (i+1) r,wP,nu,kr,show i+1+r.length=i+(r.length+1) by omega]
def uK (x:Int):Nat→List Int→Option Nat
 | _,[]=>none
 | i,k :: r=>if k=x then some i else uK x (i+1) r
theorem aae {x:Int}:∀ {l:List Int} {i n:Nat},uK x i l=some n→i≤n
 | [],_,_,h=>by cases h
 | k :: r,i,n,h=>by
  rw [uK] at h;split at h
  ·cases h;exact bP _
  ·have:=aae h;omega
theorem aag {x:Int}:∀ {l:List Int} {i:Nat},x∉l→uK x i l=none
 | [],_,_=>rfl
 | k :: r,i,h=>by
  rw [uK,ah (fun e=>h (by simp [e])),aag (fun hm=>h (gB _ hm))]
theorem Ry (x:Int):∀ (i j:Nat) (l:List Int),Instr.findNow (.int .i64) (.int .i64 x) (wP i l) j=some ((uK x i l).map fun n=>(j+(n - i),.int .i64 (n:Int)))
 | _,_,[]=>rfl
 | i,j,k :: r=>by
  have ih:=Ry x (i+1) (j+1) r
  by_cases e:k=x
  ·subst e
   simp only [wP,Instr.findNow,Instr.sameNow,av,uK,beq_self_eq_true]
   simp
  ·have hb:(x == k)=false:=by simp;exact fun h=>e h.symm
   simp only [wP,Instr.findNow,Instr.sameNow,av,hb,uK,ah e,ih]
   cases h:uK x (i+1) r with
   | none=>rfl
   | some n =>
    have:=aae h
    simp only [uf,nJ,gV,and_true]
    omega
abbrev adM (b:Nat) (l:List Int):Nat × Obj:=(b,.map (wP 0 l).toArray l.length)
theorem anG (l:List Int) (x:Int):(wP 0 l).toArray.push ⟨.int .i64 x,.int .i64 (l.length:Int),l.length⟩=(wP 0 (l++[x])).toArray:=by
 rw [aay,List.push_toArray,fU]
end
section
open Go.RowKit
section
variable {P:Program} {N:Nat} {D:List Deferred} {w0 w w':World} {F:Nat→Prop} {G0 G G':GH} {L L' Li Lo:OL} {T:List (Nat × aj)} {a a':Act} {Q:Exit→Act→World→Prop}
variable {r:Option Nat} {ops:Array Oper} {rest:List Oper}
def PU (P:Program) (Gi:GH) (B:OL) (gv:aj) (xs:List AP):Prop :=
 ∀ (J:Nat→GH→OL→Prop) (Jx:GH→OL→Prop) (fv:aj) (G:GH) (L:OL) (w:World),fv.cells=#[fv]→(∀ b o,Gi b=some o→G b=some o)→FZ J→I6 Jx→J 0 G L→fT G (B++L) w→LK P fv G xs J Jx →
  qo P gv [fv] w (fI w G (B++L) fun _ G' L'=>J xs.length G' L'∨Jx G' L')
theorem PU.mono {Gi CF:GH} {B:OL} {gv:aj} {xs:List AP} (h:PU P Gi B gv xs) (hm:∀ b o,Gi b=some o→CF b=some o):PU P CF B gv xs :=
 fun J Jx fv G L w h0 h1=>h J Jx fv G L w h0 fun b o hb=>h1 b o (hm b o hb)
end
end
section
open Go.RowKit
section
variable {P:Program} {N:Nat} {D:List Deferred} {w0 w w':World} {F:Nat→Prop} {G0 G G':GH} {L L' Li Lo:OL} {T:List (Nat × aj)} {a a':Act} {Q:Exit→Act→World→Prop}
variable {r:Option Nat} {ops:Array Oper} {rest:List Oper}
def FY (P:Program) (Gi:GH) (B:OL) (gv:aj) (xs:List AP) (fin:Bool):Prop :=
 ∀ (J:Nat→GH→OL→Prop) (Jx:GH→OL→Prop) (fv:aj) (G:GH) (L:OL) (w:World),fv.cells=#[fv]→(∀ b o,Gi b=some o→G b=some o)→FZ J→I6 Jx→J 0 G L→fT G (B++L) w→LK P fv G xs J Jx→(fin=false→∀ g l,¬ J xs.length g l) →
  qo P gv [fv] w (fI w G (B++L) fun _ G' L'=>J xs.length G' L'∨Jx G' L')
theorem FY.mono {Gi CF:GH} {B:OL} {gv:aj} {xs:List AP} {fin:Bool} (h:FY P Gi B gv xs fin) (hm:∀ b o,Gi b=some o→CF b=some o):FY P CF B gv xs fin :=
 fun J Jx fv G L w h0 h1=>h J Jx fv G L w h0 fun b o hb=>h1 b o (hm b o hb)
theorem aed {fin:Bool} {B:OL} {yO:Operand} {ps:List Nat} {assign body:Code} {gf:FuncId} {caps:List aj} {xs:List AP} {Gi:GH}
  (H:St N D w0 F G0 G (B++L) T a w) (hg:ev T yO=some (.func (.func gf) #[] caps.toArray)) (en:∀ args w,(callFunc gf args).run P w=.ok (.enter gf args) w) (hit:FY P Gi B (.func (.func gf) #[] caps.toArray) xs fin) (hGi:∀ b o,Gi b=some o→G b=some o)
  (hps:ps.all (Nat.blt · N)=true) (hlen:∀ k args g,xg xs k args g→args.length=ps.length)
  (J:Nat→GH→OL→Prop) (Jx:Code→GH→OL→Prop) (hno:fin=false→∀ g l,¬ J xs.length g l) (Ai:FZ J) (hJx:∀ c,I6 (Jx c)) (h0:J 0 G L) (Ti:P6 P N ps assign body T G J Jx xs)
  (hdone:∀ Dk G1 L1 a1 w1,(∀ b o,G b=some o→G1 b=some o)→J xs.length G1 L1→St N ({ target:=.collected Dk,args:=#[] } :: D) w0 F G0 G1 ((Dk,.deferred (some [])) :: L1) T a1 w1→Q .normal a1 w1)
  (hstop:∀ Dk c G1 L1 a1 w1,(∀ b o,G b=some o→G1 b=some o)→Jx c G1 L1→St N ({ target:=.collected Dk,args:=#[] } :: D) w0 F G0 G1 ((Dk,.deferred (some [])) :: L1) T a1 w1→WP none P c Q a1 w1) :
  WP none P (.rangeFunc yO ps.toArray assign body) Q a w:=by
 refine wpIn_rangeFunc ?_
 intro fn _
 have hev:=H.ev hg
 let q:Rec:=⟨fn,a.tmps,ps.toArray,assign,body,w.heap.size⟩
 obtain ⟨W1,hW1⟩:∃ W1,W1=(w.alloc (.deferred (some []))).alloc (q.at .ready none):=⟨_,rfl⟩
 have H1:Hp w0 F G0 G (B++((w.heap.size+1,q.at .ready none) :: (w.heap.size,.deferred (some [])) :: L)) W1:=by
  have:=(H.hp.alloc (.deferred (some []))).alloc (q.at .ready none)
  rw [World.size_alloc] at this
  rw [hW1]
  refine this.perm ?_
  have e:=ug (l₁:=[(w.heap.size+1,q.at .ready none),(w.heap.size,Obj.deferred (some []))]) (l₂:=B)
  have e2:=List.Perm.append_right L e
  rw [iZ,iZ] at e2
  exact e2
 refine ⟨w.heap.size+1,[{ target:=.collected w.heap.size,args:=#[] }],W1,{ target:=.fn (.func gf) caps.toArray,args:=#[.func (.yield (w.heap.size+1)) #[] #[]] },W1,gf,
  #[.func (.yield (w.heap.size+1)) #[] #[]]++caps.toArray,W1,by rw [hW1];exact run_enterLoop_outer fn a.tmps ps.toArray assign body,?_,fun _ _=>trivial,?_,LQ none,?_⟩
 ·simp only [resolve,rangeCall,hev]
  simp [Deferred.ofValue,Act.eval]
 ·simp [invoke,en]
 ·have hcv:=hit (fun k=>Jr (w.heap.size+1) q [(w.heap.size,.deferred (some []))] (J k)) (LX (w.heap.size+1) q [(w.heap.size,.deferred (some []))] Jx) (.func (.yield (w.heap.size+1)) #[] #[]) G
   ((w.heap.size+1,q.at .ready none) :: (w.heap.size,.deferred (some [])) :: L) W1 rfl hGi (fun k G G' L hm ⟨Lu,e,h⟩=>⟨Lu,e,Ai k G G' Lu hm h⟩) (fun G G' L hm ⟨c,Lu,e,h⟩=>⟨c,Lu,e,hJx c G G' Lu hm h⟩) ⟨L,rfl,h0⟩ (Hp.owns (Li:=[]) H1) (WS H.mO H.get hps hlen Ti) (fun e g l ⟨Lu,_,h⟩=>hno e g Lu h)
  replace hcv:=hcv.go
  have e:(do let d ← Deferred.ofValue (.func (.func gf) #[] caps.toArray) [Value.func (.yield (w.heap.size+1)) #[] #[]].toArray;invoke d.target d.args:Sem Next).run P W1=.ok (.enter gf (#[.func (.yield (w.heap.size+1)) #[] #[]]++caps.toArray)) W1:=by
   simp [Deferred.ofValue,invoke,en]
  rw [e] at hcv
  refine (Ql hcv).mono ?_
  rintro e w2 ⟨v,G2,L2,rfl,hch,hJ⟩
  have H2:=Hp.change (Li:=[]) H1 hch
  rcases hJ with ⟨Lu,rfl,hJ⟩|⟨c,Lu,rfl,hJ⟩
  ·have hl:=H2.own _ (fK)
   have H3:=(H2.upd (i:=0) rfl (DT (q.at .exhausted none) hl)).drop (zX _ _)
   exact ⟨none,_,run_endLoop hl (by simp),hdone _ G2 Lu _ _ hch.gm hJ ⟨H.mO,H.get,by simp [H.rE],H3⟩⟩
  ·have hl:=H2.own _ (fK)
   have H3:=(H2.upd (i:=0) rfl (DT (q.at .exhausted (some c)) hl)).drop (zX _ _)
   exact ⟨some c,_,run_endLoop hl (by simp),hstop _ c G2 Lu _ _ hch.gm hJ ⟨H.mO,H.get,by simp [H.rE],H3⟩⟩
theorem aef {fin:Bool} {B:OL} {ι κ:Type} {Lc:OL} {yO:Operand} {ps:List Nat} {assign body:Code} {gf:FuncId} {caps:List aj} {xs:List AP} {Gi:GH}
  (Lv:Nat→ι→OL) (Lt:Nat→ι→OL) (inv:Nat→ι→GH→Prop) (cx:κ→Code) (Lx Ec:κ→OL) (zC:κ→GH→Prop) (i0:ι)
  (H:St N D w0 F G0 G (B++(Lc++Lv 0 i0++Lt 0 i0)) T a w) (hg:ev T yO=some (.func (.func gf) #[] caps.toArray)) (en:∀ args w,(callFunc gf args).run P w=.ok (.enter gf args) w) (hit:FY P Gi B (.func (.func gf) #[] caps.toArray) xs fin) (hGi:∀ b o,Gi b=some o→G b=some o)
  (hno:fin=false→∀ i g,¬ inv xs.length i g) (hps:ps.all (Nat.blt · N)=true) (hlen:∀ k args g,xg xs k args g→args.length=ps.length) (hinv:∀ k i (G G':GH),(∀ b o,G b=some o→G' b=some o)→inv k i G→inv k i G') (SS:∀ x (G G':GH),(∀ b o,G b=some o→G' b=some o)→zC x G→zC x G') (h0:inv 0 i0 G)
  (round:∀ (l:Nat) (Fv Bp:Obj) (bk:OL) (k:Nat) (args:List aj) (i:ι) (G1:GH) (w1:World) (F1:Nat→Prop) (B1:Code→Exit→Act→World→Prop) (a1:Act),xg xs k args G1→(∀ b o,G b=some o→G1 b=some o)→inv k i G1 →
   (∀ T' G2 L2 a2 w2 c,St N [] w1 F1 G1 G2 ((l,Fv) :: L2) T' a2 w2→(∀ w3,St N [] w1 F1 G1 G2 ((l,Bp) :: L2) T' a2 w3→WP (some l) P c (B1 c) a2 w3)→Exit.then (fun a2 w2=>∃ w3,(Instr.beginRound l).run P w2=.ok () w3∧c.wpIn (FW (some l)) 0 P (B1 c) a2 w3) (fun _ _ _=>False) .normal a2 w2) →
   (∀ i' T' G2 a2 w2 c,St N [] w1 F1 G1 G2 ((l,Bp) :: (Lc++Lv (k+1) i'++(bk++Lt (k+1) i'))) T' a2 w2→inv (k+1) i' G2→B1 c .normal a2 w2) →
   (∀ x T' G2 a2 w2 c,St N [] w1 F1 G1 G2 ((l,Bp) :: (Lc++Lx x++(bk++Ec x))) T' a2 w2→zC x G2→(cx x=.ret→B1 c .ret a2 w2)∧∀ n,cx x=.exit n→B1 c (.exit n) a2 w2) →
   St N [] w1 F1 G1 G1 ((l,Fv) :: (Lc++Lv k i++(bk++Lt k i))) (zZ ps args T) a1 w1 →
   WP (some l) P assign (Exit.then (fun a2 w2=>∃ w3,(Instr.beginRound l).run P w2=.ok () w3∧body.wpIn (FW (some l)) 0 P (B1 body) a2 w3) (fun _ _ _=>False)) a1 w1)
  (hdone:∀ Dk i G1 a1 w1,(∀ b o,G b=some o→G1 b=some o)→inv xs.length i G1→St N ({ target:=.collected Dk,args:=#[] } :: D) w0 F G0 G1 ((Dk,.deferred (some [])) :: (Lc++Lv xs.length i++Lt xs.length i)) T a1 w1→Q .normal a1 w1)
  (hstop:∀ Dk x G1 a1 w1,(∀ b o,G b=some o→G1 b=some o)→zC x G1→St N ({ target:=.collected Dk,args:=#[] } :: D) w0 F G0 G1 ((Dk,.deferred (some [])) :: (Lc++Lx x++Ec x)) T a1 w1→WP none P (cx x) Q a1 w1) :
  WP none P (.rangeFunc yO ps.toArray assign body) Q a w:=by
 refine aed (J:=fun k g L=>∃ i,L=Lc++Lv k i++Lt k i∧inv k i g) (Jx:=fun c g L=>∃ x,c=cx x∧L=Lc++Lx x++Ec x∧zC x g) H hg en hit hGi hps hlen (hno:=fun e g l ⟨i,_,h⟩=>hno e i g h) (fun k G G' L hm ⟨i,e,h⟩=>⟨i,e,hinv k i G G' hm h⟩) (fun c G G' L hm ⟨x,e1,e2,h⟩=>⟨x,e1,e2,SS x G G' hm h⟩) ⟨i0,rfl,h0⟩ ?_ ?_ ?_
 ·rintro l q bk k args G1 L1 w1 a1 hk hm ⟨i,rfl,hi⟩ H1
  have pm:∀ A B:OL,(bk++(A++B)).Perm (A++(bk++B)):=fun A B=>by
   rw [← iZ,← iZ]
   exact List.Perm.append_right B ug
  refine round l (q.at .ready none) (q.at .busy none) bk k args i G1 w1 _ (fun _=>roundPost P l _) a1 hk hm hi ?_ ?_ ?_ (H1.perm (List.Perm.cons _ (pm _ _)))
  ·intro T' G2 L2 a2 w2 c H2 h
   exact WK H2 h
  ·intro i' T' G2 a2 w2 c H2 h2
   exact Ip none (H2.perm (List.Perm.cons _ (pm _ _).symm)) ⟨_,rfl,i',rfl,h2⟩
  ·intro x T' G2 a2 w2 c H2 h2
   have H3:=H2.perm (List.Perm.cons _ (pm _ _).symm)
   refine ⟨fun e=>?_,fun n e=>?_⟩
   ·exact Ip (some .ret) H3 ⟨_,_,rfl,x,e.symm,rfl,h2⟩
   ·exact Ip (some (.exit n)) H3 ⟨_,_,rfl,x,e.symm,rfl,h2⟩
 ·rintro Dk G1 L1 a1 w1 hm ⟨i,rfl,hi⟩ H1
  exact hdone Dk i G1 a1 w1 hm hi H1
 ·rintro Dk c G1 L1 a1 w1 hm ⟨x,rfl,rfl,hx⟩ H1
  exact hstop Dk x G1 a1 w1 hm hx H1
end
end
section
open Go.RowKit
theorem DR:prog.underlying 130=some (.map 3 3):=by kernel_rfl
instance:jZ prog 130 (.map 3 3):=⟨DR⟩
instance FD:Ty prog 31 1 24 [.slice none 0 0] false:=⟨by kernel_rfl,by kernel_rfl⟩
instance ajt:dR prog 192 3 3:=⟨by kernel_rfl⟩
theorem XQ:∀ args w,(callFunc 222 args).run prog w=.ok (.enter 222 args) w:=enters func222 rfl (by kernel_rfl)
theorem aaf {x:Int}:∀ {l:List Int} {i n:Nat},uK x i l=some n→n < i+l.length
 | [],_,_,h=>by cases h
 | k :: r,i,n,h=>by
  rw [uK] at h;split at h
  ·cases h;simp
  have:=aaf h;simp only [kr];omega
def xG (l:List bS):Nat→Int→List bS
 | 0,_=>[]
 | f+1,id=>if id=0 then [] else match uK id 0 (l.map bS.id) with|none=>[]|some i=>match l[i]? with|none=>[]|some s=>s :: xG l f s.base
def Gq (l:List bS) (id:Int):List bS:=xG l (l.length+1) id
theorem aez {l:List bS} {f:Nat} {id:Int} (h:id=0):xG l f id=[]:=by
 cases f with
 | zero=>rfl
 | succ f=>rw [xG,av h]
theorem aex {l:List bS} {f:Nat} {id:Int} (h0:¬ id=0) (h:uK id 0 (l.map bS.id)=none):xG l f id=[]:=by
 cases f with
 | zero=>rfl
 | succ f=>rw [xG,ah h0,h]
theorem aey {l:List bS} {f i:Nat} {id:Int} (h0:¬ id=0) (h:uK id 0 (l.map bS.id)=some i) (hi:i < l.length):xG l (f+1) id=l[i] :: xG l f l[i].base:=by
 rw [xG,ah h0,h];dsimp only;rw [eO hi]
def stP (x:bS):AP:=fun args g=>∃ cs,args=[.agg cs.toArray]∧aU g x.dat cs
theorem abY {A:List bS} {k:Nat} {args:List aj} {g:GH} (h:xg (A.map stP) k args g):∃ (hk:k < A.length) (cs:List aj),args=[.agg cs.toArray]∧aU g A[k].dat cs:=by
 obtain ⟨p,hp,hargs⟩:=h;rw [qM] at hp;obtain ⟨q,hq,rfl⟩:=oO.1 hp;obtain ⟨hk,rfl⟩:=jy.1 hq;obtain ⟨cs,h1,h2⟩:=hargs;exact ⟨hk,cs,h1,h2⟩
abbrev bI (b:Nat) (n:Int):Nat × Obj:=(b,.cells #[vi n] 3 (0,0))
theorem aeA {G:GH} {bl bi:Nat} {l:List bS} {id:Int} {v:aj} (hb:aI G bl 0=some v) (hv:au G (.sl 6 (l.map bS.dat)) v) (hnd:∀ (k:Nat) (h:k < l.length),l[k].id∉(l.take k).map bS.id) :
  FY prog G [bI bi id] (.func (.func 222) #[] #[(aG bl 0),(aG bi 0)]) ((Gq l id).map stP) (decide ((Gq l id).length≤l.length)):=by
 intro J Jx fv G1 L w0 hfv hGi Ai hJx hJ hO hcb hfin;refine iM (caps:=[(aG bl 0),(aG bi 0)]) XQ ?_;obtain ⟨A,c,rfl,hc1,hc2,-⟩:=hv.slice;have hml:maxLen=9223372036854775807:=rfl;rw [bM] at *;replace hb:=aH hGi hb;replace hv:=hv.mono hGi;refine jf (N:=46) (T:=[(0,_),(1,_),(2,_)]) func222 rfl ntmps222 rfl rfl hO ?_;intro a H;refine Ab (fun _ K1=>?_);refine Ja ?_;refine Fw H wn rfl ?_;clear H;intro bm a w hbm H;refine kH H (iD K1 rfl (SQ fun _ K2=>SQ fun _ K3=>SC (Rg FD rfl (by assumption) ?_)));clear H K1;intro a H;refine kH H (Rl tX rfl (Rm rfl (Kn K3 (SB ?_))));clear H K3;intro a H;skip;refine eH (ι:=Nat) (Tc:=[(0,_),(1,_),(2,_),(4,_),(10,_),(11,_)]) (Lc:=[(_,_)]) (fun gh=>[(12,vi gh)]) (fun gh=>[adM bm ((l.take gh).map bS.id)]++L) (fun gh=>G1) (fun gh=>gh≤l.length) (fun gh=>l.length - gh) (0) (by exact (H.dY (Pl:=[_,_]) (dJ:=[_,_]) [1,0] (by decide) rfl).sub ⟨rfl,rfl,rfl,rfl,rfl,rfl,rfl,bq⟩) ?_ ?_
 ·exact gN _
 clear H;intro k a w hI H;have hk:=hI;dsimp only [lca,bG] at H;refine kP H (SQ fun _ K4=>SC (Rc rfl (Kn K4 (SQ fun _ K5=>Cd rfl ?_ ?_)))) <;> clear H K4
 ·intro mU a H
  try have oJ:=dT mU
  have hk2:k < l.length:=by omega
  obtain ⟨b,o,pA,pc,rfl,hrow,hp,hrep⟩:=Co hv hk2;have alS:=hnd k hk2
  have hlk:((l.take k).map bS.id).length=k:=by rw [bM,List.length_take];omega
  have hnx:(l.take k).map bS.id++[l[k].id]=(l.take (k+1)).map bS.id:=by rw [fP hk2,kM];rfl
  refine kP H (Kc K5 (SQ fun _ K6=>SB (SQ fun _ K7=>SC (Rm rfl (Ri tX jD rfl rfl ?_)))));clear H K5;intro a H;refine aR jD (cs:=[_,_,_,_,_,_]) H wn rfl rfl (fun j v hj=>H.hp.aI (hrow j v hj)) rfl ?_;clear H;intro a H;refine dz jD H wn rfl ?_;clear H;intro b6 a w hb6 H;refine kH H (Ra rfl ?_);clear H;intro a H;refine aX jD 0 (vs:=[_,_,_,_,_,_]) _ H wn rfl rfl rfl rfl rfl rfl rfl rfl ?_;clear H;intro w H;dsimp only [List.set,setRow] at H;refine kH H (Kn K7 (SC (Rm rfl (I5 Ad bR 0 rfl rfl (Rm rfl ?_)))));clear H K7;intro a H;refine abJ (i:=2) (ky:=vi l[k].id) (v:=vi k) DR kE H wn rfl rfl rfl rfl (by trivial) (by rw [List.toList_toArray,Ry,aag alS];rfl) ?_;clear H;intro w H
  have hpush:((wP 0 ((l.take k).map bS.id)).toArray.push ⟨vi l[k].id,vi k,((l.take k).map bS.id).length⟩)=(wP 0 ((l.take (k+1)).map bS.id)).toArray:=by rw [← hnx,← anG,hlk]
  rw [hpush,show ((l.take k).map bS.id).length+1=((l.take (k+1)).map bS.id).length by rw [← hnx];simp] at H;refine kH H (Kn K6 (SC (Rd rfl (Rm rfl ?_))));clear H K6;intro a H;refine aC ?_;refine cB ((k+1)) (by exact (H.dY (Pl:=[_,_,_]) (dJ:=[_,_]) [1,2] (by decide) rfl).sub ⟨rfl,rfl,rfl,rfl,rfl,rfl,rfl,bq⟩) ?_ ?_
  ·exact by omega
  first|omega|(dsimp only;omega)
 intro mU a H
 try have oJ:=dF mU
 obtain rfl:k=l.length:=by omega
 rw [uZ] at H;refine yK ?_;refine K2 _ _ ?_;clear K2;refine Mw ?_;skip;refine eH (ι:=Int × Nat × Nat × OL × GH) (Tc:=[(0,_),(1,_),(2,_),(4,_)]) (Lc:=[(_,_)]) (fun gh=>[]) (fun gh=>[bI bi gh.1]++gh.2.2.2.1) (fun gh=>gh.2.2.2.2) (fun gh=>(∀ b o,G1 b=some o→gh.2.2.2.2 b=some o)∧Now ((Gq l id).map stP) stP J (Gq l id).length gh.2.2.1 (xG l gh.2.1 gh.1) gh.2.2.2.2 gh.2.2.2.1∧gh.2.2.1+gh.2.1=l.length+1) (fun gh=>gh.2.1) ((id,l.length+1,0,L,G1)) (by exact (H.dY (Pl:=[_,_]) (dJ:=[_,_]) [1,0] (by decide) rfl).sub ⟨rfl,rfl,rfl,rfl,bq⟩) ?_ ?_
 ·exact ⟨fun _ _ h=>h,⟨hJ,fun i a h=>by rw [fU,qM];rw [show xG l (l.length+1) id=Gq l id from rfl] at h;rw [h];rfl,fU _⟩,fU _⟩
 clear H;rintro ⟨i,f,j1,Lt,g⟩ a w hI H;dsimp only at hI H;obtain ⟨hgm,iU,hjf⟩:=hI;have hbg:=aH hgm hb;dsimp only [lca,bG] at H;refine kP H (SQ fun _ K8=>SQ fun _ K9=>SC (Ro bR 1 rfl (Rc rfl (Kn K9 (Cd rfl ?_ ?_))))) <;> clear H K9
 ·intro h23 a H
  try have Az:=dT h23
  have h0:¬ i=0:=by simpa using h23
  obtain ⟨an,han⟩:∃ an,an=uK i 0 (l.map bS.id):=⟨_,rfl⟩;have hfn:=Ry i 0 0 (l.map bS.id);rw [← han] at hfn;refine kP H (Kc K8 (SB (SQ fun _ yF=>SC (Rm rfl (Ro bR 1 rfl ?_)))));clear H K8;intro a H;refine apZ (i:=0) (zv:=vi 0) _ DR kE (by kernel_rfl) H wn rfl rfl rfl (by trivial) (by simpa using hfn) rfl ?_;clear H;intro a H;refine kH H (Rm rfl ?_);clear H;intro a H;(iterate 2 refine jY H wn rfl rfl rfl ?_;clear H;intro a H);refine kH H (Ra rfl (iD yF rfl (SQ fun _ oN=>SQ fun _ zR=>SC (Rm rfl (Rn rfl (Rm rfl (Sp 32 rfl ?_ ?_))))))) <;> clear H yF
  ·intro h32 a H
   try have p32:=dT h32
   obtain rfl:an=none:=by
    cases an with
    | none=>rfl
    | some n=>simp [BZ] at h32
   rw [aex h0 han.symm] at iU;refine kH H (lN h32 rfl (nU h32 rfl (nU h32 rfl (Pt h32 rfl (Kn zR (Ct rfl rfl ?_))))));clear H zR;intro a H;refine cu ?_;refine (leave0 H results222 ?_).1;refine H.hp.kC (L':=Lt) (by repeat (first|exact jR _|apply List.Sublist.cons)) (.inl ?_);have h:=iU.len
   simp only [List.length_nil,wu] at h
   rw [← h];exact iU.now
  intro h32 a H
  try have p32:=dF h32
  obtain ⟨n,rfl⟩:∃ n,an=some n:=by
   cases an with
   | none=>simp [BZ] at h32
   | some n=>exact ⟨n,rfl⟩
  have hnl:n < l.length:=by have:=aaf han.symm;simpa using this
  obtain ⟨f',rfl⟩:∃ f',f=f'+1:=by
   cases f with
   | succ f'=>exact ⟨f',rfl⟩
   | zero =>
    exfalso
    have hl:=iU.len
    simp only [xG,List.length_nil,wu] at hl
    refine hfin (iY (by omega)) g Lt ?_;rw [← hl];exact iU.now
  rw [aey h0 han.symm hnl] at iU;dsimp only [BZ,Option.map_some] at H;obtain ⟨b,o,pA,pc,rfl,hrow,hp,hrep⟩:=Co (hv.mono hgm) hnl;refine kH H (YM h32 rfl (YR FD h32 rfl (by assumption) ?_));clear H;intro a H;refine kH H (YM h32 rfl (YI tX jD h32 rfl rfl ?_));clear H;intro a H;refine aR jD (cs:=[_,_,_,_,_,_]) H (wg H rfl rfl h32) rfl rfl (fun j v hj=>H.hp.aI (hrow j v hj)) rfl ?_;clear H;intro a H;refine Cj (Li:=[_,_]) (L:=Lt) H (wg H rfl rfl h32) rfl rfl (hcb j1 _ _ _ _ ⟨_,iU.head,_,rfl,hrep⟩ hgm iU.now (Hp.owns (Li:=[_,_]) H.hp)) rfl ?_;clear H;rintro v38 PK Wm a w ⟨b38,rfl,hb1,hb2⟩ HV H;have hbg:=aH HV hbg;have r3:=aH HV (hrow 3 _ rfl);refine kH H (YN h32 rfl (Pf h32 rfl (Kn zR (Cd rfl ?_ ?_)))) <;> clear H zR
  ·intro sZ a H
   try have p40:=dT sZ
   refine cu ?_;refine (leave0 H results222 ?_).1;exact H.hp.kC (L':=Wm) (by repeat (first|exact jR _|apply List.Sublist.cons)) (.inr (hb2 (by simpa using sZ)))
  intro sZ a H
  try have p40:=dF sZ
  refine kP H (Kc oN (SC (Rg FD rfl (by assumption) ?_)));clear H oN;intro a H;refine kH H (Rm rfl (Ri tX jD rfl rfl (Rf ajt rfl (Rg bR rfl (by assumption) ?_))));clear H;intro a H;refine aX bR 1 (vs:=[_]) _ H wn rfl rfl rfl rfl rfl rfl rfl rfl ?_;clear H;intro w H;dsimp only [List.set,setRow] at H;refine aC ?_;refine cB ((l[n].base,f',j1+1,Wm,PK)) (by exact (H).sub ⟨rfl,rfl,rfl,rfl,bq⟩) ?_ ?_
  ·(try dsimp only);exact ⟨fun b o h=>HV b o (hgm b o h),iU.step (hb1 (by simpa using sZ)),by omega⟩
  first|omega|(dsimp only;omega)
 intro h23 a H
 try have Az:=dF h23
 refine yK ?_;refine (leave0 H results222 ?_).2;rw [aez (by simpa using h23)] at iU;refine H.hp.kC (L':=Lt) (by repeat (first|exact jR _|apply List.Sublist.cons)) (.inl ?_);have h:=iU.len
 simp only [List.length_nil,wu] at h
 rw [← h];exact iU.now
end
section
open Go.RowKit
theorem agU:∀ args w,(callFunc 182 args).run prog w=.ok (.enter 182 args) w:=enters func182 rfl (by kernel_rfl)
theorem agT:∀ args w,(callFunc 180 args).run prog w=.ok (.enter 180 args) w:=enters func180 rfl (by kernel_rfl)
theorem QK:∀ args w,(callFunc 181 args).run prog w=.ok (.enter 181 args) w:=enters func181 rfl (by kernel_rfl)
instance aju:dR prog 192 4 4:=⟨by kernel_rfl⟩
theorem aeB {G:GH} {w0:World} (hO:fT G [] w0) (l:List bS) (id:Int) (v:aj) (hv:au G (.sl 6 (l.map bS.dat)) v) :
  Calls prog 182 #[v,vi id] w0 (fI w0 G [] fun u G' L'=>∃ bl bi,u=.func (.func 222) #[] #[(aG bl 0),(aG bi 0)]∧L'=[bI bi id]∧aI G' bl 0=some v):=by
 obtain ⟨A,c,rfl,hc1,hc2,-⟩:=hv.slice;refine jf (N:=6) (T:=[(0,_),(1,_)]) func182 rfl ntmps182 rfl rfl hO ?_;refine ak 1 ?_;intro a H;refine dP (cs:=[_]) H wn rfl rfl rfl ?_;clear H;intro b2 a w hb2 H;refine dP (cs:=[_]) H wn rfl rfl rfl ?_;clear H;intro b3 a w hb3 H;refine aD 3 H ?_;clear H;intro a H;refine nQ H wn rfl rfl ?_;clear H;refine ak 2 ?_;intro a H;refine lr H results182 rfl ?_;have H:=H.dY (Pl:=[_,_]) (dJ:=[_,_]) [1,0] (by decide) rfl;obtain ⟨Ga,hma,hb2',H⟩:=H.eu;exact H.hp.dG ⟨b2,b3,rfl,rfl,by unfold aI;rw [hb2'];rfl⟩
def sU (p:Nat→Int):Nat→Nat→Int
 | _,0=>0
 | k,n+1=>if p k=0 then sU p (k+1) n else p k
theorem ajd {p:Nat→Int} {k m:Nat} (h:k < m):sU p k (m - k)=if p k=0 then sU p (k+1) (m - (k+1)) else p k:=by
 obtain ⟨n,hn⟩:∃ n,m - k=n+1:=⟨m - k - 1,by omega⟩;rw [hn,sU,show m - (k+1)=n by omega]
theorem ajc {p:Nat→Int} {k m:Nat} (h:m≤k):sU p k (m - k)=0:=by rw [show m - k=0 by omega];rfl
theorem Ya {p:Nat→Int}:∀ {n k:Nat},sU p k n=0→∀ j,k≤j→j < k+n→p j=0
 | 0,k,_,j,h1,h2=>by omega
 | n+1,k,h,j,h1,h2=>by
  rw [sU] at h;split at h
  ·rename_i hp
   by_cases e:j=k
   ·rw [e];exact hp
   exact Ya h j (by omega) (by omega)
  rename_i hp;exact absurd h hp
def zF (l:List bS) (k:Nat):Int:=match l[k]? with|some s=>iV l k s|none=>0
theorem aaW {l:List bS} {k:Nat} (h:k < l.length):zF l k=iV l k l[k]:=by unfold zF;rw [eO h]
def sO (l:List bS) (s:bS):Bool:=(decide (s.base≠0) && !EY l s.kind s.base) || (decide (s.next≠0) && (decide (s.kind=2) || !EY l 1 s.next))
def Qz (l:List bS) (s:bS):Bool:=decide (l.length < (Gq l s.id).length)
def gJ (l:List bS):Int:=if 128 < l.length then 9 else if sU (zF l) 0 l.length≠0 then sU (zF l) 0 l.length else if l.any (sO l)=true then 25 else if l.any (Qz l)=true then 16 else 0
theorem aos {l:List bS} (h:sU (zF l) 0 l.length=0) {k:Nat} (hk:k+1 < l.length):l[k].id < l[k+1].id:=by
 have h1:=Ya h (k+1) (gN _) (by omega);rw [aaW hk,iV,lY] at h1
 have hp:xR l (k+1)=some l[k].id:=by rw [xR,ah (by omega),Nat.add_sub_cancel,eO (by omega)];rfl
 rw [hp] at h1
 split at h1
 ·cases h1
 split at h1
 ·cases h1
 split at h1
 ·cases h1
 rename_i _ h2 h3
 have h2':¬ l[k].id=l[k+1].id:=fun e=>h2 (by rw [e]);have h3':¬ l[k+1].id < l[k].id:=fun e=>h3 (aK e)
 omega
theorem aaX {l:List bS} (h:sU (zF l) 0 l.length=0):∀ {k j:Nat} (hk:k < l.length) (hj:j < k),l[j].id < l[k].id
 | k+1,j,hk,hj=>by
  have h1:=aos h hk
  by_cases e:j=k
  ·subst e;exact h1
  have:=aaX h (k:=k) (j:=j) (by omega) (by omega)
  omega
theorem aaY {l:List bS} (h:sU (zF l) 0 l.length=0) (k:Nat) (hk:k < l.length):l[k].id∉(l.take k).map bS.id:=by
 intro hm;obtain ⟨x,hx1,hx2⟩:=List.mem_map.1 hm;obtain ⟨j,hj,rfl⟩:=List.getElem_of_mem hx1;rw [List.getElem_take] at hx2;rw [List.length_take] at hj;have:=aaX h hk (j:=j) (by omega)
 omega
theorem I9 {α:Type} {p:α→Bool} {l:List α} {k:Nat} (hk:k < l.length) (h:(l.take k).any p=false) (hp:p l[k]=false):(l.take (k+1)).any p=false:=by
 rw [fP hk,List.any_append,h];simp [hp]
theorem vg {α:Type} {p:α→Bool} {l:List α} {k:Nat} (hk:k < l.length) (hp:p l[k]=true):l.any p=true:=List.any_eq_true.2 ⟨_,lD hk,hp⟩
theorem zY {α:Type} {p:α→Bool} {l:List α} {k:Nat} (hk:l.length≤k) (h:(l.take k).any p=false):¬ l.any p=true:=by
 rw [fJ hk] at h;rw [h];decide
theorem aeK (G:GH) (w0:World) (hG:Hold G w0) (l:List bS) (v:aj) (hv:au G (.sl 6 (l.map bS.dat)) v) (hN:∀ s∈l,s.name.size≤4611686018427387904) :
  Calls prog 119 #[v] w0 (bC w0 G fun u G'=>u=vi (gJ l)):=by
 obtain ⟨A,c,rfl,hc1,hc2,-⟩:=hv.slice;have hml:maxLen=9223372036854775807:=rfl;rw [bM] at *;refine eN [(0,_)] func119 rfl ntmps119 rfl rfl hG ?_;refine ak 1 ?_;intro a H;refine dP (cs:=[_]) H wn rfl rfl rfl ?_;clear H;intro b1 a w hb1 H;refine dz iw H wn rfl ?_;clear H;intro b2 a w hb2 H;refine gF 7 H ?_ ?_ <;> clear H
 ·intro pE
  refine ak 1 ?_;intro a H;refine aX iw 0 (vs:=[_]) _ H wn rfl rfl rfl rfl rfl rfl rfl rfl ?_;clear H;intro w H;dsimp only [List.set,setRow] at H;refine aC ?_;refine dQ ?_;refine cu ?_;refine (leave1 H results119 (.cons (Ci iw H rfl (H.hp.qH 0 rfl rfl)) .nil) ?_).1
  first
   | exact H.rt (aB vi (by rw [gJ,av (by omega)]))
   | exact H.rt (aB vi (by rw [ah (by simpa using iW)] at heq;rw [gJ,ah (by omega),← heq,av (by simpa using iW)]))
   | exact H.rt (aB vi (by rw [gJ,ah (by omega),ah (by rw [hok];decide),av hbad]))
   | exact H.rt (aB vi (by rw [gJ,ah (by omega),ah (by rw [hok];decide),ah hbad,av (vg hj2 hI)]))
   | exact H.rt (aB vi (by rw [gJ,ah (by omega),ah (by rw [hok];decide),ah hbad,ah (zY (by omega) hnc)]))
 intro pE
 refine ak 8 ?_;intro a H;refine eH (ι:=Nat × GH) (Tc:=[(1,_),(2,_),(14,_)]) (Lc:=[(_,_),(_,_)]) (fun gh=>[(15,vi gh.1)]) (fun gh=>[]) (fun gh=>gh.2) (fun gh=>gh.1≤l.length∧sU (zF l) gh.1 (l.length - gh.1)=sU (zF l) 0 l.length∧(∀ b o,G b=some o→gh.2 b=some o)) (fun gh=>l.length - gh.1) ((0,G)) sB ?_ ?_
 ·exact ⟨gN _,rfl,fun _ _ h=>h⟩
 clear H;rintro ⟨k,g⟩ a w hI H;dsimp only at hI H;obtain ⟨hk,heq,hgm⟩:=hI;dsimp only [lca,bG] at H;refine dO 4 H ?_ ?_ <;> clear H
 ·intro p16
  have hk2:k < l.length:=by omega
  rw [ajd hk2,aaW hk2] at heq;refine ak 10 ?_;intro a H;refine s_call agT H wn rfl (aot _ _ H.ro l k _ (hv.mono hgm) hk2 (hN _ (lD hk2))) rfl ?_;clear H;rintro v20 FU a w rfl nN H;refine gF 6 H ?_ ?_ <;> clear H
  ·intro iW
   refine ak 2 ?_;intro a H;refine aX iw 0 (vs:=[_]) _ H wn rfl rfl rfl rfl rfl rfl rfl rfl ?_;clear H;intro w H;dsimp only [List.set,setRow] at H;refine aC ?_;refine dQ ?_;refine cu ?_;refine (leave1 H results119 (.cons (Ci iw H rfl (H.hp.qH 0 rfl rfl)) .nil) ?_).1
   first
    | exact H.rt (aB vi (by rw [gJ,av (by omega)]))
    | exact H.rt (aB vi (by rw [ah (by simpa using iW)] at heq;rw [gJ,ah (by omega),← heq,av (by simpa using iW)]))
    | exact H.rt (aB vi (by rw [gJ,ah (by omega),ah (by rw [hok];decide),av hbad]))
    | exact H.rt (aB vi (by rw [gJ,ah (by omega),ah (by rw [hok];decide),ah hbad,av (vg hj2 hI)]))
    | exact H.rt (aB vi (by rw [gJ,ah (by omega),ah (by rw [hok];decide),ah hbad,ah (zY (by omega) hnc)]))
  intro iW
  refine ak 4 ?_;intro a H;refine aC ?_;refine cB ((k+1,FU)) sB ?_ ?_
  ·(try dsimp only);exact ⟨by omega,by rw [av (by simpa using iW)] at heq;exact heq,fun b o h=>nN b o (hgm b o h)⟩
  first|omega|(dsimp only;omega)
 intro p16
 have hok:sU (zF l) 0 l.length=0:=by rw [← heq];exact ajc (by omega)
 clear heq;have Au:=hv.mono hgm;refine ak 8 ?_;intro a H;refine eH (ι:=Nat × GH) (Tc:=[(1,_),(2,_),(25,_),(26,_)]) (Lc:=[(_,_),(_,_)]) (fun gh=>[(27,vi gh.1)]) (fun gh=>[]) (fun gh=>gh.2) (fun gh=>gh.1≤l.length∧(l.take gh.1).any (sO l)=false∧(∀ b o,g b=some o→gh.2 b=some o)) (fun gh=>l.length - gh.1) ((0,g)) sB ?_ ?_
 ·exact ⟨gN _,rfl,fun _ _ h=>h⟩
 clear H;rintro ⟨k,g2⟩ a w hI H;dsimp only at hI H;obtain ⟨hk3,hno,iT⟩:=hI;have zB:=Au.mono iT;dsimp only [lca,bG] at H;refine dO 4 H ?_ ?_ <;> clear H
 ·intro p28
  have hk4:k < l.length:=by omega
  obtain ⟨b,o,pA,pc,rfl,hrow,hp,hrep⟩:=Co zB hk4;refine ak 5 ?_;intro a H;refine aR jD (cs:=[_,_,_,_,_,_]) H wn rfl rfl (fun j v hj=>H.hp.aI (hrow j v hj)) rfl ?_;clear H;intro a H;refine dz jD H wn rfl ?_;clear H;intro b6 a w hb6 H;refine aX jD 0 (vs:=[_,_,_,_,_,_]) _ H wn rfl rfl rfl rfl rfl rfl rfl rfl ?_;clear H;intro w H;dsimp only [List.set,setRow] at H;refine kJ 6 34 H ?_ ?_ <;> clear H
  ·intro kY
   try have p34:=dT kY
   refine ak 5 ?_;intro a H;refine s_call QK H (wg H rfl rfl kY) rfl (TQ _ _ H.ro l l[k].kind l[k].base _ zB) rfl ?_;clear H;rintro v40 g2 a w rfl EI H;replace iT:=fun b o (h:g b=some o)=>EI b o (iT b o h);replace zB:=zB.mono EI;refine pU 3 43 H ?_ ?_ <;> clear H
   ·intro p43
    refine ak 18 ?_;have hbad:l.any (sO l)=true:=vg hk4 (by unfold sO;simp_all);refine ak 1 ?_;intro a H;refine aX iw 1 (vs:=[_]) _ H wn rfl rfl rfl rfl rfl rfl rfl rfl ?_;clear H;intro w H;dsimp only [List.set,setRow] at H;refine aC ?_;refine dQ ?_;refine cu ?_;refine (leave1 H results119 (.cons (Ci iw H rfl (H.hp.qH 1 rfl rfl)) .nil) ?_).1
    first
     | exact H.rt (aB vi (by rw [gJ,av (by omega)]))
     | exact H.rt (aB vi (by rw [ah (by simpa using iW)] at heq;rw [gJ,ah (by omega),← heq,av (by simpa using iW)]))
     | exact H.rt (aB vi (by rw [gJ,ah (by omega),ah (by rw [hok];decide),av hbad]))
     | exact H.rt (aB vi (by rw [gJ,ah (by omega),ah (by rw [hok];decide),ah hbad,av (vg hj2 hI)]))
     | exact H.rt (aB vi (by rw [gJ,ah (by omega),ah (by rw [hok];decide),ah hbad,ah (zY (by omega) hnc)]))
   intro p43
   refine lU 4 47 ?_ ?_
   ·intro p47
    refine jM 4 51 ?_ ?_
    ·intro Bv
     try have p51:=dT Bv
     refine ak 10 ?_;have hbad:l.any (sO l)=true:=vg hk4 (by unfold sO;simp_all);refine ak 1 ?_;intro a H;refine aX iw 1 (vs:=[_]) _ H wn rfl rfl rfl rfl rfl rfl rfl rfl ?_;clear H;intro w H;dsimp only [List.set,setRow] at H;refine aC ?_;refine dQ ?_;refine cu ?_;refine (leave1 H results119 (.cons (Ci iw H rfl (H.hp.qH 1 rfl rfl)) .nil) ?_).1
     first
      | exact H.rt (aB vi (by rw [gJ,av (by omega)]))
      | exact H.rt (aB vi (by rw [ah (by simpa using iW)] at heq;rw [gJ,ah (by omega),← heq,av (by simpa using iW)]))
      | exact H.rt (aB vi (by rw [gJ,ah (by omega),ah (by rw [hok];decide),av hbad]))
      | exact H.rt (aB vi (by rw [gJ,ah (by omega),ah (by rw [hok];decide),ah hbad,av (vg hj2 hI)]))
      | exact H.rt (aB vi (by rw [gJ,ah (by omega),ah (by rw [hok];decide),ah hbad,ah (zY (by omega) hnc)]))
    intro Bv
    try have p51:=dF Bv
    refine ak 3 ?_;intro a H;refine s_call QK H (wg H rfl rfl Bv) rfl (TQ _ _ H.ro l 1 l[k].next _ zB) rfl ?_;clear H;rintro v55 g2 a w rfl uG H;replace iT:=fun b o (h:g b=some o)=>uG b o (iT b o h);replace zB:=zB.mono uG;refine gF 5 H ?_ ?_ <;> clear H
    ·intro p59
     have hbad:l.any (sO l)=true:=vg hk4 (by unfold sO;simp_all);refine ak 1 ?_;intro a H;refine aX iw 1 (vs:=[_]) _ H wn rfl rfl rfl rfl rfl rfl rfl rfl ?_;clear H;intro w H;dsimp only [List.set,setRow] at H;refine aC ?_;refine dQ ?_;refine cu ?_;refine (leave1 H results119 (.cons (Ci iw H rfl (H.hp.qH 1 rfl rfl)) .nil) ?_).1
     first
      | exact H.rt (aB vi (by rw [gJ,av (by omega)]))
      | exact H.rt (aB vi (by rw [ah (by simpa using iW)] at heq;rw [gJ,ah (by omega),← heq,av (by simpa using iW)]))
      | exact H.rt (aB vi (by rw [gJ,ah (by omega),ah (by rw [hok];decide),av hbad]))
      | exact H.rt (aB vi (by rw [gJ,ah (by omega),ah (by rw [hok];decide),ah hbad,av (vg hj2 hI)]))
      | exact H.rt (aB vi (by rw [gJ,ah (by omega),ah (by rw [hok];decide),ah hbad,ah (zY (by omega) hnc)]))
    intro p59
    refine ak 4 ?_;intro a H;refine aC ?_;refine cB ((k+1,g2)) (by exact (H.dY (Pl:=[_,_,_]) (dJ:=[_,_]) [1,2] (by decide) rfl).sub ⟨rfl,rfl,rfl,rfl,rfl,bq⟩) ?_ ?_
    ·(try dsimp only);exact ⟨by omega,I9 hk4 hno (by unfold sO;simp_all),iT⟩
    first|omega|(dsimp only;omega)
   intro p47
   refine ak 18 ?_;intro a H;refine aC ?_;refine cB ((k+1,g2)) (by exact (H.dY (Pl:=[_,_,_]) (dJ:=[_,_]) [1,2] (by decide) rfl).sub ⟨rfl,rfl,rfl,rfl,rfl,bq⟩) ?_ ?_
   ·(try dsimp only);exact ⟨by omega,I9 hk4 hno (by unfold sO;simp_all),iT⟩
   first|omega|(dsimp only;omega)
  intro kY
  try have p34:=dF kY
  refine ak 9 ?_;intro a H;refine Iu aju H (wg H rfl rfl rfl) rfl rfl ?_;clear H;intro a H;refine iC bR H (wg H rfl rfl rfl) rfl (H.hp.qH 0 rfl rfl) rfl ?_;clear H;intro a H;refine Ir H (wg H rfl rfl rfl) rfl rfl rfl rfl ?_;clear H;intro a H;refine Iw H (wg H rfl rfl rfl) rfl rfl ?_;clear H;refine jM 0 47 ?_ ?_
  ·intro h47
   try have p47:=dT h47
   refine jM 4 51 ?_ ?_
   ·intro Bv
    try have p51:=dT Bv
    refine ak 6 ?_;intro a H;refine KP H (wg H rfl rfl rfl) rfl h47 rfl rfl ?_;clear H;refine ak 3 ?_;have hbad:l.any (sO l)=true:=vg hk4 (by unfold sO;simp_all);refine ak 1 ?_;intro a H;refine aX iw 1 (vs:=[_]) _ H wn rfl rfl rfl rfl rfl rfl rfl rfl ?_;clear H;intro w H;dsimp only [List.set,setRow] at H;refine aC ?_;refine dQ ?_;refine cu ?_;refine (leave1 H results119 (.cons (Ci iw H rfl (H.hp.qH 1 rfl rfl)) .nil) ?_).1
    first
     | exact H.rt (aB vi (by rw [gJ,av (by omega)]))
     | exact H.rt (aB vi (by rw [ah (by simpa using iW)] at heq;rw [gJ,ah (by omega),← heq,av (by simpa using iW)]))
     | exact H.rt (aB vi (by rw [gJ,ah (by omega),ah (by rw [hok];decide),av hbad]))
     | exact H.rt (aB vi (by rw [gJ,ah (by omega),ah (by rw [hok];decide),ah hbad,av (vg hj2 hI)]))
     | exact H.rt (aB vi (by rw [gJ,ah (by omega),ah (by rw [hok];decide),ah hbad,ah (zY (by omega) hnc)]))
   intro Bv
   try have p51:=dF Bv
   refine ak 3 ?_;intro a H;refine s_call QK H (wg H rfl rfl Bv) rfl (TQ _ _ H.ro l 1 l[k].next _ zB) rfl ?_;clear H;rintro v55 g2 a w rfl uG H;replace iT:=fun b o (h:g b=some o)=>uG b o (iT b o h);replace zB:=zB.mono uG;refine aD 2 H ?_;clear H;intro a H;refine KP H (wg H rfl rfl rfl) rfl h47 rfl rfl ?_;clear H;refine goB 2 ?_ ?_
   ·intro p59
    have hbad:l.any (sO l)=true:=vg hk4 (by unfold sO;simp_all);refine ak 1 ?_;intro a H;refine aX iw 1 (vs:=[_]) _ H wn rfl rfl rfl rfl rfl rfl rfl rfl ?_;clear H;intro w H;dsimp only [List.set,setRow] at H;refine aC ?_;refine dQ ?_;refine cu ?_;refine (leave1 H results119 (.cons (Ci iw H rfl (H.hp.qH 1 rfl rfl)) .nil) ?_).1
    first
     | exact H.rt (aB vi (by rw [gJ,av (by omega)]))
     | exact H.rt (aB vi (by rw [ah (by simpa using iW)] at heq;rw [gJ,ah (by omega),← heq,av (by simpa using iW)]))
     | exact H.rt (aB vi (by rw [gJ,ah (by omega),ah (by rw [hok];decide),av hbad]))
     | exact H.rt (aB vi (by rw [gJ,ah (by omega),ah (by rw [hok];decide),ah hbad,av (vg hj2 hI)]))
     | exact H.rt (aB vi (by rw [gJ,ah (by omega),ah (by rw [hok];decide),ah hbad,ah (zY (by omega) hnc)]))
   intro p59
   refine ak 4 ?_;intro a H;refine aC ?_;refine cB ((k+1,g2)) (by exact (H.dY (Pl:=[_,_,_]) (dJ:=[_,_]) [1,2] (by decide) rfl).sub ⟨rfl,rfl,rfl,rfl,rfl,bq⟩) ?_ ?_
   ·(try dsimp only);exact ⟨by omega,I9 hk4 hno (by unfold sO;simp_all),iT⟩
   first|omega|(dsimp only;omega)
  intro h47
  try have p47:=dF h47
  refine ak 10 ?_;intro a H;refine OT H (wg H rfl rfl rfl) rfl h47 rfl rfl ?_;clear H;refine ak 7 ?_;intro a H;refine aC ?_;refine cB ((k+1,g2)) (by exact (H.dY (Pl:=[_,_,_]) (dJ:=[_,_]) [1,2] (by decide) rfl).sub ⟨rfl,rfl,rfl,rfl,rfl,bq⟩) ?_ ?_
  ·(try dsimp only);exact ⟨by omega,I9 hk4 hno (by unfold sO;simp_all),iT⟩
  first|omega|(dsimp only;omega)
 intro p28
 have hbad:=zY (by omega) hno;refine ak 8 ?_;intro a H;refine aeb (ι:=Nat × GH × List Nat) (Tc:=[(1,_),(2,_),(61,_),(62,_)]) (Lc:=[(_,_),(_,_)]) (fun gh=>Uk gh.2.2) (fun gh=>[(63,vi gh.1)]) (fun gh=>[]++(E9 gh.2.2++[])) (fun gh=>gh.2.1) (fun gh=>gh.1≤l.length∧(l.take gh.1).any (Qz l)=false∧(∀ b o,g2 b=some o→gh.2.1 b=some o)) (fun gh=>l.length - gh.1) ((0,g2,[])) sB ?_ ?_
 ·exact ⟨gN _,rfl,fun _ _ h=>h⟩
 clear H;rintro ⟨j,g3,ds⟩ a w hI H;dsimp only at hI H;obtain ⟨hj,hnc,vK⟩:=hI;have TG:=zB.mono vK;dsimp only [lca,bG] at H;refine dO 4 H ?_ ?_ <;> clear H
 ·intro p64
  have hj2:j < l.length:=by omega
  obtain ⟨b,o,pA,pc,rfl,hrow,hp,hrep⟩:=Co TG hj2;refine ak 5 ?_;intro a H;refine aR jD (cs:=[_,_,_,_,_,_]) H wn rfl rfl (fun j v hj=>H.hp.aI (hrow j v hj)) rfl ?_;clear H;intro a H;refine dz jD H wn rfl ?_;clear H;intro b8 a w Al H;refine aX jD 0 (vs:=[_,_,_,_,_,_]) _ H wn rfl rfl rfl rfl rfl rfl rfl rfl ?_;clear H;intro w H;dsimp only [List.set,setRow] at H;refine aD 2 H ?_;clear H;intro a H;refine dz bR H wn rfl ?_;clear H;intro b9 a w tC H;refine aX bR 0 (vs:=[_]) _ H wn rfl rfl rfl rfl rfl rfl rfl rfl ?_;clear H;intro w H;dsimp only [List.set,setRow] at H;refine aD 5 H ?_;clear H;intro a H;refine gy agU (Li:=[_,_,_,_]++E9 ds) (L:=[]) (St.un (A:=[_,_,_,_]) H) wn rfl (aeB (Hp.owns (Li:=[_,_,_,_]++E9 ds) (St.un (A:=[_,_,_,_]) H).hp) l l[j].id _ TG) rfl ?_;clear H;rintro v70 g4 L70 a w ⟨bl,bi,rfl,rfl,hbl⟩ Zo H;have H:=(St.Ij (A:=[_,_,_,_,_]) (B:=E9 ds) (H.perm ug));dsimp only [lca,bG] at H;have hit:=aeA (l:=l) (id:=l[j].id) (bi:=bi) hbl (TG.mono Zo) (aaY hok);refine aD 2 H ?_;clear H;intro a H;refine aef (B:=[(_,_)]) (ι:=Unit) (κ:=Int) (Lc:=[(_,_),(_,_)]) (fun (k:Nat) (gh:Unit)=>[(b9,.cells #[vi k] 3 (0,0)),(b2,.cells #[vi 0] 49 (0,0))]) (fun (k:Nat) (gh:Unit)=>(E9 ds++[])) (fun (k:Nat) (gh:Unit) (g:GH)=>k≤l.length) (fun (gx:Int)=>Code.ret) (fun (gx:Int)=>[(b9,.cells #[vi gx] 3 (0,0)),(b2,.cells #[vi 16] 49 (0,0))]) (fun (gx:Int)=>(E9 ds++[])) (fun (gx:Int) (g:GH)=>Qz l l[j]=true) (()) (by exact H.dY (Pl:=[_,_,_,_,_]) (dJ:=[_,_,_,_,_]) [0,2,4,1,3] (by decide) rfl) rfl XQ (hit) (fun _ _ h=>h) (fun e i g h=>absurd (of_decide_eq_false e) (by rw [bM] at h;omega)) rfl (fun k args g h=>by obtain ⟨_,_,rfl,_⟩:=abY h;rfl) (fun _ _ _ _ _ h=>h) (fun _ _ _ _ h=>h) (gN _) ?_ ?_ ?_
  ·clear H;intro l21 Fv Bp bk k args gh PE w21 F21 B21 a Zf Am hI akU alR amw H;obtain ⟨Zf,asN,rfl,atE⟩:=abY Zf;dsimp only [zZ,List.cons_append,List.nil_append] at H;refine jL ?_;refine akU _ _ _ _ _ _ (by exact H) ?_;clear H;intro w H;refine fM 4 H ?_;clear H;intro a H;refine aX bR 3 (vs:=[_]) _ H wn rfl rfl rfl rfl rfl rfl rfl rfl ?_;clear H;intro w H;dsimp only [List.set,setRow] at H;refine gF 7 H ?_ ?_ <;> clear H
   ·intro Il
    refine ak 1 ?_;intro a H;refine aX iw 4 (vs:=[_]) _ H wn rfl rfl rfl rfl rfl rfl rfl rfl ?_;clear H;intro w H;dsimp only [List.set,setRow] at H;refine aC ?_;refine dQ ?_;refine cu ?_;refine (amw ((k:Int)+1) _ _ _ _ _ (by exact H) ?_).1 rfl;exact iQ (by omega)
   intro Il
   intro a H;refine jL ?_;refine alR (()) _ _ _ _ _ (by exact H) ?_
   omega
  ·clear H;intro VF gh VY a w Am hI H;dsimp only [lca,bG] at H;refine dQ ?_;refine fM 3 H ?_;clear H;intro a H;refine aC ?_;refine anz ((j+1,VY,VF :: ds)) (by exact (H.dY (Pl:=[_,_,_,_,_]) (dJ:=[_,_,_]) [4,2,0] (by decide) rfl).sub ⟨rfl,rfl,rfl,rfl,rfl,bq⟩) ?_ ?_
   ·(try dsimp only);exact ⟨by omega,I9 hj2 hnc (iY (by rw [bM] at hI;omega)),fun b o h=>Am b o (Zo b o (vK b o h))⟩
   first|omega|(dsimp only;omega)
  clear H;intro VF x VY a w Am hI H;dsimp only [lca,bG] at H;refine cu ?_;refine (TY H 0 rfl ?_).1;clear H;intro a w H;dsimp only [List.eraseIdx_cons_succ,List.eraseIdx_cons_zero] at H;refine (T9 (Lh:=[_,_,_,_]) _ H ?_).1;clear H;intro a w H;dsimp only [lca,bG] at H;refine (leave1 H results119 (.cons (Ci iw H rfl (H.hp.qH 3 rfl rfl)) .nil) ?_).1
  first
   | exact H.rt (aB vi (by rw [gJ,av (by omega)]))
   | exact H.rt (aB vi (by rw [ah (by simpa using iW)] at heq;rw [gJ,ah (by omega),← heq,av (by simpa using iW)]))
   | exact H.rt (aB vi (by rw [gJ,ah (by omega),ah (by rw [hok];decide),av hbad]))
   | exact H.rt (aB vi (by rw [gJ,ah (by omega),ah (by rw [hok];decide),ah hbad,av (vg hj2 hI)]))
   | exact H.rt (aB vi (by rw [gJ,ah (by omega),ah (by rw [hok];decide),ah hbad,ah (zY (by omega) hnc)]))
 intro p64
 refine ak 2 ?_;intro a H;refine aX iw 0 (vs:=[_]) _ H wn rfl rfl rfl rfl rfl rfl rfl rfl ?_;clear H;intro w H;dsimp only [List.set,setRow] at H;refine aC ?_;refine dQ ?_;refine cu ?_;refine (T9 (Lh:=[_,_]) _ H ?_).1;clear H;intro a w H;dsimp only [lca,bG] at H;refine (leave1 H results119 (.cons (Ci iw H rfl (H.hp.qH 0 rfl rfl)) .nil) ?_).1
 first
  | exact H.rt (aB vi (by rw [gJ,av (by omega)]))
  | exact H.rt (aB vi (by rw [ah (by simpa using iW)] at heq;rw [gJ,ah (by omega),← heq,av (by simpa using iW)]))
  | exact H.rt (aB vi (by rw [gJ,ah (by omega),ah (by rw [hok];decide),av hbad]))
  | exact H.rt (aB vi (by rw [gJ,ah (by omega),ah (by rw [hok];decide),ah hbad,av (vg hj2 hI)]))
  | exact H.rt (aB vi (by rw [gJ,ah (by omega),ah (by rw [hok];decide),ah hbad,ah (zY (by omega) hnc)]))
end
section
open Go.RowKit
instance yh:Ty prog 34 1 24 [.slice none 0 0] false:=⟨by kernel_rfl,by kernel_rfl⟩
theorem sH:prog.underlying 34=some (.slice 110):=by kernel_rfl
instance:jZ prog 34 (.slice 110):=⟨sH⟩
instance uS:Ty prog 110 2 32 [.string ⟨#[]⟩,.string ⟨#[]⟩] true:=⟨by kernel_rfl,by kernel_rfl⟩
instance GQ:dR prog 110 0 0:=⟨by kernel_rfl⟩
theorem QM:∀ args w,(callFunc 192 args).run prog w=.ok (.enter 192 args) w:=enters func192 rfl (by kernel_rfl)
instance Yf:dR prog 110 1 1:=⟨by kernel_rfl⟩
instance Rj:dR prog 36 0 0:=⟨by kernel_rfl⟩
theorem agd:∀ args w,(callFunc 119 args).run prog w=.ok (.enter 119 args) w:=enters func119 rfl (by kernel_rfl)
instance Rp:dR prog 36 1 1:=⟨by kernel_rfl⟩
theorem agf:∀ args w,(callFunc 120 args).run prog w=.ok (.enter 120 args) w:=enters func120 rfl (by kernel_rfl)
instance ajy:dR prog 36 2 2:=⟨by kernel_rfl⟩
theorem agh:∀ args w,(callFunc 121 args).run prog w=.ok (.enter 121 args) w:=enters func121 rfl (by kernel_rfl)
instance ajz:dR prog 36 3 3:=⟨by kernel_rfl⟩
theorem agi:∀ args w,(callFunc 122 args).run prog w=.ok (.enter 122 args) w:=enters func122 rfl (by kernel_rfl)
theorem ahd:∀ args w,(callFunc 191 args).run prog w=.ok (.enter 191 args) w:=enters func191 rfl (by kernel_rfl)
theorem acK {G:GH} {l:List iy} {A:Option Addr} {n c k:Nat} (hv:au G (.sl 2 (l.map iy.dat)) (.slice A n c)) (hk:k < l.length):∃ b o,A=some ⟨b,o,none⟩∧(∀ j u,l[k].cells[j]?=some u→aI G b (o+k*2+j)=some u):=by
 obtain ⟨A',c',he,_,_,hg⟩:=hv.slice
 injection he with e1 e2 e3
 subst e1;obtain ⟨b,o,cs,h1,h2,h3,h4⟩:=hg k l[k].dat (by simp [hk]);have:=Vo h4;subst this;exact ⟨b,o,h1,h3⟩
def acJ (k:Nat) (x:iy) (pn:ByteArray):Int:=dh [dx (!qO x.name) 13,dx (decide (0 < (k:Int)) && (x.name.toList == pn.toList)) 7,dx (decide (0 < (k:Int)) && Op.bytesLess x.name.toList pn.toList) 6,Cr x.value]
def II (l:List iy) (k:Nat):Int:=match l[k]? with|some x=>acJ k x ((l[k - 1]?.map iy.name).getD ⟨#[]⟩)|none=>0
theorem arW {G:GH} {bl:Nat} {l:List iy} {A:Option Addr} {n c:Nat} (hb:aI G bl 0=some (.slice A n c)) (hv:au G (.sl 2 (l.map iy.dat)) (.slice A n c)) (hl:l.length≤4294967296) (ht:∀ x∈l,x.name.size < 4611686018427387904∧x.value.size < 4611686018427387904):sJ (.func (.func 191) #[] #[(aG bl 0)]) G l.length (II l):=by
 intro k hk G1 w0 hm hG;refine iM (caps:=[(aG bl 0)]) ahd ?_;replace hb:=aH hm hb;replace hv:=hv.mono hm
 obtain rfl:n=l.length:=by have:=hv.len;simpa using this
 obtain ⟨b,o,rfl,hrow⟩:=acK hv hk
 have hk1:k - 1 < l.length:=by omega
 obtain ⟨b',o',he',hrow'⟩:=acK hv hk1
 injection he' with he'
 injection he' with e1 e2
 subst e1;subst e2;have hte:=ht _ (lD hk)
 have he:II l k=acJ k l[k] l[k - 1].name:=by unfold II;rw [eO hk,eO hk1];rfl
 obtain ⟨x,hx⟩:∃ x,x=l[k]:=⟨_,rfl⟩;obtain ⟨y,hy⟩:∃ y,y=l[k - 1]:=⟨_,rfl⟩;rw [← hx] at hrow hte he;rw [← hy] at hrow' he;refine eN [(0,_),(1,_)] func191 rfl ntmps191 rfl rfl hG ?_;refine ak 4 ?_;intro a H;have H:=H.sub (T':=[(0,_),(1,_)]) ⟨rfl,rfl,bq⟩
 by_cases c0:0 < (k:Int)
 ·refine dI hmx [[],[],[0,1],[0,1,2],(ra 0 4),(ra 0 5),(ra 0 6),(ra 0 7),[],[8],(ra 0 10),(ra 0 11),(ra 0 11),(ra 0 13),(ra 0 14),(ra 0 15),(ra 0 11),(ra 0 11),(ra 0 11++[17]),(ra 0 11++[17,18]),(ra 0 11++ra 16 4),(ra 0 11++ra 16 5),(ra 0 11++ra 16 6),(ra 0 23),(ra 0 24),(ra 0 25),[],[26],(ra 0 28),(ra 0 29),(ra 0 29),(ra 0 31),(ra 0 32),(ra 0 33),(ra 0 29),(ra 0 29),(ra 0 29++[35]),(ra 0 29++[35,36]),(ra 0 29++ra 34 4),(ra 0 29++ra 34 5),(ra 0 29++ra 34 6),(ra 0 41),(ra 0 42),(ra 0 43),[],[],[44,45],[44,45,46],(ra 44 4),(ra 0 49),(ra 0 50),(ra 0 51),(ra 0 52)] [50,51,52] (by kernel_rfl) [_,_,_,_,_,.bool (qO x.name),_,vi (dx (!qO x.name) 13),_,_,_,_,_,_,_,_,_,_,vi ((max k 1:Nat):Int),vi ((k - 1:Nat):Int),_,_,_,.bool (x.name.toList == y.name.toList),.bool (decide (0 < (k:Int)) && (x.name.toList == y.name.toList)),vi (dx (decide (0 < (k:Int)) && (x.name.toList == y.name.toList)) 7),_,_,_,_,_,_,_,_,_,_,vi ((max k 1:Nat):Int),vi ((k - 1:Nat):Int),_,_,_,.bool (Op.bytesLess x.name.toList y.name.toList),.bool (decide (0 < (k:Int)) && Op.bytesLess x.name.toList y.name.toList),vi (dx (decide (0 < (k:Int)) && Op.bytesLess x.name.toList y.name.toList) 6),_,_,_,_,_,vi (Cr x.value)] H (aF (X0 rfl fun hG=>Rg yh rfl (aH hG hb)) (Z0 rfl (Rm rfl)) (Z2 0 4 1 5 rfl (Ri sH uS rfl rfl)) (Z1 2 6 rfl (Rf GQ rfl)) (aF (X1 3 7 rfl fun hG=>Rg mh rfl (aH hG (hrow 0 _ rfl))) ?_ (Z1 5 9 rfl (Rn rfl)) ?_ (aF (Z0 rfl (Rm rfl)) (Z1 8 12 rfl (Rc rfl)) (Z1 9 13 rfl (Rm rfl)) (X1 10 14 rfl fun hG=>YR yh (aK c0) rfl (aH hG hb)) (aF (Z1 10 14 rfl (YM (aK c0) rfl)) (Z3 11 15 12 16 10 14 rfl (YI sH uS (aK c0) rfl rfl)) (Z2 13 17 10 14 rfl (YF GQ (aK c0) rfl)) (X2 14 18 10 14 rfl fun hG=>YR mh (aK c0) rfl (aH hG (hrow 0 _ rfl))) (aF (X1 10 14 rfl fun hG=>YR yh (aK c0) rfl (aH hG hb)) (Z1 10 14 rfl (YM (aK c0) rfl)) ?_ ?_ (aF (Z3 16 20 19 23 10 14 rfl (YI sH uS (aK c0) rfl rfl)) (Z2 20 24 10 14 rfl (YF GQ (aK c0) rfl)) (X2 21 25 10 14 rfl fun hG=>YR mh (aK c0) rfl (aH hG (hrow' 0 _ rfl))) ?_ (aF ?_ ?_ (Z0 rfl (Rm rfl)) (Z1 26 30 rfl (Rc rfl)) (aF (Z1 27 31 rfl (Rm rfl)) (X1 28 32 rfl fun hG=>YR yh (aK c0) rfl (aH hG hb)) (Z1 28 32 rfl (YM (aK c0) rfl)) (Z3 29 33 30 34 28 32 rfl (YI sH uS (aK c0) rfl rfl)) (aF (Z2 31 35 28 32 rfl (YF GQ (aK c0) rfl)) (X2 32 36 28 32 rfl fun hG=>YR mh (aK c0) rfl (aH hG (hrow 0 _ rfl))) (X1 28 32 rfl fun hG=>YR yh (aK c0) rfl (aH hG hb)) (Z1 28 32 rfl (YM (aK c0) rfl)) (aF ?_ ?_ (Z3 34 38 37 41 28 32 rfl (YI sH uS (aK c0) rfl rfl)) (Z2 38 42 28 32 rfl (YF GQ (aK c0) rfl)) (aF (X2 39 43 28 32 rfl fun hG=>YR mh (aK c0) rfl (aH hG (hrow' 0 _ rfl))) ?_ ?_ ?_ (aF (X0 rfl fun hG=>Rg yh rfl (aH hG hb)) (Z0 rfl (Rm rfl)) (Z2 44 48 45 49 rfl (Ri sH uS rfl rfl)) (Z1 46 50 rfl (Rf Yf rfl)) (aF (X1 47 51 rfl fun hG=>Rg mh rfl (aH hG (hrow 1 _ rfl))) ?_ (bQ rfl) (bQ rfl) (bH (bQ rfl) cO)))))))))))))) ?_
  ·refine dZ 4 8 rfl rfl fun _ a w G1 hG HT H fin=>?_;refine s_call QM H wn rfl (Qw _ _ H.ro x.name hte.1) rfl ?_;clear H;rintro v9 G9 a w ⟨rfl,-⟩ R8 H;exact fin H R8 (rfl)
  ·refine dZ 6 10 rfl rfl fun _ a w G1 hG HT H fin=>?_;refine s_call jA H wn rfl (jF _ _ H.ro _ 13) rfl ?_;clear H;rintro v11 qX a w ⟨rfl,-⟩ kZ H;exact fin H kZ (rfl)
  ·refine dD 17 21 10 14 rfl rfl fun _ a w G1 hG HT H fin=>?_;refine OO H (wg H rfl rfl (aK c0)) rfl rfl rfl ?_;clear H;intro a H;exact fin H iJ (by show _=_;first|rfl|exact aB vi (by omega))
  ·refine dD 18 22 10 14 rfl rfl fun _ a w G1 hG HT H fin=>?_;refine lK _ H (wg H rfl rfl (aK c0)) rfl rfl rfl (by omega) (by omega) rfl ?_;clear H;intro a H;exact fin H iJ (by show _=_;first|rfl|exact aB vi (by omega))
  ·refine xA 15 19 22 26 10 14 rfl rfl fun _ a w G1 hG HT H fin=>?_;refine AO H (wg H rfl rfl (aK c0)) rfl rfl rfl ?_;clear H;intro a H;exact fin H iJ rfl
  ·refine dD 10 14 23 27 rfl rfl fun _ a w G1 hG HT H fin=>?_;refine aD 1 H ?_;clear H;intro a H;exact fin H iJ (dB (by first|(rw [iQ c0,CO];done)|(rw [iY c0,wz];done)))
  ·refine dZ 24 28 rfl rfl fun _ a w G1 hG HT H fin=>?_;refine s_call jA H wn rfl (jF _ _ H.ro _ 7) rfl ?_;clear H;rintro v29 xu a w ⟨rfl,-⟩ RU H;exact fin H RU (rfl)
  ·refine dD 35 39 28 32 rfl rfl fun _ a w G1 hG HT H fin=>?_;refine OO H (wg H rfl rfl (aK c0)) rfl rfl rfl ?_;clear H;intro a H;exact fin H iJ (by show _=_;first|rfl|exact aB vi (by omega))
  ·refine dD 36 40 28 32 rfl rfl fun _ a w G1 hG HT H fin=>?_;refine lK _ H (wg H rfl rfl (aK c0)) rfl rfl rfl (by omega) (by omega) rfl ?_;clear H;intro a H;exact fin H iJ (by show _=_;first|rfl|exact aB vi (by omega))
  ·refine xA 33 37 40 44 28 32 rfl rfl fun _ a w G1 hG HT H fin=>?_;refine aqa H (wg H rfl rfl (aK c0)) rfl rfl rfl ?_;clear H;intro a H;exact fin H iJ rfl
  ·refine dD 28 32 41 45 rfl rfl fun _ a w G1 hG HT H fin=>?_;refine aD 1 H ?_;clear H;intro a H;exact fin H iJ (dB (by first|(rw [iQ c0,CO];done)|(rw [iY c0,wz];done)))
  ·refine dZ 42 46 rfl rfl fun _ a w G1 hG HT H fin=>?_;refine s_call jA H wn rfl (jF _ _ H.ro _ 6) rfl ?_;clear H;rintro v47 VT a w ⟨rfl,-⟩ R3 H;exact fin H R3 (rfl)
  ·refine dZ 48 52 rfl rfl fun _ a w G1 hG HT H fin=>?_;refine s_call QL H wn rfl (Vb _ _ H.ro x.value hte.2) rfl ?_;clear H;rintro v53 VW a w rfl JE H;exact fin H JE (rfl)
  clear H;intro a w G iN H hv;have H:=H.aN (hv 7 11 rfl rfl) rfl;have H:=H.aN (hv 25 29 rfl rfl) rfl;have H:=H.aN (hv 43 47 rfl rfl) rfl;have H:=H.aN (hv 49 53 rfl rfl) rfl;clear hv;refine gG ql iw [_,_,_,_] [_,_,_,_] H wn rfl rfl rfl rfl rfl (by intro i q h;match i,h with|0,h=>exact h|1,h=>exact h|2,h=>exact h|3,h=>exact h|n+4,h=>simp at h) rfl rfl ?_;clear H;intro Aa a w YW H;obtain ⟨G54,alI,Sn,H⟩:=H.eu;refine s_call qC H wn rfl (qD _ _ H.ro _ _ (EX [dx (!qO x.name) 13,dx (decide (0 < (k:Int)) && (x.name.toList == y.name.toList)) 7,dx (decide (0 < (k:Int)) && Op.bytesLess x.name.toList y.name.toList) 6,Cr x.value] Sn (show 4≤maxLen by decide))) rfl ?_;clear H;rintro v55 _ a w ⟨rfl,rfl⟩ - H;refine kH H (Ra rfl ?_);clear H;intro a H;refine aC ⟨rfl,?_⟩;refine dQ ?_;refine uy 0 H ?_;rw [he];rfl
 refine dI hmx [[],[],[0,1],[0,1,2],(ra 0 4),(ra 0 5),(ra 0 6),(ra 0 7),[],[8],(ra 0 10),(ra 0 11),(ra 0 11),(ra 0 13),(ra 0 14),(ra 0 15),(ra 0 11),(ra 0 11),(ra 0 11++[17]),(ra 0 11++[17,18]),(ra 0 11++ra 16 4),(ra 0 11++ra 16 5),(ra 0 11++ra 16 6),(ra 0 23),(ra 0 24),(ra 0 25),[],[26],(ra 0 28),(ra 0 29),(ra 0 29),(ra 0 31),(ra 0 32),(ra 0 33),(ra 0 29),(ra 0 29),(ra 0 29++[35]),(ra 0 29++[35,36]),(ra 0 29++ra 34 4),(ra 0 29++ra 34 5),(ra 0 29++ra 34 6),(ra 0 41),(ra 0 42),(ra 0 43),[],[],[44,45],[44,45,46],(ra 44 4),(ra 0 49),(ra 0 50),(ra 0 51),(ra 0 52)] [50,51,52] (by kernel_rfl) [_,_,_,_,_,.bool (qO x.name),_,vi (dx (!qO x.name) 13),_,_,_,undef,undef,undef,undef,undef,undef,undef,undef,undef,undef,undef,undef,undef,.bool (decide (0 < (k:Int)) && (x.name.toList == y.name.toList)),vi (dx (decide (0 < (k:Int)) && (x.name.toList == y.name.toList)) 7),_,_,_,undef,undef,undef,undef,undef,undef,undef,undef,undef,undef,undef,undef,undef,.bool (decide (0 < (k:Int)) && Op.bytesLess x.name.toList y.name.toList),vi (dx (decide (0 < (k:Int)) && Op.bytesLess x.name.toList y.name.toList) 6),_,_,_,_,_,vi (Cr x.value)] H (aF (X0 rfl fun hG=>Rg yh rfl (aH hG hb)) (Z0 rfl (Rm rfl)) (Z2 0 4 1 5 rfl (Ri sH uS rfl rfl)) (Z1 2 6 rfl (Rf GQ rfl)) (aF (X1 3 7 rfl fun hG=>Rg mh rfl (aH hG (hrow 0 _ rfl))) ?_ (Z1 5 9 rfl (Rn rfl)) ?_ (aF (Z0 rfl (Rm rfl)) (Z1 8 12 rfl (Rc rfl)) (Z1 9 13 rfl (Rm rfl)) (aY 10 (bD c0) rfl rfl) (aF (aY 10 (bD c0) rfl rfl) (aY 10 (bD c0) rfl rfl) (aY 10 (bD c0) rfl rfl) (aY 10 (bD c0) rfl rfl) (aF (aY 10 (bD c0) rfl rfl) (aY 10 (bD c0) rfl rfl) (aY 10 (bD c0) rfl rfl) (aY 10 (bD c0) rfl rfl) (aF (aY 10 (bD c0) rfl rfl) (aY 10 (bD c0) rfl rfl) (aY 10 (bD c0) rfl rfl) (aY 10 (bD c0) rfl rfl) (aF ?_ ?_ (Z0 rfl (Rm rfl)) (Z1 26 30 rfl (Rc rfl)) (aF (Z1 27 31 rfl (Rm rfl)) (aY 28 (bD c0) rfl rfl) (aY 28 (bD c0) rfl rfl) (aY 28 (bD c0) rfl rfl) (aF (aY 28 (bD c0) rfl rfl) (aY 28 (bD c0) rfl rfl) (aY 28 (bD c0) rfl rfl) (aY 28 (bD c0) rfl rfl) (aF (aY 28 (bD c0) rfl rfl) (aY 28 (bD c0) rfl rfl) (aY 28 (bD c0) rfl rfl) (aY 28 (bD c0) rfl rfl) (aF (aY 28 (bD c0) rfl rfl) (aY 28 (bD c0) rfl rfl) ?_ ?_ (aF (X0 rfl fun hG=>Rg yh rfl (aH hG hb)) (Z0 rfl (Rm rfl)) (Z2 44 48 45 49 rfl (Ri sH uS rfl rfl)) (Z1 46 50 rfl (Rf Yf rfl)) (aF (X1 47 51 rfl fun hG=>Rg mh rfl (aH hG (hrow 1 _ rfl))) ?_ (bQ rfl) (bQ rfl) (bH (bQ rfl) cO)))))))))))))) ?_
 ·refine dZ 4 8 rfl rfl fun _ a w G1 hG HT H fin=>?_;refine s_call QM H wn rfl (Qw _ _ H.ro x.name hte.1) rfl ?_;clear H;rintro v9 G9 a w ⟨rfl,-⟩ R8 H;exact fin H R8 (rfl)
 ·refine dZ 6 10 rfl rfl fun _ a w G1 hG HT H fin=>?_;refine s_call jA H wn rfl (jF _ _ H.ro _ 13) rfl ?_;clear H;rintro v11 qX a w ⟨rfl,-⟩ kZ H;exact fin H kZ (rfl)
 ·refine dD 10 14 23 27 rfl rfl fun _ a w G1 hG HT H fin=>?_;refine aD 1 H ?_;clear H;intro a H;exact fin H iJ (dB (by first|(rw [iQ c0,CO];done)|(rw [iY c0,wz];done)))
 ·refine dZ 24 28 rfl rfl fun _ a w G1 hG HT H fin=>?_;refine s_call jA H wn rfl (jF _ _ H.ro _ 7) rfl ?_;clear H;rintro v29 xu a w ⟨rfl,-⟩ RU H;exact fin H RU (rfl)
 ·refine dD 28 32 41 45 rfl rfl fun _ a w G1 hG HT H fin=>?_;refine aD 1 H ?_;clear H;intro a H;exact fin H iJ (dB (by first|(rw [iQ c0,CO];done)|(rw [iY c0,wz];done)))
 ·refine dZ 42 46 rfl rfl fun _ a w G1 hG HT H fin=>?_;refine s_call jA H wn rfl (jF _ _ H.ro _ 6) rfl ?_;clear H;rintro v47 VT a w ⟨rfl,-⟩ R3 H;exact fin H R3 (rfl)
 ·refine dZ 48 52 rfl rfl fun _ a w G1 hG HT H fin=>?_;refine s_call QL H wn rfl (Vb _ _ H.ro x.value hte.2) rfl ?_;clear H;rintro v53 VW a w rfl JE H;exact fin H JE (rfl)
 clear H;intro a w G iN H hv;have H:=H.aN (hv 7 11 rfl rfl) rfl;have H:=H.aN (hv 25 29 rfl rfl) rfl;have H:=H.aN (hv 43 47 rfl rfl) rfl;have H:=H.aN (hv 49 53 rfl rfl) rfl;clear hv;refine gG ql iw [_,_,_,_] [_,_,_,_] H wn rfl rfl rfl rfl rfl (by intro i q h;match i,h with|0,h=>exact h|1,h=>exact h|2,h=>exact h|3,h=>exact h|n+4,h=>simp at h) rfl rfl ?_;clear H;intro Aa a w YW H;obtain ⟨G54,alI,Sn,H⟩:=H.eu;refine s_call qC H wn rfl (qD _ _ H.ro _ _ (EX [dx (!qO x.name) 13,dx (decide (0 < (k:Int)) && (x.name.toList == y.name.toList)) 7,dx (decide (0 < (k:Int)) && Op.bytesLess x.name.toList y.name.toList) 6,Cr x.value] Sn (show 4≤maxLen by decide))) rfl ?_;clear H;rintro v55 _ a w ⟨rfl,rfl⟩ - H;refine kH H (Ra rfl ?_);clear H;intro a H;refine aC ⟨rfl,?_⟩;refine dQ ?_;refine uy 0 H ?_;rw [he];rfl
def MF (l:List iy):Int:=dh [dx (decide (128 < (l.length:Int))) 9,iF (II l) (min l.length 128)]
theorem aeI (G:GH) (w0:World) (hG:Hold G w0) (l:List iy) (v:aj) (hv:au G (.sl 2 (l.map iy.dat)) v) (hl:l.length≤4294967296) (ht:∀ x∈l,x.name.size < 4611686018427387904∧x.value.size < 4611686018427387904) :
  Calls prog 122 #[v] w0 (bC w0 G fun u G'=>u=vi (MF l)):=by
 obtain ⟨A,c,rfl,hc1,hc2,-⟩:=hv.slice;rw [bM] at *;refine eN [(0,_)] func122 rfl ntmps122 rfl rfl hG ?_;refine ak 1 ?_;intro a H;refine dP (cs:=[_]) H wn rfl rfl rfl ?_;clear H;intro b1 a w hb1 H;refine aD 3 H ?_;clear H;intro a H;have H:=H.sub (T':=[(1,_)]) ⟨rfl,bq⟩;obtain ⟨Ga,hma,hb1',H⟩:=H.eu
 have hbl:aI Ga b1 0=some (.slice A l.length c):=by unfold aI;rw [hb1'];rfl
 have hcb:=arW hbl (hv.mono hma) hl ht;refine dI hmx [[],[0],[0,1],[0,1,2],[],[4],[4,5],[],(ra 0 8),(ra 0 9),(ra 0 10),(ra 0 11)] [9,10,11] (by kernel_rfl) [_,_,_,vi (dx (decide (128 < (l.length:Int))) 9),_,_,vi ((min l.length 128:Nat):Int),.func (.func 191) #[] #[(aG b1 0)],vi (iF (II l) (min l.length 128))] H (aF (X0 rfl fun hG=>Rg yh rfl (aH hG hbl)) (Z1 0 3 rfl (Rl sH rfl)) (Z1 1 4 rfl (Rc rfl)) ?_ (aF (X0 rfl fun hG=>Rg yh rfl (aH hG hbl)) (Z1 4 7 rfl (Rl sH rfl)) ?_ ?_ (aF ?_ (bQ rfl) (bQ rfl) (bQ rfl) cO))) ?_
 ·refine dZ 2 5 rfl rfl fun _ a w G1 hG HT H fin=>?_;refine s_call jA H wn rfl (jF _ _ H.ro _ 9) rfl ?_;clear H;rintro v6 G6 a w ⟨rfl,-⟩ gD H;exact fin H gD (rfl)
 ·refine dZ 5 8 rfl rfl fun _ a w G1 hG HT H fin=>?_;refine OP H wn rfl rfl rfl ?_;clear H;intro a H;exact fin H iJ (aB vi (by omega))
 ·refine Bh rfl fun _ a w G1 hG HT H fin=>?_;refine nQ H wn rfl rfl ?_;clear H;intro a H;exact fin H iJ rfl
 ·refine dD 6 9 7 10 rfl rfl fun _ a w G1 hG HT H fin=>?_;refine s_call GD H wn rfl (I8 _ _ H.ro (min l.length 128) (II l) _ (by omega) ((hcb.mono hG).le (Nat.min_le_left _ _))) rfl ?_;clear H;rintro v11 qX a w rfl kZ H;exact fin H kZ (rfl)
 clear H;intro a w G iN H hv;have H:=H.aN (hv 3 6 rfl rfl) rfl;have H:=H.aN (hv 8 11 rfl rfl) rfl;clear hv;refine gG ql iw [_,_] [_,_] H wn rfl rfl rfl rfl rfl (by intro i q h;match i,h with|0,h=>exact h|1,h=>exact h|n+2,h=>simp at h) rfl rfl ?_;clear H;intro b12 a w EA H;obtain ⟨Bf,BJ,EB,H⟩:=H.eu;refine s_call qC H wn rfl (qD _ _ H.ro _ _ (xZ EB)) rfl ?_;clear H;rintro v13 _ a w ⟨rfl,rfl⟩ - H;refine kH H (Ra rfl ?_);clear H;intro a H;refine aC ⟨rfl,?_⟩;refine dQ ?_;refine uy 0 H ?_;exact rfl
structure zU where
 styles:List bS
 lists:List eD
 comments:List fE
 vars:List iy
structure xC (G:GH) (s:zU) (a b c d:aj):Prop where
 st:au G (.sl 6 (s.styles.map bS.dat)) a
 li:au G (.sl 2 (s.lists.map eD.dat)) b
 cm:au G (.sl 6 (s.comments.map fE.dat)) c
 va:au G (.sl 2 (s.vars.map iy.dat)) d
structure Qa (s:zU):Prop where
 sn:∀ x∈s.styles,x.name.size≤4611686018427387904
 ln:s.lists.length≤4294967296
 lt:∀ x∈s.lists,∀ y∈x.levels,y.wV.size < 4611686018427387904
 cn:s.comments.length≤4294967296
 ct:∀ x∈s.comments,x.author.size < 4611686018427387904∧x.text.size < 4611686018427387904
 vn:s.vars.length≤4294967296
 vt:∀ x∈s.vars,x.name.size < 4611686018427387904∧x.value.size < 4611686018427387904
 pl:∀ x∈s.styles,x.props.length≤4294967296
 ll:∀ x∈s.lists,x.levels.length≤4294967296
def Jd (s:zU):Int:=dh [gJ s.styles,Jc s.lists,ME s.comments,MF s.vars]
theorem aeH (G:GH) (w0:World) (hG:Hold G w0) (s:zU) (a b c d:aj) (hR:xC G s a b c d) (hz:Qa s) :
  Calls prog 67 #[.agg #[a,b,c,d]] w0 (bC w0 G fun u G'=>u=vi (Jd s)):=by
 obtain ⟨sA,sn,sc,rfl⟩:=hR.st.form;obtain ⟨lA,ln,lc,rfl⟩:=hR.li.form;obtain ⟨cA,cn,cc,rfl⟩:=hR.cm.form;obtain ⟨vA,vn,vc,rfl⟩:=hR.va.form;refine eN [(0,_)] func67 rfl ntmps67 rfl rfl hG ?_;refine ak 1 ?_;intro a H;refine dP (cs:=[_,_,_,_]) H wn rfl rfl rfl ?_;clear H;intro b1 a w hb1 H;refine aD 3 H ?_;clear H;intro a H;have H:=H.sub (T':=[(1,_)]) ⟨rfl,bq⟩;obtain ⟨Ga,hma,hb1',H⟩:=H.eu
 have hc0:aI Ga b1 0=some (.slice sA sn sc):=by unfold aI;rw [hb1'];rfl
 have hc1:aI Ga b1 1=some (.slice lA ln lc):=by unfold aI;rw [hb1'];rfl
 have hc2:aI Ga b1 2=some (.slice cA cn cc):=by unfold aI;rw [hb1'];rfl
 have hc3:aI Ga b1 3=some (.slice vA vn vc):=by unfold aI;rw [hb1'];rfl
 refine dI hmx [[],[0],[0,1],[],[3],(ra 0 5),[],[6],(ra 0 8),[],[9],(ra 0 11),(ra 0 12),(ra 0 13),(ra 0 14)] [12,13,14] (by kernel_rfl) [_,_,vi (gJ s.styles),_,_,vi (Jc s.lists),_,_,vi (ME s.comments),_,_,vi (MF s.vars)] H (aF (Z0 rfl (Rf Rj rfl)) (X1 0 3 rfl fun hG=>Rg FD rfl (aH hG hc0)) ?_ (Z0 rfl (Rf Rp rfl)) (aF (X1 3 6 rfl fun hG=>Rg FE rfl (aH hG hc1)) ?_ (Z0 rfl (Rf ajy rfl)) (X1 6 9 rfl fun hG=>Rg Pg rfl (aH hG hc2)) (aF ?_ (Z0 rfl (Rf ajz rfl)) (X1 9 12 rfl fun hG=>Rg yh rfl (aH hG hc3)) ?_ (bH (bQ rfl) (bH (bQ rfl) (bH (bQ rfl) cO)))))) ?_
 ·refine dZ 1 4 rfl rfl fun _ a w G1 hG HT H fin=>?_;refine s_call agd H wn rfl (aeK _ _ H.ro s.styles _ ((hR.st.mono hma).mono hG) hz.sn) rfl ?_;clear H;rintro v5 G5 a w rfl kS H;exact fin H kS (rfl)
 ·refine dZ 4 7 rfl rfl fun _ a w G1 hG HT H fin=>?_;refine s_call agf H wn rfl (aeF _ _ H.ro s.lists _ ((hR.li.mono hma).mono hG) hz.ln hz.lt) rfl ?_;clear H;rintro v8 G8 a w rfl nL H;exact fin H nL (rfl)
 ·refine dZ 7 10 rfl rfl fun _ a w G1 hG HT H fin=>?_;refine s_call agh H wn rfl (aeD _ _ H.ro s.comments _ ((hR.cm.mono hma).mono hG) hz.cn hz.ct) rfl ?_;clear H;rintro v11 qX a w rfl kZ H;exact fin H kZ (rfl)
 ·refine dZ 10 13 rfl rfl fun _ a w G1 hG HT H fin=>?_;refine s_call agi H wn rfl (aeI _ _ H.ro s.vars _ ((hR.va.mono hma).mono hG) hz.vn hz.vt) rfl ?_;clear H;rintro v14 zP a w rfl wI H;exact fin H wI (rfl)
 clear H;intro a w G iN H hv;have H:=H.aN (hv 2 5 rfl rfl) rfl;have H:=H.aN (hv 5 8 rfl rfl) rfl;have H:=H.aN (hv 8 11 rfl rfl) rfl;have H:=H.aN (hv 11 14 rfl rfl) rfl;clear hv;refine gG ql iw [_,_,_,_] [_,_,_,_] H wn rfl rfl rfl rfl rfl (by intro i q h;match i,h with|0,h=>exact h|1,h=>exact h|2,h=>exact h|3,h=>exact h|n+4,h=>simp at h) rfl rfl ?_;clear H;intro b15 a w akF H;obtain ⟨Bg,ze,akG,H⟩:=H.eu;refine s_call qC H wn rfl (qD _ _ H.ro _ _ (EX [gJ s.styles,Jc s.lists,ME s.comments,MF s.vars] akG (show 4≤maxLen by decide))) rfl ?_;clear H;rintro v16 _ a w ⟨rfl,rfl⟩ - H;refine kH H (Ra rfl ?_);clear H;intro a H;refine aC ⟨rfl,?_⟩;refine dQ ?_;refine uy 0 H ?_;exact rfl
end
section
open Go.RowKit
def iG:Nat→List (Int × aj)→List MapEntry
 | _,[]=>[]
 | i,(k,v) :: r=>⟨.int .i64 k,v,i⟩ :: iG (i+1) r
theorem aaA (x:Int × aj):∀ (i:Nat) (l:List (Int × aj)),iG i (l++[x])=iG i l++[⟨.int .i64 x.1,x.2,i+l.length⟩]
 | _,[]=>rfl
 | i,k :: r=>by
  rw [nu,iG,aaA x (i+1) r,iG,nu,kr,show i+1+r.length=i+(r.length+1) by omega]
def tL (x:Int):List (Int × aj)→Option aj
 | []=>none
 | (k,v) :: r=>if k=x then some v else tL x r
theorem Ky {x:Int}:∀ {l:List (Int × aj)},x∉l.map (·.1)→tL x l=none
 | [],_=>rfl
 | (k,v) :: r,h=>by
  rw [tL,ah (fun e=>h (by simp [e])),Ky (fun hm=>h (gB _ hm))]
theorem Rz (x:Int):∀ (i j:Nat) (l:List (Int × aj)),∃ an,Instr.findNow (.int .i64) (.int .i64 x) (iG i l) j=some an∧an.map (·.2)=tL x l
 | _,_,[]=>⟨none,rfl,rfl⟩
 | i,j,(k,v) :: r=>by
  obtain ⟨an,h1,h2⟩:=Rz x (i+1) (j+1) r
  by_cases e:k=x
  ·subst e
   exact ⟨some (j,v),by simp only [iG,Instr.findNow,Instr.sameNow,av,beq_self_eq_true],by rw [tL,av rfl];rfl⟩
  ·have hb:(x == k)=false:=by simp;exact fun h=>e h.symm
   exact ⟨an,by simpa only [iG,Instr.findNow,Instr.sameNow,av,hb] using h1,by rw [tL,ah e];exact h2⟩
abbrev eT (l:List (Int × aj)):Obj:=.map (iG 0 l).toArray l.length
section
variable {N:Nat} {D:List Deferred} {w0:World} {F:Nat→Prop} {G0 G:GH} {L:OL} {T:List (Nat × aj)}
variable {r:Option Nat} {P:Program} {ops:Array Oper} {Q:Exit→Act→World→Prop} {rest:List Oper} {a:Act} {w:World}
variable {d:Nat} {ty:TypeId} {pos:String} {aO:Array Edge} {g:Option (Nat × Bool)}
theorem zJ {t kt et:TypeId} {x y:Operand} {b:Nat} {l:List (Int × aj)} {ky:Int} {zv:aj} (hm:P.underlying t=some (.map kt et)) (hk:P.underlying kt=some (.int .i64)) (hz:(P.info? et).map (fun i=>i.zero)=some (some zv)) (H:St N D w0 F G0 G L T a w)
  (hw:Region.wanted ⟨some d,.lookup t x y false,ty,pos,aO,g⟩ (yielded ops a.tmps)=true) (hx:ev T x=some (.map (some b))) (hy:ev T y=some (.int .i64 ky)) (hb:w.heap[b]?=some (eT l)) (hd:Nat.blt d N=true)
  (k:∀ a',St N D w0 F G0 G L ((d,(tL ky l).getD zv) :: T) a' w→WL r P ops Q rest a' w):WL r P ops Q (⟨some d,.lookup t x y false,ty,pos,aO,g⟩ :: rest) a w:=by
 obtain ⟨an,hf,han⟩:=Rz ky 0 0 l
 obtain ⟨inf,hi1,hi2⟩:=oO.1 hz
 refine fq (v:=(tL ky l).getD zv) (w':=w) hw rfl ?_ (k _ (H.put hd _ H.hp))
 have hkey:MapKept.IsKey (.int .i64) (.int .i64 ky):=by trivial
 have hf2:Instr.findNow (.int .i64) (.int .i64 ky) (iG 0 l).toArray.toList 0=some an:=by simpa using hf
 replace hb:w.heap[b]?=some (.map (iG 0 l).toArray l.length):=hb
 generalize (iG 0 l).toArray=es at hb hf2
 have h1:=MapKept.run_checkKey (P:=P) (w:=w) hk hkey es.isEmpty 9999
 have h2:=MapKept.run_findKey (P:=P) (w:=w) hk hf2
 rw [← han]
 cases an with
 | none=>simp [execOp,Instr.lookup,H.ev hx,H.ev hy,dS,mg hm,MapKept.run_getObj_map hb,h1,h2,Result.andThen,zeroValue,DF hi1,hi2]
 | some q=>simp [execOp,Instr.lookup,H.ev hx,H.ev hy,dS,mg hm,MapKept.run_getObj_map hb,h1,h2,Result.andThen]
theorem KQ {t kt et:TypeId} {x y z:Operand} {b i:Nat} {l:List (Int × aj)} {ky:Int} {v:aj} (hm:P.underlying t=some (.map kt et)) (hk:P.underlying kt=some (.int .i64)) (H:St N D w0 F G0 G L T a w)
  (hw:Region.wanted ⟨none,.mapUpdate t x y z,ty,pos,aO,g⟩ (yielded ops a.tmps)=true) (hx:ev T x=some (.map (some b))) (hy:ev T y=some (.int .i64 ky)) (hzv:ev T z=some v) (hi:L[i]?=some (b,eT l)) (hn:tL ky l=none)
  (k:∀ w',St N D w0 F G0 G (L.set i (b,eT (l++[(ky,v)]))) T a w'→WL r P ops Q rest a w'):WL r P ops Q (⟨none,.mapUpdate t x y z,ty,pos,aO,g⟩ :: rest) a w:=by
 obtain ⟨an,hf,han⟩:=Rz ky 0 0 l
 have hnone:an=none:=by
  rw [hn] at han
  cases an with
  | none=>rfl
  | some q=>cases han
 subst hnone
 refine abJ (i:=i) hm hk H hw hx hy hzv hi (by trivial) (by simpa using hf) ?_
 intro w' H'
 have e:(iG 0 l).toArray.push ⟨.int .i64 ky,v,l.length⟩=(iG 0 (l++[(ky,v)])).toArray:=by
  rw [aaA,List.push_toArray,fU]
 refine k w' ?_
 rw [e] at H'
 rw [eT,iA]
 exact H'
end
end
section
open Go.RowKit
theorem uT:prog.underlying 131=some (.map 3 4):=by kernel_rfl
instance:jZ prog 131 (.map 3 4):=⟨uT⟩
instance ou:Ty prog 102 3 32 [.int .i64 0,.string ⟨#[]⟩,.int .i64 0] true:=⟨by kernel_rfl,by kernel_rfl⟩
theorem arj:pI prog 133 [(0,1),(1,1),(2,1),(3,1),(4,1),(5,1)] [.map none,.map none,.map none,.map none,.map none,.int .i64 0]:=⟨by kernel_rfl,by kernel_rfl⟩
instance ajA:dR prog 38 3 7:=⟨by kernel_rfl⟩
instance ajp:dR prog 133 0 0:=⟨by kernel_rfl⟩
instance arA:Ty prog 130 1 8 [.map none] false:=⟨by kernel_rfl,by kernel_rfl⟩
instance ajq:dR prog 133 1 1:=⟨by kernel_rfl⟩
instance DN:Ty prog 131 1 8 [.map none] false:=⟨by kernel_rfl,by kernel_rfl⟩
instance Rt:dR prog 38 2 6:=⟨by kernel_rfl⟩
instance zK:Ty prog 30 1 24 [.slice none 0 0] false:=⟨by kernel_rfl,by kernel_rfl⟩
theorem sG:prog.underlying 30=some (.slice 102):=by kernel_rfl
instance:jZ prog 30 (.slice 102):=⟨sG⟩
instance Jq:dR prog 133 2 2:=⟨by kernel_rfl⟩
instance ajj:dR prog 102 0 0:=⟨by kernel_rfl⟩
structure bX where
 id:Int
 author:ByteArray
 time:Int
def bX.dat (x:bX):List Dat:=[li x.id,.lf (.string x.author),li x.time]
abbrev bX.cells (x:bX):List aj:=[vi x.id,.string x.author,vi x.time]
theorem KM {G:GH} {x:bX} {cs:List aj} (h:aU G x.dat cs):cs=x.cells:=by
 simp only [bX.dat,aU,au] at h
 obtain ⟨_,_,rfl,⟨rfl,_⟩,_,_,rfl,⟨rfl,_⟩,_,_,rfl,⟨rfl,_⟩,rfl⟩:=h
 rfl
theorem UU {G:GH} {l:List bX} {A:Option Addr} {n c k:Nat} (hv:au G (.sl 3 (l.map bX.dat)) (.slice A n c)) (hk:k < l.length):∃ b o,A=some ⟨b,o,none⟩∧(∀ j u,l[k].cells[j]?=some u→aI G b (o+k*3+j)=some u):=by
 obtain ⟨A',c',he,_,_,hg⟩:=hv.slice
 injection he with e1 e2 e3
 subst e1;obtain ⟨b,o,cs,h1,h2,h3,h4⟩:=hg k l[k].dat (by simp [hk]);have:=KM h4;subst this;exact ⟨b,o,h1,h3⟩
abbrev fO (b ms ml mr mb mu:Nat) (n:Int):Nat × Obj:=(b,.cells #[.map (some ms),.map (some ml),.map (some mr),.map (some mb),.map (some mu),vi n] 133 (0,0))
def zD (l:List bS):List (Int × aj):=l.map fun s=>(s.id,vi s.kind)
def fH (l:List Int):List (Int × aj):=l.map fun k=>(k,.bool true)
structure uW (us:List Int) (G:GH) (st:List bS) (li:List eD) (rv:List bX) (ms ml mr mu:Nat):Prop where
 sty:G ms=some (eT (zD st))
 uL:G ml=some (eT (fH (li.map eD.id)))
 rev:G mr=some (eT (fH (rv.map bX.id)))
 use:G mu=some (eT (fH us))
theorem uW.mono {us:List Int} {G G':GH} {st:List bS} {li:List eD} {rv:List bX} {ms ml mr mu:Nat} (h:uW us G st li rv ms ml mr mu) (hm:∀ b o,G b=some o→G' b=some o):uW us G' st li rv ms ml mr mu:=⟨hm _ _ h.sty,hm _ _ h.uL,hm _ _ h.rev,hm _ _ h.use⟩
structure PD (G:GH) (st:List bS) (li:List eD) (rv:List bX) (ms ml mr:Nat):Prop where
 sty:G ms=some (eT (zD st))
 uL:G ml=some (eT (fH (li.map eD.id)))
 rev:G mr=some (eT (fH (rv.map bX.id)))
theorem PD.with {us:List Int} {G G':GH} {st:List bS} {li:List eD} {rv:List bX} {ms ml mr mu:Nat} (h:PD G st li rv ms ml mr) (hm:∀ b o,G b=some o→G' b=some o) (hu:G' mu=some (eT (fH us))):uW us G' st li rv ms ml mr mu:=⟨hm _ _ h.sty,hm _ _ h.uL,hm _ _ h.rev,hu⟩
def Bd (l:List Int):Prop:=∀ (k:Nat) (h:k < l.length),l[k]∉l.take k
theorem anF {l:List bS} {k:Nat} (h:k < l.length):zD (l.take (k+1))=zD (l.take k)++[(l[k].id,vi l[k].kind)]:=by rw [zD,fP h,kM];rfl
theorem aax {l:List Int} {k:Nat} (h:k < l.length):fH (l.take (k+1))=fH (l.take k)++[(l[k],.bool true)]:=by rw [fH,fP h,kM];rfl
theorem anE {l:List bS} {k:Nat} (f:Bd (l.map bS.id)) (h:k < l.length):tL l[k].id (zD (l.take k))=none:=by
 refine Ky ?_;have:=f k (by simpa using h)
 simpa [zD,List.map_take,List.map_map,Function.comp_def] using this
theorem aaw {l:List Int} {k:Nat} (f:Bd l) (h:k < l.length):tL l[k] (fH (l.take k))=none:=by
 refine Ky ?_;have:=f k h
 simpa [fH,List.map_map,Function.comp_def] using this
theorem anZ (G:GH) (w0:World) (hO:fT G [] w0) (D:iE) (st:List bS) (li:List eD) (rv:List bX) (hst:au G (.sl 6 (st.map bS.dat)) (aM D.s1)) (JU:au G (.sl 2 (li.map eD.dat)) (aM D.s2)) (og:au G (.sl 3 (rv.map bX.dat)) (aM D.r))
  (f1:Bd (st.map bS.id)) (f2:Bd (li.map eD.id)) (f3:Bd (rv.map bX.id)) (z1:st.length≤4294967296) (z2:li.length≤4294967296) (z3:rv.length≤4294967296) :
  Calls prog 69 #[D.val] w0 (fI w0 G [] fun u G' L'=>∃ b ms ml mr mb mu,u=(aG b 0)∧L'=[fO b ms ml mr mb mu 0,(mb,eT []),(mu,eT [])]∧PD G' st li rv ms ml mr):=by
 obtain ⟨df,dp,dd,dy,⟨rA,rn,rc⟩,⟨sA,sn,sc⟩,⟨lA,ln,lc⟩,d3,d4,ins,mv⟩:=D;dsimp only at hst JU og
 obtain rfl:sn=st.length:=by have:=hst.len;simpa using this
 obtain rfl:ln=li.length:=by have:=JU.len;simpa using this
 obtain rfl:rn=rv.length:=by have:=og.len;simpa using this
 have hml:maxLen=9223372036854775807:=rfl;refine jf (N:=64) (T:=[(0,_)]) func69 rfl ntmps69 rfl rfl hO ?_;refine ak 1 ?_;intro a H;refine dP (cs:=[_,_,_,_,_,_,_,_,_,_,_]) H wn rfl rfl rfl ?_;clear H;intro b1 a w hb1 H;refine aD 2 H ?_;clear H;intro a H;obtain ⟨Ga,hma,hb1',H⟩:=H.eu
 have hc7:aI Ga b1 7=some (.slice sA st.length sc):=by unfold aI;rw [hb1'];rfl
 have hc8:aI Ga b1 8=some (.slice lA li.length lc):=by unfold aI;rw [hb1'];rfl
 have hc6:aI Ga b1 6=some (.slice rA rv.length rc):=by unfold aI;rw [hb1'];rfl
 replace hst:=hst.mono hma;replace JU:=JU.mono hma;replace og:=og.mono hma;refine yP ?_;refine Fw H wn rfl ?_;clear H;intro b10 a w asR H;refine Fw H wn rfl ?_;clear H;intro b11 a w Ez H;refine Fw H wn rfl ?_;clear H;intro b12 a w EA H;refine Fw H wn rfl ?_;clear H;intro b13 a w JN H;refine Fw H wn rfl ?_;clear H;intro b14 a w YU H;refine jh arj [_,_,_,_,_,_] H wn rfl rfl rfl rfl ?_;clear H;intro a H;refine dP (cs:=[_,_,_,_,_,_]) H wn rfl rfl rfl ?_;clear H;intro b16 a w YV H;refine aD 11 H ?_;clear H;intro a H;refine eH (ι:=Nat × GH) (Tc:=[(1,_),(3,_),(19,_),(20,_)]) (Lc:=[(_,_),(_,_),(_,_),(_,_),(_,_)]) (fun gh=>[(21,vi gh.1)]) (fun gh=>[(b10,eT (zD (st.take gh.1)))]) (fun gh=>gh.2) (fun gh=>gh.1≤st.length∧(∀ b o,Ga b=some o→gh.2 b=some o)) (fun gh=>st.length - gh.1) ((0,Ga)) sB ?_ ?_
 ·exact ⟨gN _,fun _ _ h=>h⟩
 clear H;rintro ⟨k,g1⟩ a w hI H;dsimp only at hI H;obtain ⟨hk,H7⟩:=hI;dsimp only [lca,bG] at H;refine dO 4 H ?_ ?_ <;> clear H
 ·intro iW
  have hk2:k < st.length:=by omega
  obtain ⟨xb,xo,pA,pc,rfl,hrow,-,-⟩:=Co (hst.mono H7) hk2;have hnew:=anE f1 hk2;refine ak 5 ?_;intro a H;refine aR jD (cs:=_) H wn rfl rfl (fun j v hj=>H.hp.aI (hrow j v hj)) rfl ?_;clear H;intro a H;refine dz jD H wn rfl ?_;clear H;intro b5 a w hb5 H;refine aX jD 0 (vs:=[_,_,_,_,_,_]) _ H wn rfl rfl rfl rfl rfl rfl rfl rfl ?_;clear H;intro w H;dsimp only [List.set,setRow] at H;refine aC ?_;refine dQ ?_;refine dI hmx [[],[0],[0,1],[0,1,2],[],[4],[],[6],(ra 0 8)] [8] (by kernel_rfl) [_,_,_,.map (some b10),_,vi st[k].id,_,vi st[k].kind] H (aF (Z0 rfl (Rm rfl)) (Z1 0 25 rfl (Rk rfl)) (Z1 1 26 rfl (Rf ajp rfl)) (Z1 2 27 rfl (Ro arA 1 rfl)) (aF (Z0 rfl (Rf Ad rfl)) (Z1 4 29 rfl (Ro bR 0 rfl)) (Z0 rfl (Rf Q9 rfl)) (Z1 6 31 rfl (Ro bR 0 rfl)) (bH (bQ rfl) cO))) ?_
  clear H;intro a w G kS H hv;have H:=H.aN (hv 3 28 rfl rfl) rfl;have H:=H.aN (hv 5 30 rfl rfl) rfl;have H:=H.aN (hv 7 32 rfl rfl) rfl;clear hv;refine KQ (i:=6) DR kE H wn rfl rfl rfl rfl hnew ?_;clear H;intro w H;dsimp only [List.set,List.append,lca,bG] at H;rw [← anF hk2] at H;refine aC ⟨rfl,?_⟩;refine dQ ?_;refine fM 3 H ?_;clear H;intro a H;refine aC ?_;refine cB ((k+1,G)) (by exact (H.dY (Pl:=[_,_,_,_,_,_,_]) (dJ:=[_,_,_,_,_,_]) [1,2,3,4,5,6] (by decide) rfl).sub ⟨rfl,rfl,rfl,rfl,rfl,bq⟩) ?_ ?_
  ·(try dsimp only);exact ⟨by omega,fun b o h=>kS b o (H7 b o h)⟩
  first|omega|(dsimp only;omega)
 intro iW
 obtain rfl:k=st.length:=by omega
 intro a H;rw [uZ] at H;have atm:=aH H7 hc8;refine fM 10 H ?_;clear H;intro a H;refine eH (ι:=Nat × GH) (Tc:=[(1,_),(3,_),(36,_),(37,_)]) (Lc:=[(_,_),(_,_),(_,_),(_,_),(_,_)]) (fun gh=>[(38,vi gh.1)]) (fun gh=>[(b11,eT (fH ((li.map eD.id).take gh.1)))]) (fun gh=>gh.2) (fun gh=>gh.1≤li.length∧(∀ b o,g1 b=some o→gh.2 b=some o)) (fun gh=>li.length - gh.1) ((0,g1)) (by exact (H.dY (Pl:=[_,_,_,_,_,_]) (dJ:=[_,_,_,_,_,_]) [0,1,2,3,5,4] (by decide) rfl).sub ⟨rfl,rfl,rfl,rfl,rfl,bq⟩) ?_ ?_
 ·exact ⟨gN _,fun _ _ h=>h⟩
 clear H;rintro ⟨k,g2⟩ a w hI H;dsimp only at hI H;obtain ⟨hk,NI⟩:=hI;dsimp only [lca,bG] at H;refine dO 4 H ?_ ?_ <;> clear H
 ·intro p39
  have hk2:k < li.length:=by omega
  obtain ⟨xb,xo,B,d,rfl,hrow,-⟩:=Uc ((JU.mono H7).mono NI) hk2
  have hk3:k < (li.map eD.id).length:=by simpa using hk2
  have hnew:=aaw f2 hk3
  have lg:(li.map eD.id)[k]=li[k].id:=by simp
  rw [lg] at hnew;refine ak 5 ?_;intro a H;refine aR sF (cs:=_) H wn rfl rfl (fun j v hj=>H.hp.aI (hrow j v hj)) rfl ?_;clear H;intro a H;refine dz sF H wn rfl ?_;clear H;intro b7 a w vG H;refine aX sF 0 (vs:=[_,_]) _ H wn rfl rfl rfl rfl rfl rfl rfl rfl ?_;clear H;intro w H;dsimp only [List.set,setRow] at H;refine aC ?_;refine dQ ?_;refine dI hmx [[],[0],[0,1],[0,1,2],[],[4],(ra 0 6)] [6] (by kernel_rfl) [_,_,_,.map (some b11),_,vi li[k].id] H (aF (Z0 rfl (Rm rfl)) (Z1 0 42 rfl (Rk rfl)) (Z1 1 43 rfl (Rf ajq rfl)) (Z1 2 44 rfl (Ro DN 1 rfl)) (bH (Z0 rfl (Rf ajB rfl)) (bH (Z1 4 46 rfl (Ro bR 0 rfl)) (bH (bQ rfl) cO)))) ?_
  clear H;intro a w G pW H hv;have H:=H.aN (hv 3 45 rfl rfl) rfl;have H:=H.aN (hv 5 47 rfl rfl) rfl;clear hv;refine KQ (i:=6) uT kE H wn rfl rfl rfl rfl hnew ?_;clear H;intro w H;dsimp only [List.set,List.append,lca,bG] at H;rw [← lg,← aax hk3] at H;refine aC ⟨rfl,?_⟩;refine dQ ?_;refine fM 3 H ?_;clear H;intro a H;refine aC ?_;refine cB ((k+1,G)) (by exact (H.dY (Pl:=[_,_,_,_,_,_,_]) (dJ:=[_,_,_,_,_,_]) [1,2,3,4,5,6] (by decide) rfl).sub ⟨rfl,rfl,rfl,rfl,rfl,bq⟩) ?_ ?_
  ·(try dsimp only);exact ⟨by omega,fun b o h=>pW b o (NI b o h)⟩
  first|omega|(dsimp only;omega)
 intro p39
 obtain rfl:k=li.length:=by omega
 intro a H;rw [fJ (by simp)] at H;have atl:=aH NI (aH H7 hc6);refine fM 9 H ?_;clear H;intro a H;refine eH (ι:=Nat × GH) (Tc:=[(3,_),(50,_),(51,_)]) (Lc:=[(_,_),(_,_),(_,_),(_,_),(_,_)]) (fun gh=>[(52,vi gh.1)]) (fun gh=>[(b12,eT (fH ((rv.map bX.id).take gh.1)))]) (fun gh=>gh.2) (fun gh=>gh.1≤rv.length∧(∀ b o,g2 b=some o→gh.2 b=some o)) (fun gh=>rv.length - gh.1) ((0,g2)) (by exact (H.dY (Pl:=[_,_,_,_,_,_]) (dJ:=[_,_,_,_,_,_]) [0,1,2,4,5,3] (by decide) rfl).sub ⟨rfl,rfl,rfl,rfl,bq⟩) ?_ ?_
 ·exact ⟨gN _,fun _ _ h=>h⟩
 clear H;rintro ⟨k,g3⟩ a w hI H;dsimp only at hI H;obtain ⟨hk,Zr⟩:=hI;dsimp only [lca,bG] at H;refine dO 4 H ?_ ?_ <;> clear H
 ·intro p53
  have hk2:k < rv.length:=by omega
  obtain ⟨xb,xo,rfl,hrow⟩:=UU (((og.mono H7).mono NI).mono Zr) hk2
  have hk3:k < (rv.map bX.id).length:=by simpa using hk2
  have hnew:=aaw f3 hk3
  have lg:(rv.map bX.id)[k]=rv[k].id:=by simp
  rw [lg] at hnew;refine ak 5 ?_;intro a H;refine aR ou (cs:=_) H wn rfl rfl (fun j v hj=>H.hp.aI (hrow j v hj)) rfl ?_;clear H;intro a H;refine dz ou H wn rfl ?_;clear H;intro b9 a w tC H;refine aX ou 0 (vs:=[_,_,_]) _ H wn rfl rfl rfl rfl rfl rfl rfl rfl ?_;clear H;intro w H;dsimp only [List.set,setRow] at H;refine aC ?_;refine dQ ?_;refine dI hmx [[],[0],[0,1],[0,1,2],[],[4],(ra 0 6)] [6] (by kernel_rfl) [_,_,_,.map (some b12),_,vi rv[k].id] H (aF (Z0 rfl (Rm rfl)) (Z1 0 56 rfl (Rk rfl)) (Z1 1 57 rfl (Rf Jq rfl)) (Z1 2 58 rfl (Ro DN 1 rfl)) (bH (Z0 rfl (Rf ajj rfl)) (bH (Z1 4 60 rfl (Ro bR 0 rfl)) (bH (bQ rfl) cO)))) ?_
  clear H;intro a w G Bz H hv;have H:=H.aN (hv 3 59 rfl rfl) rfl;have H:=H.aN (hv 5 61 rfl rfl) rfl;clear hv;refine KQ (i:=6) uT kE H wn rfl rfl rfl rfl hnew ?_;clear H;intro w H;dsimp only [List.set,List.append,lca,bG] at H;rw [← lg,← aax hk3] at H;refine aC ⟨rfl,?_⟩;refine dQ ?_;refine fM 3 H ?_;clear H;intro a H;refine aC ?_;refine cB ((k+1,G)) (by exact (H.dY (Pl:=[_,_,_,_,_,_,_]) (dJ:=[_,_,_,_,_,_]) [1,2,3,4,5,6] (by decide) rfl).sub ⟨rfl,rfl,rfl,rfl,bq⟩) ?_ ?_
  ·(try dsimp only);exact ⟨by omega,fun b o h=>Bz b o (Zr b o h)⟩
  first|omega|(dsimp only;omega)
 intro p53
 obtain rfl:k=rv.length:=by omega
 intro a H;rw [fJ (by simp)] at H;refine fM 5 H ?_;clear H;intro a H;refine cu ?_;have H:=H.dY (Pl:=[_,_,_,_,_,_]) (dJ:=[_,_,_,_,_,_]) [3,4,5,0,2,1] (by decide) rfl;obtain ⟨Gs,hms,hs,H⟩:=H.eu;obtain ⟨Gl,EL,hl,H⟩:=H.eu;obtain ⟨Gr,hmr,hr,H⟩:=H.eu;refine lv H results69 rfl ?_;exact H.hp.dG ⟨b16,b10,b11,b12,b13,b14,rfl,rfl,⟨hmr _ _ (EL _ _ hs),hmr _ _ hl,hr⟩⟩
end
section
open Go.RowKit
instance:dR prog 133 4 4:=⟨by kernel_rfl⟩
instance:dR prog 133 3 3:=⟨by kernel_rfl⟩
variable {us:List Int}
theorem Dr (x:Int):∀ l:List Int,(tL x (fH l)).getD (.bool false)=.bool (decide (x∈l))
 | []=>rfl
 | k :: r=>by
  have ih:=Dr x r;rw [fH,eZ,tL]
  by_cases e:k=x
  ·subst e;simp
  rw [ah e,show (r.map fun k=>(k,Value.bool true))=fH r from rfl,ih]
  simp [show x≠k from fun h=>e h.symm]
def O1 (st:List bS) (v:Int):Int:=((st.find? fun s=>decide (s.id=v)).map bS.kind).getD 0
theorem KA (x:Int):∀ l:List bS,(tL x (zD l)).getD (vi 0)=vi (O1 l x)
 | []=>rfl
 | s :: r=>by
  have ih:=KA x r;rw [zD,eZ,tL]
  by_cases e:s.id=x
  ·subst e;simp [O1]
  rw [ah e,show (r.map fun s=>(s.id,vi s.kind))=zD r from rfl,ih]
  simp [O1,e]
def pz (us bK:List Int) (x:Int):Int:=if ¬ (1≤x∧x≤1073741824)∨x∈us then 18 else if x∈bK then 7 else 0
def jV (us bK:List Int) (x:Int):List Int:=if pz us bK x=0 then bK++[x] else bK
theorem anD (l:List Int) (x:Int):fH (l++[x])=fH l++[(x,.bool true)]:=by simp [fH]
theorem Qp (G:GH) (L:OL) (w0:World) (st:List bS) (li:List eD) (rv:List bX) (b ms ml mr mb mu:Nat) (n:Int) (bK:List Int) (x:Int) (hck:uW us G st li rv ms ml mr mu) (hO:fT G (fO b ms ml mr mb mu n :: (mb,eT (fH bK)) :: L) w0) :
  Calls prog 198 #[(aG b 0),vi x] w0 (fI w0 G (fO b ms ml mr mb mu n :: (mb,eT (fH bK)) :: L) fun u G' L'=>u=vi (pz us bK x)∧L'=fO b ms ml mr mb mu n :: (mb,eT (fH (jV us bK x))) :: L∧G=G'):=by
 refine jf (N:=29) (T:=[(0,_),(1,_)]) func198 rfl ntmps198 rfl rfl hO ?_;refine ak 7 ?_;intro a H;refine s_call wE H wn rfl (wO _ _ H.ro x 1 1073741824) rfl ?_;clear H;rintro v7 _ a w ⟨rfl,rfl⟩ - H;refine kJ 2 9 H ?_ ?_ <;> clear H
 ·intro h9
  try have p9:=dT h9
  refine ak 10 ?_
  have e:pz us bK x=18:=by rw [pz,av (by first|(simp_all;done)|(simp_all;omega))]
  refine ak 3 ?_;intro a H;refine lr H results198 rfl ?_
  first
   | exact H.hp.dG ⟨by rw [e],by rw [jV,av e],rfl⟩
   | exact H.hp.dG ⟨by rw [e],by rw [jV,ah (by rw [e];decide)],rfl⟩
 intro h9
 try have p9:=dF h9
 refine ak 1 ?_;intro a H;refine tT H (wg H rfl rfl h9) rfl rfl ?_;clear H;refine ak 3 ?_;intro a H;refine zJ (zv:=.bool false) uT kE (by kernel_rfl) H (wg H rfl rfl h9) rfl rfl (H.ro _ _ hck.use) rfl ?_;clear H;intro a H;rw [Dr] at H;refine gF 3 H ?_ ?_ <;> clear H
 ·intro p5
  have e:pz us bK x=18:=by rw [pz,av (by first|(simp_all;done)|(simp_all;omega))]
  refine ak 3 ?_;intro a H;refine lr H results198 rfl ?_
  first
   | exact H.hp.dG ⟨by rw [e],by rw [jV,av e],rfl⟩
   | exact H.hp.dG ⟨by rw [e],by rw [jV,ah (by rw [e];decide)],rfl⟩
 intro p5
 have hin:¬ (¬ (1≤x∧x≤1073741824)∨x∈us):=by first|(simp_all;done)|(simp_all;omega)
 refine ak 6 ?_;intro a H;refine zJ (zv:=.bool false) uT kE (by kernel_rfl) H wn rfl rfl (H.hp.own _ (gB _ fK)) rfl ?_;clear H;intro a H;rw [Dr] at H;refine iR 2 H ?_ ?_ <;> clear H
 ·intro jr
  have e:pz us bK x=7:=by rw [pz,ah hin,av (mE jr)]
  refine ak 3 ?_;intro a H;refine lr H results198 rfl ?_
  first
   | exact H.hp.dG ⟨by rw [e],by rw [jV,av e],rfl⟩
   | exact H.hp.dG ⟨by rw [e],by rw [jV,ah (by rw [e];decide)],rfl⟩
 intro jr
 have hx:x∉bK:=of_decide_eq_false jr;have hnew:tL x (fH bK)=none:=Ky (by simpa [fH,List.map_map,Function.comp_def] using hx)
 have e:pz us bK x=0:=by rw [pz,ah hin,ah hx]
 refine ak 7 ?_;intro a H;refine KQ (i:=1) uT kE H wn rfl rfl rfl rfl hnew ?_;clear H;intro w H;dsimp only [List.set] at H;rw [← anD] at H;refine aD 4 H ?_;clear H;intro a H;refine lr H results198 rfl ?_
 first
  | exact H.hp.dG ⟨by rw [e],by rw [jV,av e],rfl⟩
  | exact H.hp.dG ⟨by rw [e],by rw [jV,ah (by rw [e];decide)],rfl⟩
def nP (st:List bS) (uL:List Int) (key v:Int):Int :=
 if key=20∨key=1 then dx (decide (v≠0∧O1 st v≠(if key=1 then 2 else 1))) 25 else if key=33 then dx (decide (v≠0∧v∉uL)) 26 else 0
theorem Qq (G:GH) (w0:World) (hG:Hold G w0) (st:List bS) (li:List eD) (rv:List bX) (b ms ml mr mb mu:Nat) (n:Int) (key v:Int) (hck:uW us G st li rv ms ml mr mu) (hb:G b=some (fO b ms ml mr mb mu n).2) :
  Calls prog 130 #[(aG b 0),vi key,vi v] w0 (bC w0 G fun u G'=>u=vi (nP st (li.map eD.id) key v)∧G=G'):=by
 have hc0:aI G b 0=some (.map (some ms)):=by unfold aI;rw [hb];rfl
 have hc1:aI G b 1=some (.map (some ml)):=by unfold aI;rw [hb];rfl
 refine eN [(0,_),(1,_),(2,_)] func130 rfl ntmps130 rfl rfl hG ?_;refine goC 13 ?_ ?_
 ·intro h9
  try have p9:=dT h9
  refine goB 10 ?_ ?_
  ·intro oJ
   refine jM 7 16 ?_ ?_
   ·intro h16
    try have p16:=dT h16
    refine ak 1 ?_;intro a H;refine tT H (wg H rfl rfl h16) rfl rfl ?_;clear H;refine ak 3 ?_;intro a H;refine zJ (zv:=vi 0) DR kE (by kernel_rfl) H (wg H rfl rfl h16) rfl rfl (H.ro _ _ hck.sty) rfl ?_;clear H;intro a H;rw [KA] at H;refine aD 3 H ?_;clear H;intro a H;refine s_call jA H wn rfl (jF _ _ H.ro _ 25) rfl ?_;clear H;rintro v26 _ a w ⟨rfl,rfl⟩ - H;refine fu 2 H ?_;exact ⟨aB vi (by unfold nP;(repeat' split) <;> first|rfl|(simp_all;done)|(exfalso;simp_all;done)|(congr 1;rw [mF];simp only [uh,mM,lS];exact ⟨fun h=>⟨p31,h⟩,fun h=>h.2⟩)),rfl⟩
   intro h16
   try have p16:=dF h16
   refine ak 9 ?_;intro a H;refine s_call jA H wn rfl (jF _ _ H.ro _ 25) rfl ?_;clear H;rintro v26 _ a w ⟨rfl,rfl⟩ - H;refine fu 2 H ?_;exact ⟨aB vi (by unfold nP;(repeat' split) <;> first|rfl|(simp_all;done)|(exfalso;simp_all;done)|(congr 1;rw [mF];simp only [uh,mM,lS];exact ⟨fun h=>⟨p31,h⟩,fun h=>h.2⟩)),rfl⟩
  intro oJ
  refine jM 5 16 ?_ ?_
  ·intro h16
   try have p16:=dT h16
   refine ak 1 ?_;intro a H;refine tT H (wg H rfl rfl h16) rfl rfl ?_;clear H;refine ak 3 ?_;intro a H;refine zJ (zv:=vi 0) DR kE (by kernel_rfl) H (wg H rfl rfl h16) rfl rfl (H.ro _ _ hck.sty) rfl ?_;clear H;intro a H;rw [KA] at H;refine aD 3 H ?_;clear H;intro a H;refine s_call jA H wn rfl (jF _ _ H.ro _ 25) rfl ?_;clear H;rintro v26 _ a w ⟨rfl,rfl⟩ - H;refine fu 2 H ?_;exact ⟨aB vi (by unfold nP;(repeat' split) <;> first|rfl|(simp_all;done)|(exfalso;simp_all;done)|(congr 1;rw [mF];simp only [uh,mM,lS];exact ⟨fun h=>⟨p31,h⟩,fun h=>h.2⟩)),rfl⟩
  intro h16
  try have p16:=dF h16
  refine ak 9 ?_;intro a H;refine s_call jA H wn rfl (jF _ _ H.ro _ 25) rfl ?_;clear H;rintro v26 _ a w ⟨rfl,rfl⟩ - H;refine fu 2 H ?_;exact ⟨aB vi (by unfold nP;(repeat' split) <;> first|rfl|(simp_all;done)|(exfalso;simp_all;done)|(congr 1;rw [mF];simp only [uh,mM,lS];exact ⟨fun h=>⟨p31,h⟩,fun h=>h.2⟩)),rfl⟩
 intro h9
 try have p9:=dF h9
 refine goB 4 ?_ ?_
 ·intro p9
  refine goB 8 ?_ ?_
  ·intro oJ
   refine jM 7 16 ?_ ?_
   ·intro h16
    try have p16:=dT h16
    refine ak 1 ?_;intro a H;refine tT H (wg H rfl rfl h16) rfl rfl ?_;clear H;refine ak 3 ?_;intro a H;refine zJ (zv:=vi 0) DR kE (by kernel_rfl) H (wg H rfl rfl h16) rfl rfl (H.ro _ _ hck.sty) rfl ?_;clear H;intro a H;rw [KA] at H;refine aD 3 H ?_;clear H;intro a H;refine s_call jA H wn rfl (jF _ _ H.ro _ 25) rfl ?_;clear H;rintro v26 _ a w ⟨rfl,rfl⟩ - H;refine fu 2 H ?_;exact ⟨aB vi (by unfold nP;(repeat' split) <;> first|rfl|(simp_all;done)|(exfalso;simp_all;done)|(congr 1;rw [mF];simp only [uh,mM,lS];exact ⟨fun h=>⟨p31,h⟩,fun h=>h.2⟩)),rfl⟩
   intro h16
   try have p16:=dF h16
   refine ak 9 ?_;intro a H;refine s_call jA H wn rfl (jF _ _ H.ro _ 25) rfl ?_;clear H;rintro v26 _ a w ⟨rfl,rfl⟩ - H;refine fu 2 H ?_;exact ⟨aB vi (by unfold nP;(repeat' split) <;> first|rfl|(simp_all;done)|(exfalso;simp_all;done)|(congr 1;rw [mF];simp only [uh,mM,lS];exact ⟨fun h=>⟨p31,h⟩,fun h=>h.2⟩)),rfl⟩
  intro oJ
  refine jM 5 16 ?_ ?_
  ·intro h16
   try have p16:=dT h16
   refine ak 1 ?_;intro a H;refine tT H (wg H rfl rfl h16) rfl rfl ?_;clear H;refine ak 3 ?_;intro a H;refine zJ (zv:=vi 0) DR kE (by kernel_rfl) H (wg H rfl rfl h16) rfl rfl (H.ro _ _ hck.sty) rfl ?_;clear H;intro a H;rw [KA] at H;refine aD 3 H ?_;clear H;intro a H;refine s_call jA H wn rfl (jF _ _ H.ro _ 25) rfl ?_;clear H;rintro v26 _ a w ⟨rfl,rfl⟩ - H;refine fu 2 H ?_;exact ⟨aB vi (by unfold nP;(repeat' split) <;> first|rfl|(simp_all;done)|(exfalso;simp_all;done)|(congr 1;rw [mF];simp only [uh,mM,lS];exact ⟨fun h=>⟨p31,h⟩,fun h=>h.2⟩)),rfl⟩
  intro h16
  try have p16:=dF h16
  refine ak 9 ?_;intro a H;refine s_call jA H wn rfl (jF _ _ H.ro _ 25) rfl ?_;clear H;rintro v26 _ a w ⟨rfl,rfl⟩ - H;refine fu 2 H ?_;exact ⟨aB vi (by unfold nP;(repeat' split) <;> first|rfl|(simp_all;done)|(exfalso;simp_all;done)|(congr 1;rw [mF];simp only [uh,mM,lS];exact ⟨fun h=>⟨p31,h⟩,fun h=>h.2⟩)),rfl⟩
 intro p9
 refine goB 4 ?_ ?_
 ·intro p27
  refine jM 4 31 ?_ ?_
  ·intro h31
   try have p31:=dT h31
   refine ak 1 ?_;intro a H;refine tT H (wg H rfl rfl h31) rfl rfl ?_;clear H;refine ak 3 ?_;intro a H;refine zJ (zv:=.bool false) uT kE (by kernel_rfl) H (wg H rfl rfl h31) rfl rfl (H.ro _ _ hck.uL) rfl ?_;clear H;intro a H;rw [Dr] at H;refine aD 2 H ?_;clear H;intro a H;refine s_call jA H wn rfl (jF _ _ H.ro _ 26) rfl ?_;clear H;rintro v40 _ a w ⟨rfl,rfl⟩ - H;refine fu 2 H ?_;exact ⟨aB vi (by unfold nP;(repeat' split) <;> first|rfl|(simp_all;done)|(exfalso;simp_all;done)|(congr 1;rw [mF];simp only [uh,mM,lS];exact ⟨fun h=>⟨p31,h⟩,fun h=>h.2⟩)),rfl⟩
  intro h31
  try have p31:=dF h31
  refine ak 8 ?_;intro a H;refine s_call jA H wn rfl (jF _ _ H.ro _ 26) rfl ?_;clear H;rintro v40 _ a w ⟨rfl,rfl⟩ - H;refine fu 2 H ?_;exact ⟨aB vi (by unfold nP;(repeat' split) <;> first|rfl|(simp_all;done)|(exfalso;simp_all;done)|(congr 1;rw [mF];simp only [uh,mM,lS];exact ⟨fun h=>⟨p31,h⟩,fun h=>h.2⟩)),rfl⟩
 intro p27
 refine aP 4 ?_;exact ⟨aB vi (by unfold nP;(repeat' split) <;> first|rfl|(simp_all;done)|(exfalso;simp_all;done)|(congr 1;rw [mF];simp only [uh,mM,lS];exact ⟨fun h=>⟨p31,h⟩,fun h=>h.2⟩)),rfl⟩
end
section
open Go.RowKit
section
variable {N:Nat} {D:List Deferred} {w0:World} {F:Nat→Prop} {G0 G G':GH} {L L':OL} {T:List (Nat × aj)}
variable {r:Option Nat} {P:Program} {ops:Array Oper} {Q:Exit→Act→World→Prop} {rest:List Oper} {a:Act} {w w':World}
theorem Cx {ι:Type} {Tc:List (Nat × aj)} {l:List Oper} (k:Nat) (Tv:ι→List (Nat × aj)) (Pr:ι→Prop) (_:St N D w0 F G0 G L Tc a w)
  (h1:(∀ i a w,Pr i→St N D w0 F G0 G L (Tv i++Tc) a w→WL r P ops Q (l.drop k) a w)→WL r P ops Q l a w)
  (h2:∀ i a w,Pr i→St N D w0 F G0 G L (Tv i++Tc) a w→WL r P ops Q (l.drop k) a w):WL r P ops Q l a w:=h1 h2
theorem Change.back (h:Change w w' G G' L L'):Change w w' G G L L' :=
 ⟨h.os,h.tape,h.output,h.size,h.fr,fun _ _ h=>h,fun _ _ h=>.inl h,⟨fun k o hk=>h.owns.ro k o (h.gm k o hk),h.owns.own,fun p hp=>(by
  have hs:=h.owns.sep p hp
  cases hg:G p.1 with
  | none=>rfl
  | some o=>have:=h.gm _ _ hg;rw [hs] at this;cases this),h.owns.nd⟩,h.lx⟩
theorem fI.back {R:aj→GH→OL→Prop} {R':aj→OL→Prop} (hR:∀ v G' L',R v G' L'→R' v L') {e:Ending} (h:fI w G L R e w'):fI w G L (fun v G' L'=>G=G'∧R' v L') e w':=by
 obtain ⟨v,G',L',rfl,hc,hr⟩:=h
 exact ⟨v,G,L',rfl,hc.back,rfl,hR _ _ _ hr⟩
theorem Calls.adN {f:FuncId} {args:Array aj} {R:aj→GH→OL→Prop} {R':aj→OL→Prop} (h:Calls P f args w (fI w G L R)) (hR:∀ v G' L',R v G' L'→R' v L'):Calls P f args w (fI w G L fun v G' L'=>G=G'∧R' v L') :=
 h.mono fun _ _=>fI.back hR
theorem bC.back {R:aj→GH→Prop} {e:Ending} (h:bC w G R e w'):bC w G (fun v G'=>(∃ g,R v g)∧G=G') e w':=by
 obtain ⟨v,G',rfl,hb,hX,hr⟩:=h
 exact ⟨v,G,rfl,hb,⟨fun _ _ h=>h,fun _ _ h=>.inl h,fun k o hk=>hX.2.2 k o (hX.1 k o hk)⟩,⟨G',hr⟩,rfl⟩
theorem WC {f:FuncId} {args:Array aj} {R:aj→GH→Prop} (h:Calls P f args w (bC w G R)):Calls P f args w (bC w G fun v G'=>(∃ g,R v g)∧G=G'):=h.mono fun _ _=>bC.back
theorem fT.add {b:Nat} {o:Obj} (h:fT G ((b,o) :: L) w):Hold (G.add b o) w:=fun k o' hk=>by
 unfold GH.add at hk
 split at hk
 ·next e=>cases hk;subst e;exact h.own _ fK
 ·exact h.ro k o' hk
theorem apq {b:Nat} {o:Obj} {R:aj→GH→Prop} {R':aj→Prop} (hO:fT G ((b,o) :: L) w) (hR:∀ v G',R v G'→R' v) {e:Ending} (h:bC w (G.add b o) R e w'):fI w G ((b,o) :: L) (fun v G' L'=>G=G'∧L'=(b,o) :: L∧R' v) e w':=by
 obtain ⟨v,G',rfl,hb,hX,hr⟩:=h
 exact ⟨v,G,_,rfl,(hO.hp.below hb).ach,rfl,rfl,hR _ _ hr⟩
end
end
end Go.Proofs.YtdiflmikikiedaaGreat
