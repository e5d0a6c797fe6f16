/-
  What the claim stands on, part 3: Dl Lfl Dv Lpc Scn By Lps Lcl Dst Sty Stz Dsc Mi Ro Ri Chn Chk Dsv Mq Nck Cid Mt.
-/
import Derived.Test.YtdiflmikikiedaaGreatWbb
import Derived.Lib.ConvBytes
namespace Go.Proofs.YtdiflmikikiedaaGreat
set_option linter.all false
open Go.Proofs.Tryz
set_option maxRecDepth 20000
set_option maxHeartbeats 4000000
section
open Go.RowKit
section
variable {N:Nat} {D:List Deferred} {w0:World} {F:Nat→Prop} {G0 G G1 G2:GH} {L L1 L2:OL} {T Xs:List (Nat × aj)}
variable {r:Option Nat} {P:Program} {Q:Exit→Act→World→Prop} {l:List Oper} {a a':Act} {w w':World}
theorem Bz {pr:Nat→aj→GH→Prop} {S:Nat→Bool} {i d:Nat} {v:aj} (hok:nZ l T i=true) (jO:∀ i v (G G':GH),(∀ k o,G k=some o→G' k=some o)→pr i v G→pr i v G') (hi:dX l i=some d)
  (HT:St N D w0 F G0 G1 L T a w) (Hb:St N D w0 F G0 G1 L (Xs++full N a) a w) (hG:∀ k o,G k=some o→G1 k=some o) (hv:∀ j d,j≠i→S j=true→dX l j=some d→∃ v,a.tmps[d]?=some v∧pr j v G1)
  (hG2:∀ k o,G1 k=some o→G2 k=some o) (hp:pr i v G2) (H:St N D w0 F G0 G2 L1 ((d,v) :: (Xs++full N a)) a' w'):DX N D w0 F G0 G L1 T l pr (dh S i) a' w':=by
 have hok1:=hok
 rw [nZ,hi] at hok1
 simp only [mq,Option.isNone_iff_eq_none,jS,sQ] at hok1
 have hsame:∀ t,t≠d→a'.tmps[t]?=a.tmps[t]?:=by
  intro t ht
  by_cases hlt:t < N
  ·have h1:∃ u,lk (Xs++full N a) t=some u:=by
    rw [Om]
    cases lk Xs t with
    | some u=>exact ⟨u,rfl⟩
    | none=>exact ⟨_,Oo a hlt⟩
   obtain ⟨u,hu⟩:=h1
   rw [Hb.get t u hu,H.get t u (by rw [uU (Ne.symm ht)];exact hu)]
  ·rw [Array.getElem?_eq_none (by rw [H.mO];omega),Array.getElem?_eq_none (by rw [Hb.mO];omega)]
 refine ⟨G2,fun k o hk=>hG2 k o (hG k o hk),⟨H.mO,fun t u ht=>?_,H.rJ,H.hp⟩,fun j e hj he=>?_⟩
 ·rw [hsame t (fun e=>by rw [e,hok1.1] at ht;cases ht)]
  exact HT.get t u ht
 ·by_cases hji:j=i
  ·subst hji
   rw [hi] at he
   simp only [nL] at he
   subst he
   exact ⟨v,H.get d v (wz _ _ _),hp⟩
  ·have hSj:S j=true:=by unfold dh at hj;rwa [ah hji] at hj
   obtain ⟨u,hu1,hu2⟩:=hv j e hji hSj he
   have hne:e≠d:=by
    intro e'
    subst e'
    have h2:=hok1.2 j (qB he)
    rw [nX (fun h=>hji h.symm),he] at h2
    simp at h2
   exact ⟨u,by rw [hsame e hne];exact hu1,jO j u _ _ hG2 hu2⟩
theorem aes {id:Nat} {κ:Type} (k0:κ) (hm:P.follows .mixedOrders=true) (bJ:List (List Nat)) (B:List Nat) (hk:wK l bJ=true) (hB:uY l bJ B=true) (m1 m2 m3:Nat) (ZM:B.contains m1=false) (NR:B.contains m2=false) (Tq:B.contains m3=false) (hne:Nat.beq m1 m2=false) (ZQ:Nat.beq m2 m3=false) (hne1:Nat.beq m1 m3=false) (h12:(bJ.getD m2 []).contains m1=true) (mU:(bJ.getD m3 []).contains m1=true) (h23:(bJ.getD m3 []).contains m2=true)
  (C L2:OL) (ob:Obj) (L3:Nat→κ→OL) (hC:∀ x,x∈C→x∈L) (hC2:∀ x,x∈C→x∈L2) (hC3:∀ b k x,x∈C→x∈L3 b k) (pr:Nat→κ→Nat→aj→GH→Prop)
  (Kt:∀ b b' k i v G,Nat.beq i m2=false→(bJ.getD i []).contains m2=false→pr b k i v G→pr b' k i v G)
  (amE:∀ b k k' i v G,Nat.beq i m3=false→(bJ.getD i []).contains m3=false→pr b k i v G→pr b k' i v G)
  (H:St N D w0 F G0 G L T a w)
  (hstep:allI (fun i o=>∀ b k L' S a w G1,(∀ x,x∈C→x∈L')→B.contains i=false→Nat.beq i m1=false→Nat.beq i m2=false→Nat.beq i m3=false→S i=false→(∀ j∈bJ.getD i [],S j=true)→(∀ k o,G k=some o→G1 k=some o)→St N D w0 F G0 G1 L' T a w→(∀ i d,S i=true→dX l i=some d→∃ v,a.tmps[d]?=some v∧pr b k i v G1) →
   WL r P l.toArray (fun e a' w'=>e=.normal∧DX N D w0 F G0 G L' T l (pr b k) (dh S i) a' w') [o] a w) 0 l)
  (Ka:∀ o b k S a w G1,l[m1]?=some o→S m1=false→(∀ j∈bJ.getD m1 [],S j=true)→(∀ k o,G k=some o→G1 k=some o)→St N D w0 F G0 G1 L T a w→(∀ i d,i≠m1→S i=true→dX l i=some d→∃ v,a.tmps[d]?=some v∧pr b k i v G1) →
   WL r P l.toArray (fun e a' w'=>e=.normal∧DX N D w0 F G0 G L2 T l (pr b k) (dh S m1) a' w') [o] a w)
  (Ke:∀ o k S a w G1,l[m2]?=some o→S m2=false→(∀ j∈bJ.getD m2 [],S j=true)→(∀ k o,G k=some o→G1 k=some o)→St N D w0 F G0 G1 L2 T a w→(∀ b i d,i≠m2→S i=true→dX l i=some d→∃ v,a.tmps[d]?=some v∧pr b k i v G1) →
   WL r P l.toArray (fun e a' w'=>e=.normal∧∃ b,DX N D w0 F G0 G ((b,ob) :: L2) T l (pr b k) (dh S m2) a' w') [o] a w)
  (Tt:∀ o b S a w G1,l[m3]?=some o→S m3=false→(∀ j∈bJ.getD m3 [],S j=true)→(∀ k o,G k=some o→G1 k=some o)→St N D w0 F G0 G1 ((b,ob) :: L2) T a w→(∀ k i d,i≠m3→S i=true→dX l i=some d→∃ v,a.tmps[d]?=some v∧pr b k i v G1) →
   WL r P l.toArray (fun e a' w'=>e=.normal∧∃ k,DX N D w0 F G0 G (L3 b k) T l (pr b k) (dh S m3) a' w') [o] a w)
  (hend:∀ b k a w G1,(∀ k o,G k=some o→G1 k=some o)→St N D w0 F G0 G1 (L3 b k) T a w→(∀ i d,B.contains i=false→dX l i=some d→∃ v,a.tmps[d]?=some v∧pr b k i v G1)→WL r P l.toArray (fun e a w=>e=.normal∧Q .normal a w) (oq l B) a w)
  (EM:Nat.blt m2 l.length=true) (EN:Nat.blt m3 l.length=true):WP r P (.region id l.toArray true) Q a w:=by
 have aaY:m1≠m2:=fun e=>by subst e;rw [Nat.beq_refl] at hne;cases hne
 have abb:m2≠m3:=fun e=>by subst e;rw [Nat.beq_refl] at ZQ;cases ZQ
 have aaZ:m1≠m3:=fun e=>by subst e;rw [Nat.beq_refl] at hne1;cases hne1
 refine El hm bJ B hk hB (fun S a w=>(S m2=true→S m1=true)∧(S m3=true→S m2=true)∧∃ b k L',L'=(bif S m3 then L3 b k else bif S m2 then (b,ob) :: L2 else bif S m1 then L2 else L)∧DX N D w0 F G0 G L' T l (pr b k) S a w)
  ⟨fun h=>h,fun h=>h,0,k0,L,rfl,G,fun _ _ h=>h,H.move H.hp.drew,fun _ _ h=>absurd (show false=true from h) (by decide)⟩ ?_ ?_
 ·rintro i o S a w ho hb aL iL hdesc ⟨Dt,amC,b,k,L',hL,G1,hG,HS,hv⟩
  have hsub:∀ x,x∈C→x∈L':=fun x hx=>by
   rw [hL]
   cases S m3 with
   | true=>exact hC3 b k x hx
   | false=>cases S m2 with
    | true=>exact gH _ (hC2 x hx)
    | false=>cases S m1 with
     | true=>exact hC2 x hx
     | false=>exact hC x hx
  have hno:∀ j,j < l.length→S j=true→(bJ.getD j []).contains i=false:=fun j hjl hj=>by
   cases hc:(bJ.getD j []).contains i with
   | false=>rfl
   | true =>
    have:=hdesc j hjl (by simpa using hc)
    rw [this] at hj;cases hj
  by_cases h1:i=m1
  ·subst h1
   have hS2:S m2=false:=hdesc m2 (Eq.mp Nat.blt_eq EM) (by simpa using h12)
   have zi:S m3=false:=hdesc m3 (Eq.mp Nat.blt_eq EN) (by simpa using mU)
   rw [zi,hS2,aL] at hL
   subst hL
   have h:=Ka o b k S a w G1 ho aL iL hG HS fun j d hj hSj hd=>hv j d hSj hd
   have e2:dh S i m2=S m2:=ah (fun e=>aaY e.symm)
   have e3:dh S i m3=S m3:=ah (fun e=>aaZ e.symm)
   refine lC (fun e a' w' ⟨he,hD⟩=>⟨he,fun _=>av rfl,fun h=>(by rw [e3,zi] at h;cases h),b,k,_,?_,hD⟩) h
   rw [show dh S i i=true from av rfl,e2,e3,hS2,zi]
   rfl
  ·by_cases h2:i=m2
   ·subst h2
    have hS1:S m1=true:=iL m1 (by simpa using h12)
    have zi:S m3=false:=hdesc m3 (Eq.mp Nat.blt_eq EN) (by simpa using h23)
    rw [zi,aL,hS1] at hL
    subst hL
    have e1:dh S i m1=S m1:=ah aaY
    have e3:dh S i m3=S m3:=ah (fun e=>abb e.symm)
    have h:=Ke o k S a w G1 ho aL iL hG HS fun b' j d hj hSj hd=>by
     obtain ⟨v,hv1,hv2⟩:=hv j d hSj hd
     exact ⟨v,hv1,Kt b b' k j v _ (nX hj) (hno j (qB hd) hSj) hv2⟩
    refine lC (fun e a' w' ⟨he,b',hD⟩=>⟨he,fun _=>by rw [e1];exact hS1,fun _=>av rfl,b',k,_,?_,hD⟩) h
    rw [show dh S i i=true from av rfl,e3,zi];rfl
   ·by_cases h3:i=m3
    ·subst h3
     have hS1:S m1=true:=iL m1 (by simpa using mU)
     have hS2:S m2=true:=iL m2 (by simpa using h23)
     rw [aL,hS2] at hL
     subst hL
     have e1:dh S i m1=S m1:=ah aaZ
     have e2:dh S i m2=S m2:=ah abb
     have h:=Tt o b S a w G1 ho aL iL hG HS fun k' j d hj hSj hd=>by
      obtain ⟨v,hv1,hv2⟩:=hv j d hSj hd
      exact ⟨v,hv1,amE b k k' j v _ (nX hj) (hno j (qB hd) hSj) hv2⟩
     refine lC (fun e a' w' ⟨he,k',hD⟩=>⟨he,fun _=>by rw [e1];exact hS1,fun _=>by rw [e2];exact hS2,b,k',_,?_,hD⟩) h
     rw [show dh S i i=true from av rfl];rfl
    ·have h:=yP hstep i o ho
     rw [fV] at h
     have e1:dh S i m1=S m1:=ah (fun e=>h1 e.symm)
     have e2:dh S i m2=S m2:=ah (fun e=>h2 e.symm)
     have e3:dh S i m3=S m3:=ah (fun e=>h3 e.symm)
     refine lC (fun e a' w' ⟨he,hD⟩=>⟨he,by rw [e1,e2];exact Dt,by rw [e2,e3];exact amC,b,k,L',?_,hD⟩) (h b k L' S a w G1 hsub hb (nX h1) (nX h2) (nX h3) aL iL hG HS hv)
     rw [e1,e2,e3];exact hL
 ·rintro S a w hall Ic ⟨_,_,b,k,L',hL,G1,hG,HS,hv⟩
  have hs3:S m3=true:=hall m3 (Eq.mp Nat.blt_eq EN) Tq
  rw [hs3] at hL
  subst hL
  exact hend b k a w G1 hG HS fun j d hb hd=>hv j d (hall j (qB hd) hb) hd
end
theorem asc {z:Int} (h1:0≤z) (h2:z < 256):IntKind.u8.wrap z=z:=by
 simp only [IntKind.wrap,IntKind.bits,IntKind.signed,wH,rD,if_false]
 omega
section
variable {N:Nat} {D:List Deferred} {w0:World} {F:Nat→Prop} {G0 G:GH} {L:OL} {T:List (Nat × aj)}
variable {r:Option Nat} {P:Program} {ops:Array Oper} {Q:Exit→Act→World→Prop} {rest:List Oper} {a:Act} {w:World}
variable {d:Nat} {ty:TypeId} {pos:String} {aO:Array Edge} {g:Option (Nat × Bool)}
theorem aqN {x y:Operand} {t yt:TypeId} {p q:Int} (H:St N D w0 F G0 G L T a w) (hw:Region.wanted ⟨some d,.binOp .sub t x y yt,ty,pos,aO,g⟩ (yielded ops a.tmps)=true) (hx:ev T x=some (.int .u8 p)) (hy:ev T y=some (.int .u8 q)) (h1:0≤p - q) (h2:p - q < 256) (hd:Nat.blt d N=true)
  (k:∀ a',St N D w0 F G0 G L ((d,.int .u8 (p - q)) :: T) a' w→WL r P ops Q rest a' w):WL r P ops Q (⟨some d,.binOp .sub t x y yt,ty,pos,aO,g⟩ :: rest) a w :=
 eZ (v:=.int .u8 (p - q)) (w':=w) hw rfl (by simp [execOp,eqGuard,binOp,Op.intArith,H.ev hx,H.ev hy,dU,asc h1 h2]) (k _ (H.put hd _ H.hp))
end
end
section
open Go.RowKit
theorem air:∀ args w,(callFunc 279 args).run prog w=.ok (.enter 279 args) w:=enters func279 rfl (by kernel_rfl)
instance Vw:Ty prog 313 1 24 [.slice none 0 0] false:=⟨by kernel_rfl,by kernel_rfl⟩
theorem aiQ:∀ args w,(callFunc 94 args).run prog w=.ok (.enter 94 args) w:=enters func94 rfl (by kernel_rfl)
theorem LC:prog.underlying 313=some (.slice 318):=by kernel_rfl
instance:kg prog 313 (.slice 318):=⟨LC⟩
instance Lj:Ty prog 318 3 32 [.string ⟨#[]⟩,.int .i64 0,.bool false] true:=⟨by kernel_rfl,by kernel_rfl⟩
theorem ais:∀ args w,(callFunc 280 args).run prog w=.ok (.enter 280 args) w:=enters func280 rfl (by kernel_rfl)
instance ajQ:dS prog 340 2 2:=⟨by kernel_rfl⟩
instance ajR:dS prog 340 3 4:=⟨by kernel_rfl⟩
theorem acy:oO prog 318 [(0,1),(1,1),(2,1)] [.string ⟨#[]⟩,.int .i64 0,.bool false]:=⟨by kernel_rfl,by kernel_rfl⟩
theorem Rb:∀ args w,(callFunc 274 args).run prog w=.ok (.enter 274 args) w:=enters func274 rfl (by kernel_rfl)
instance YA:dS prog 340 4 5:=⟨by kernel_rfl⟩
structure jm where
 lit:ByteArray
 level:Int
 plain:Bool
def jm.dat (x:jm):List Dat:=[.lf (.string x.lit),li x.level,.lf (.bool x.plain)]
abbrev jm.cells (x:jm):List aj:=[.string x.lit,vi x.level,.bool x.plain]
theorem aaN (G:GH) (x:jm):aW G x.dat x.cells:=by
 simp only [jm.dat,jm.cells,aW]
 exact ⟨_,_,rfl,by simp [au,Value.oneCell'],_,_,rfl,by simp [au,Value.oneCell'],_,_,rfl,by simp [au,Value.oneCell'],rfl⟩
theorem aaM {G:GH} {x:jm} {cs:List aj} (h:aW G x.dat cs):cs=x.cells:=by
 simp only [jm.dat,aW,au] at h
 obtain ⟨_,_,rfl,⟨rfl,_⟩,_,_,rfl,⟨rfl,_⟩,_,_,rfl,⟨rfl,_⟩,rfl⟩:=h
 rfl
def DC (l:List jm):List aj:=(l.map jm.cells).flatten
theorem aaL (l:List jm) (x:jm):DC (l++[x])=DC l++x.cells:=by simp [DC]
structure zY (b:Nat) (lit:List UInt8) (parts:List jm) (p v q:aj) (Lp Lo:OL):Prop where
 ptr:p=.pointer none∨p=(aG b 2)
 buf:bV 5 1 v lit.length (Lib.byteCells lit) Lo
 prt:bV 318 3 q parts.length (DC parts) Lp
def uE (lit:List UInt8) (parts:List jm):List jm:=if lit=[] then parts else parts++[⟨⟨lit.toArray⟩,0,false⟩]
theorem RZ (G:GH) (Lp Lo:OL) (w0:World) (b:Nat) (s:ByteArray) (i:Int) (p v q:aj) (pl e:Int) (lit:List UInt8) (parts:List jm) (hR:zY b lit parts p v q Lp Lo) (hO:fU G (gM b s i p v q pl e :: (Lp++Lo)) w0) (hl:lit.length≤4294967296) (hp:parts.length≤4294967296) :
  Calls prog 274 #[(aG b 0)] w0 (fJ w0 G (gM b s i p v q pl e :: (Lp++Lo)) fun u G' L'=>∃ p' v' q' qw kJ,L'=gM b s i p' v' q' pl e :: (qw++kJ)∧zY b [] (uE lit parts) p' v' q' qw kJ):=by
 obtain ⟨Z8,hbuf,N7⟩:=hR;have hml:maxLen=9223372036854775807:=rfl;obtain ⟨A,c,rfl,aar,aas⟩:=hbuf.shape;obtain ⟨B,d,rfl,Z9,aac⟩:=N7.shape;obtain ⟨Lt,oZ⟩:∃ x,x=Lp++Lo:=⟨_,rfl⟩;rw [← oZ] at hO ⊢;refine jg (N:=25) (T:=[(0,_)]) func274 rfl ntmps274 rfl rfl hO ?_;refine ak 4 ?_;intro a H;refine gF air (Li:=[]) (L:=gM b s i p (.slice A lit.length c) (.slice B parts.length d) pl e :: Lt) H wn rfl (arD _ _ _ b s i p A lit.length c B parts.length d pl e (Hp.owns (Li:=[]) H.hp)) rfl ?_;clear H;rintro v5 _ L5 a w ⟨rfl,rfl,rfl⟩ Dl H;dsimp only [List.nil_append] at H;refine gQ 2 H ?_ ?_ <;> clear H
 ·intro p6
  have hne:lit≠[]:=fun e=>by rw [e] at p6;simp at p6
  subst oZ;refine ak 1 ?_
  have dN:∀ (aJ:Nat) (bT:(Option Addr × Nat) × OL) (aP:Nat) (v:aj) (G G':GH),(∀ k o,G k=some o→G' k=some o)→(fun (aJ:Nat) (bT:(Option Addr × Nat) × OL) (aP:Nat) (v:aj) (G:GH)=>match aP with|0=>v=(aG b 0)|1=>v=(aG b 0)|2=>v=(aG b 0)|3=>v=(aG b 4)|4=>v=.slice B parts.length d|5=>v=(aG b 0)|6=>v=(aG b 0)|7=>v=(aG b 2)|8=>v=.string ⟨lit.toArray⟩|9=>v=.agg (jm.cells ⟨⟨lit.toArray⟩,0,false⟩).toArray|10=>v=.slice (some ⟨aJ,0,none⟩) 1 1|11=>v=.slice bT.1.1 (parts.length+1) bT.1.2∧bV 318 3 v (parts.length+1) (DC (parts++[⟨⟨lit.toArray⟩,0,false⟩])) bT.2|_=>True) aJ bT aP v G→(fun (aJ:Nat) (bT:(Option Addr × Nat) × OL) (aP:Nat) (v:aj) (G:GH)=>match aP with|0=>v=(aG b 0)|1=>v=(aG b 0)|2=>v=(aG b 0)|3=>v=(aG b 4)|4=>v=.slice B parts.length d|5=>v=(aG b 0)|6=>v=(aG b 0)|7=>v=(aG b 2)|8=>v=.string ⟨lit.toArray⟩|9=>v=.agg (jm.cells ⟨⟨lit.toArray⟩,0,false⟩).toArray|10=>v=.slice (some ⟨aJ,0,none⟩) 1 1|11=>v=.slice bT.1.1 (parts.length+1) bT.1.2∧bV 318 3 v (parts.length+1) (DC (parts++[⟨⟨lit.toArray⟩,0,false⟩])) bT.2|_=>True) aJ bT aP v G':=by
   intro aJ bT aP v G G' hm h
   match aP,h with
   | 0,h=>exact h
   | 1,h=>exact h
   | 2,h=>exact h
   | 3,h=>exact h
   | 4,h=>exact h
   | 5,h=>exact h
   | 6,h=>exact h
   | 7,h=>exact h
   | 8,h=>exact h
   | 9,h=>exact h
   | 10,h=>exact h
   | 11,h=>exact h
   | 12,h=>exact trivial
   | 13,h=>exact trivial
   | 14,h=>exact trivial
   | _+15,h=>exact trivial
  intro a H;refine aes (κ:=(Option Addr × Nat) × OL) (((none,0),[])) (hmx) [[],[],[1],[1,2],[1,2,3],[],[5],[5,6],[5,6,7],(ra 5 4),(ra 5 5),(ra 1 10),(ra 0 12),(ra 0 13),(ra 0 14)] [12,13,14] (by kernel_rfl) (by kernel_rfl) 8 10 11 (by decide) (by decide) (by decide) (by decide) (by decide) (by decide) (by decide) (by decide) (by decide) [gM b s i p (.slice A lit.length c) (.slice B parts.length d) pl e] (gM b s i p (.slice A lit.length c) (.slice B parts.length d) pl e :: Lp) (.cells (jm.cells ⟨⟨lit.toArray⟩,0,false⟩).toArray 318 (0,0)) (fun b_ k_=>(b_,.cells (jm.cells ⟨⟨lit.toArray⟩,0,false⟩).toArray 318 (0,0)) :: gM b s i p (.slice A lit.length c) (.slice B parts.length d) pl e :: k_.2) (fun x hx=>by rw [sS.1 hx];exact fM) (fun x hx=>by rw [sS.1 hx];exact fM) (fun _ _ x hx=>by rw [sS.1 hx];exact gH _ fM) (fun (aJ:Nat) (bT:(Option Addr × Nat) × OL) (aP:Nat) (v:aj) (G:GH)=>match aP with|0=>v=(aG b 0)|1=>v=(aG b 0)|2=>v=(aG b 0)|3=>v=(aG b 4)|4=>v=.slice B parts.length d|5=>v=(aG b 0)|6=>v=(aG b 0)|7=>v=(aG b 2)|8=>v=.string ⟨lit.toArray⟩|9=>v=.agg (jm.cells ⟨⟨lit.toArray⟩,0,false⟩).toArray|10=>v=.slice (some ⟨aJ,0,none⟩) 1 1|11=>v=.slice bT.1.1 (parts.length+1) bT.1.2∧bV 318 3 v (parts.length+1) (DC (parts++[⟨⟨lit.toArray⟩,0,false⟩])) bT.2|_=>True) (fun b b' k i v G hi hc h=>by match i,hi,hc,h with|0,_,_,h=>exact h|1,_,_,h=>exact h|2,_,_,h=>exact h|3,_,_,h=>exact h|4,_,_,h=>exact h|5,_,_,h=>exact h|6,_,_,h=>exact h|7,_,_,h=>exact h|8,_,_,h=>exact h|9,_,_,h=>exact h|10,hi,_,_=>exact absurd hi (by decide)|11,_,hc,_=>exact absurd hc (by decide)|12,_,hc,_=>exact absurd hc (by decide)|13,_,hc,_=>exact absurd hc (by decide)|14,_,hc,_=>exact absurd hc (by decide)|_+15,_,_,_=>exact trivial) (fun b k k' i v G hi hc h=>by match i,hi,hc,h with|0,_,_,h=>exact h|1,_,_,h=>exact h|2,_,_,h=>exact h|3,_,_,h=>exact h|4,_,_,h=>exact h|5,_,_,h=>exact h|6,_,_,h=>exact h|7,_,_,h=>exact h|8,_,_,h=>exact h|9,_,_,h=>exact h|10,_,_,h=>exact h|11,hi,_,_=>exact absurd hi (by decide)|12,_,hc,_=>exact absurd hc (by decide)|13,_,hc,_=>exact absurd hc (by decide)|14,_,hc,_=>exact absurd hc (by decide)|_+15,_,_,_=>exact trivial) H ?_ ?_ ?_ ?_ ?_ (by kernel_rfl) (by kernel_rfl)
  ·clear H;refine aF ?_ ?_ ?_ ?_ (aF ?_ ?_ ?_ ?_ (aF ?_ ?_ ?_ ?_ (bH ?_ (bH ?_ (bH ?_ cZ)))))
   ·intro aJ bT dL aR a w G1 dO _ _ _ _ aL hc hG HT hv;have H:=HT;clear aL;have Hb:=H.full;have H:=Hb;clear hc;refine aD 1 H ?_;clear H;intro a H;refine aC ⟨rfl,?_⟩;exact dG (by kernel_rfl) (dN aJ bT) rfl rfl HT Hb hG hv (fun _ _ h=>h) (rfl) H
   ·intro aJ bT dL aR a w G1 dO _ _ _ _ aL hc hG HT hv;have H:=HT;clear aL;have Hb:=H.full;have H:=Hb;clear hc;refine aD 1 H ?_;clear H;intro a H;refine aC ⟨rfl,?_⟩;exact dG (by kernel_rfl) (dN aJ bT) rfl rfl HT Hb hG hv (fun _ _ h=>h) (rfl) H
   ·intro aJ bT dL aR a w G1 dO _ _ _ _ aL hc hG HT hv;have H:=HT;clear aL;have H:=H.aN (hv 1 8 (hc 1 (by decide)) rfl) rfl;have Hb:=H.full;have H:=Hb;clear hc;refine aD 1 H ?_;clear H;intro a H;refine aC ⟨rfl,?_⟩;exact dG (by kernel_rfl) (dN aJ bT) rfl rfl HT Hb hG hv (fun _ _ h=>h) (rfl) H
   ·intro aJ bT dL aR a w G1 dO _ _ _ _ aL hc hG HT hv;have H:=HT;clear aL;have H:=H.aN (hv 2 9 (hc 2 (by decide)) rfl) rfl;have Hb:=H.full;have H:=Hb;clear hc;refine aD 1 H ?_;clear H;intro a H;refine aC ⟨rfl,?_⟩;exact dG (by kernel_rfl) (dN aJ bT) rfl rfl HT Hb hG hv (fun _ _ h=>h) (rfl) H
   ·intro aJ bT dL aR a w G1 dO _ _ _ _ aL hc hG HT hv;have H:=HT;clear aL;have H:=H.aN (hv 3 10 (hc 3 (by decide)) rfl) rfl;have Hb:=H.full;have H:=Hb;clear hc;refine iF Vw H wn rfl (H.hp.wY (dO _ fM) rfl) rfl ?_;clear H;intro a H;refine aC ⟨rfl,?_⟩;exact dG (by kernel_rfl) (dN aJ bT) rfl rfl HT Hb hG hv (fun _ _ h=>h) (rfl) H
   ·intro aJ bT dL aR a w G1 dO _ _ _ _ aL hc hG HT hv;have H:=HT;clear aL;have Hb:=H.full;have H:=Hb;clear hc;refine aD 1 H ?_;clear H;intro a H;refine aC ⟨rfl,?_⟩;exact dG (by kernel_rfl) (dN aJ bT) rfl rfl HT Hb hG hv (fun _ _ h=>h) (rfl) H
   ·intro aJ bT dL aR a w G1 dO _ _ _ _ aL hc hG HT hv;have H:=HT;clear aL;have H:=H.aN (hv 5 12 (hc 5 (by decide)) rfl) rfl;have Hb:=H.full;have H:=Hb;clear hc;refine aD 1 H ?_;clear H;intro a H;refine aC ⟨rfl,?_⟩;exact dG (by kernel_rfl) (dN aJ bT) rfl rfl HT Hb hG hv (fun _ _ h=>h) (rfl) H
   ·intro aJ bT dL aR a w G1 dO _ _ _ _ aL hc hG HT hv;have H:=HT;clear aL;have H:=H.aN (hv 6 13 (hc 6 (by decide)) rfl) rfl;have Hb:=H.full;have H:=Hb;clear hc;refine aD 1 H ?_;clear H;intro a H;refine aC ⟨rfl,?_⟩;exact dG (by kernel_rfl) (dN aJ bT) rfl rfl HT Hb hG hv (fun _ _ h=>h) (rfl) H
   ·intro _ _ _ _ _ _ _ _ _ hB;exact absurd hB (by decide)
   ·intro aJ bT dL aR a w G1 dO _ _ _ _ aL hc hG HT hv;have H:=HT;clear aL;have H:=H.aN (hv 8 15 (hc 8 (by decide)) rfl) rfl;have Hb:=H.full;have H:=Hb;clear hc;refine iy acy [_,_,_] H wn rfl rfl rfl rfl ?_;clear H;intro a H;refine aC ⟨rfl,?_⟩;exact dG (by kernel_rfl) (dN aJ bT) rfl rfl HT Hb hG hv (fun _ _ h=>h) (rfl) H
   ·intro _ _ _ _ _ _ _ _ _ _ hB;exact absurd hB (by decide)
   ·intro _ _ _ _ _ _ _ _ _ _ _ hB;exact absurd hB (by decide)
   ·intro _ _ _ _ _ _ _ _ hB;exact absurd hB (by decide)
   ·intro _ _ _ _ _ _ _ _ hB;exact absurd hB (by decide)
   intro _ _ _ _ _ _ _ _ hB;exact absurd hB (by decide)
  ·clear H;intro o_ aJ bT aR a w G1 jW _ hc hG HT hv;obtain rfl:_=o_:=Option.some.inj jW;clear jW;have H:=HT;have H:=H.aN (hv 7 14 (by decide) (hc 7 (by decide)) rfl) rfl;have Hb:=H.full;have H:=Hb;clear hc;refine gF aiQ (Li:=[]) (L:=gM b s i p (.slice A lit.length c) (.slice B parts.length d) pl e :: (Lp++Lo)) H wn rfl (arT _ _ _ _ b s i p _ B parts.length d pl e lit (Hp.owns (Li:=[]) H.hp) hbuf hne) rfl ?_;clear H;rintro v15 Bn Qb a w ⟨rfl,rfl⟩ BI H;dsimp only [List.nil_append] at H;refine aC ⟨rfl,?_⟩;exact Bz (by kernel_rfl) (dN aJ bT) rfl HT Hb hG (fun j e h1 h2 h3=>hv j e h1 h2 h3) BI (rfl) H
  ·clear H;intro o_ bT aR a w G1 jW _ hc hG HT hv;obtain rfl:_=o_:=Option.some.inj jW;clear jW;have H:=HT;have H:=H.aN (hv 0 9 16 (by decide) (hc 9 (by decide)) rfl) rfl;have Hb:=H.full;have H:=Hb;clear hc;refine gJ LC Lj [_,_,_] [_,_,_] H wn rfl rfl rfl rfl rfl (by intro i q h;match i,h with|0,h=>exact h|n+1,h=>simp at h) rfl rfl ?_;clear H;intro b17 a w NC H;refine aC ⟨rfl,b17,?_⟩;exact Er (by kernel_rfl) rfl HT Hb hG (fun j e h1 h2 h3=>hv _ j e h1 h2 h3) (rfl) H
  ·clear H;intro o_ aJ aR a w G1 jW _ hc hG HT hv;obtain rfl:_=o_:=Option.some.inj jW;clear jW;have H:=HT;have H:=H.aN (hv (((none,0),[])) 4 11 (by decide) (hc 4 (by decide)) rfl) rfl;have H:=H.aN (hv (((none,0),[])) 10 17 (by decide) (hc 10 (by decide)) rfl) rfl;have Hb:=H.full;have H:=Hb;clear hc;refine lJ (Li:=[_,_]) (Lo:=Lp) (news:=jm.cells ⟨⟨lit.toArray⟩,0,false⟩) LC Lj rfl rfl H wn rfl rfl N7 rfl (H.hp.bN 0 rfl rfl) rfl (by omega) (by omega) rfl ?_;clear H;intro v18 adP a w Ie H;obtain ⟨A18,c18,rfl,-,-⟩:=Ie.shape;rw [← aaL] at Ie;refine aC ⟨rfl,((A18,c18),adP),?_⟩;exact Er (by kernel_rfl) rfl HT Hb hG (fun j e h1 h2 h3=>hv _ j e h1 h2 h3) (⟨rfl,Ie⟩) H
  clear H;intro b17 bT a w G iP H hv;have H:=H.aN (hv 0 7 rfl rfl) rfl;obtain ⟨u18,TM,Kj⟩:=hv 11 18 (by decide) rfl;(try dsimp only at Kj);obtain ⟨rfl,Ie⟩:=Kj;have H:=H.gV TM;clear hv;refine kH H (Rk rfl (Rf ajR rfl ?_));clear H;intro a H;refine aV Vw 1 (vs:=[_]) _ H wn rfl rfl rfl rfl rfl rfl rfl rfl ?_;clear H;intro w H;dsimp only [List.set,setRow] at H;refine aC ⟨rfl,?_⟩;refine dR ?_;refine fO 4 H ?_;clear H;intro a H;refine gF ais (Li:=[_]) (L:=gM b s i p (.slice A lit.length c) (.slice bT.1.1 (parts.length+1) bT.1.2) pl e :: bT.2) H wn rfl (arS _ _ _ b s i p A lit.length c bT.1.1 (parts.length+1) bT.1.2 pl e (Hp.owns (Li:=[_]) H.hp)) rfl ?_;clear H;rintro v24 _ L24 a w ⟨rfl,rfl⟩ mX H;dsimp only [lca,bG] at H;refine aC ?_;refine (leave0 H results274 ?_).2
  first
   | exact H.hp.kE (L':=gM b s i _ _ _ pl e :: bT.2) (Ac _ _) ⟨_,_,_,bT.2,[],by rw [gD],⟨.inl rfl,bV.nil,by rw [uE,ah hne];simpa using Ie⟩⟩
   | exact H.hp.dJ ⟨_,_,_,Lp,Lo,by rw [oZ],by
     have h0:lit=[]:=by
      cases lit with
      | nil=>rfl
      | cons x r=>simp at p6
     subst h0;exact ⟨Z8,hbuf,by rw [uE,av rfl];exact N7⟩⟩
 intro p6
 intro a H;refine jB ?_;refine (leave0 H results274 ?_).2
 first
  | exact H.hp.kE (L':=gM b s i _ _ _ pl e :: bT.2) (Ac _ _) ⟨_,_,_,bT.2,[],by rw [gD],⟨.inl rfl,bV.nil,by rw [uE,ah hne];simpa using Ie⟩⟩
  | exact H.hp.dJ ⟨_,_,_,Lp,Lo,by rw [oZ],by
    have h0:lit=[]:=by
     cases lit with
     | nil=>rfl
     | cons x r=>simp at p6
    subst h0;exact ⟨Z8,hbuf,by rw [uE,av rfl];exact N7⟩⟩
theorem aby (G:GH) (Lp Lo:OL) (w0:World) (b:Nat) (s:ByteArray) (i:Int) (p v q:aj) (pl e:Int) (lit:List UInt8) (parts:List jm) (ch:Int) (plain:Bool) (hR:zY b lit parts p v q Lp Lo) (hO:fU G (gM b s i p v q pl e :: (Lp++Lo)) w0) (hl:lit.length≤4294967296) (hp:parts.length≤4294967290) (hc:49≤ch∧ch≤57) (hpl:0≤pl∧pl≤4294967296) :
  Calls prog 278 #[(aG b 0),.int .u8 ch,.bool plain] w0 (fJ w0 G (gM b s i p v q pl e :: (Lp++Lo)) fun u G' L'=>∃ p' v' q' qw kJ,L'=gM b s i p' v' q' (pl+1) e :: (qw++kJ)∧zY b [] (uE lit parts++[⟨⟨#[]⟩,ch - 48,plain⟩]) p' v' q' qw kJ):=by
 have hml:maxLen=9223372036854775807:=rfl
 have hfl:(uE lit parts).length≤parts.length+1:=by unfold uE;split <;> simp
 obtain ⟨A,c,rfl,aar,aas⟩:=hR.buf.shape;obtain ⟨B,d,rfl,Z9,aac⟩:=hR.prt.shape;obtain ⟨Lt,oZ⟩:∃ x,x=Lp++Lo:=⟨_,rfl⟩;rw [← oZ] at hO ⊢;refine jg (N:=29) (T:=[(0,_),(1,_),(2,_)]) func278 rfl ntmps278 rfl rfl hO ?_;refine ak 2 ?_;intro a H;refine gF Rb (Li:=[]) (L:=gM b s i p (.slice A lit.length c) (.slice B parts.length d) pl e :: Lt) H wn rfl (by subst oZ;exact RZ _ Lp Lo _ b s i p _ _ pl e lit parts hR (Hp.owns (Li:=[]) H.hp) hl (by omega)) rfl ?_;clear H;rintro v7 G7 L7 a w ⟨p',v',q',qw,kJ,rfl,JO⟩ wS H;dsimp only [List.nil_append] at H;obtain ⟨A7,c7,rfl,-,-⟩:=JO.buf.shape;obtain ⟨B7,d7,rfl,-,-⟩:=JO.prt.shape;refine aD 8 H ?_;clear H;intro a H;refine aqN H wn rfl rfl (by omega) (by omega) rfl ?_;clear H;intro a H;refine AV _ kI II H wn rfl rfl rfl ?_;clear H;intro a H;rw [EX (by omega) (by omega)] at H;refine aD 1 H ?_;clear H;intro a H;refine iy acy [_,_,_] H wn rfl rfl rfl rfl ?_;clear H;intro a H;refine gJ LC Lj [_,_,_] [_,_,_] H wn rfl rfl rfl rfl rfl (by intro i q h;match i,h with|0,h=>exact h|n+1,h=>simp at h) rfl rfl ?_;clear H;intro b18 a w JY H;have H:=(St.cast H (show _=[_,_]++(qw++kJ) from rfl)).perm (List.Perm.append_left _ uq);have H:=St.un H;refine lJ (Li:=[_,_]++kJ) (Lo:=qw) (news:=jm.cells ⟨⟨#[]⟩,ch - 48,plain⟩) LC Lj rfl rfl H wn rfl rfl JO.prt rfl (H.hp.bN 0 rfl rfl) rfl (by omega) (by omega) rfl ?_;clear H;intro v19 WC a w xV H;obtain ⟨FT,c19,rfl,-,-⟩:=xV.shape;rw [← aaL] at xV;have H:=H.assoc.perm (List.Perm.append_left _ uq);dsimp only [lca,bG] at H;refine aD 2 H ?_;clear H;intro a H;refine aV Vw 1 (vs:=[_]) _ H wn rfl rfl rfl rfl rfl rfl rfl rfl ?_;clear H;intro w H;dsimp only [List.set,setRow] at H;refine aD 9 H ?_;clear H;intro a H;refine aV bR 1 (vs:=[_]) _ H wn rfl rfl rfl rfl rfl rfl rfl rfl ?_;clear H;intro w H;dsimp only [List.set,setRow] at H;refine aC ?_;refine (leave0 H results278 ?_).2;exact H.hp.kE (L':=gM b s i _ _ _ (pl+1) e :: (WC++kJ)) (Ac _ _) ⟨_,_,_,WC,kJ,rfl,JO.ptr,JO.buf,by simpa using xV⟩
end
section
open Go.RowKit
section
variable {N:Nat} {D:List Deferred} {w0:World} {F:Nat→Prop} {G0 G:GH} {L:OL} {T Xs:List (Nat × aj)}
variable {r:Option Nat} {P:Program} {Q:Exit→Act→World→Prop} {l:List Oper} {a a':Act} {w w':World}
abbrev V3:Type:=Nat × aj × Nat × Bool
def V4 (ent:List V3) (S:Nat→Bool) (a:Act):Prop:=∀ e∈ent,S e.2.2.1=e.2.2.2→a.tmps[e.1]?=some e.2.1
theorem V4.at {ent:List V3} {S:Nat→Bool} {a:Act} (h:V4 ent S a) (k:Nat) {t:Nat} {v:aj} {j:Nat} {b:Bool} (hk:ent[k]?=some (t,v,j,b)) (hS:S j=b):a.tmps[t]?=some v:=h _ (kr hk) hS
theorem aqM {ops:Array Oper} {rest:List Oper} {d:Nat} {ty:TypeId} {pos:String} {aO:Array Edge} {g:Option (Nat × Bool)} {t:TypeId} {x y:Operand} {s:ByteArray} {ky:IntKind} {p:Int} (hi:Nat) (ht:P.underlying t=some .string) (H:St N D w0 F G0 G L T a w) (hw:Region.wanted ⟨some d,.slice t x none (some y) none,ty,pos,aO,g⟩ (yielded ops a.tmps)=true) (hx:ev T x=some (.string s)) (hy:ev T y=some (.int ky p)) (hp:p=(hi:Int)) (h1:hi≤s.size) (hd:Nat.blt d N=true)
  (k:∀ a',St N D w0 F G0 G L ((d,.string (s.extract 0 hi)) :: T) a' w→WL r P ops Q rest a' w):WL r P ops Q (⟨some d,.slice t x none (some y) none,ty,pos,aO,g⟩ :: rest) a w:=by
 subst hp
 have hr:=run_slice_string_h (P:=P) w t s ht ky (hi:Int) (by omega) (by omega)
 rw [Int.toNat_natCast] at hr
 refine eZ (v:=.string (s.extract 0 hi)) (w':=w) hw rfl ?_ (k _ (H.put hd _ H.hp))
 simp only [execOp,H.ev hx,uo,Option.map_none,H.ev hy,dU,run_sliceAt_string w t _ _ _ _ ht,hr,lN,qN]
end
end
section
open Go.RowKit
theorem ait:∀ args w,(callFunc 281 args).run prog w=.ok (.enter 281 args) w:=enters func281 rfl (by kernel_rfl)
instance Ai:dS prog 340 0 0:=⟨by kernel_rfl⟩
theorem Yh:∀ args w,(callFunc 273 args).run prog w=.ok (.enter 273 args) w:=enters func273 rfl (by kernel_rfl)
theorem Yi:∀ args w,(callFunc 277 args).run prog w=.ok (.enter 277 args) w:=enters func277 rfl (by kernel_rfl)
theorem Yj:∀ args w,(callFunc 278 args).run prog w=.ok (.enter 278 args) w:=enters func278 rfl (by kernel_rfl)
instance wN:dS prog 340 1 1:=⟨by kernel_rfl⟩
theorem Rh:∀ args w,(callFunc 276 args).run prog w=.ok (.enter 276 args) w:=enters func276 rfl (by kernel_rfl)
instance Et:dS prog 340 5 6:=⟨by kernel_rfl⟩
def qQ (s p:ByteArray):Bool:=decide (p.size≤s.size) && ((s.extract 0 p.size).toList == p.toList)
theorem alb (G:GH) (w0:World) (hG:Hold G w0) (s p:ByteArray) (hs:s.size≤4611686018427387904) (hp:p.size≤4611686018427387904):Calls prog 281 #[.string s,.string p] w0 (bB w0 G fun u G'=>u=.bool (qQ s p)∧G=G'):=by
 refine eN [(0,_),(1,_)] func281 rfl ntmps281 rfl rfl hG ?_;refine jV 10 10 ?_ ?_
 ·intro h10
  try have iD:=dT h10
  refine ak 2 ?_;intro a H;refine DT jG H (wg H rfl rfl h10) rfl rfl ?_;clear H;intro a H;refine aqM p.size jG H (wg H rfl rfl h10) rfl rfl rfl (by omega) rfl ?_;clear H;refine ak 1 ?_;intro a H;refine AY H (wg H rfl rfl h10) rfl rfl rfl ?_;clear H;refine aQ 3 ?_;exact ⟨dD (by unfold qQ;first|(simp_all;done)|(simp_all;omega)),rfl⟩
 intro h10
 try have iD:=dF h10
 refine aQ 9 ?_;exact ⟨dD (by unfold qQ;first|(simp_all;done)|(simp_all;omega)),rfl⟩
theorem SH (G:GH) (w0:World) (hG:Hold G w0) (s p:ByteArray) (hs:s.size≤4611686018427387904) (hp:p.size≤4611686018427387904):Calls prog 276 #[.string s,.string p] w0 (bB w0 G fun u G'=>u=.bool (qQ s p)∧G=G'):=by
 refine eN [(0,_),(1,_)] func276 rfl ntmps276 rfl rfl hG ?_;refine ak 6 ?_;intro a H;refine s_call ait H wn rfl (alb _ _ H.ro s p hs hp) rfl ?_;clear H;rintro v7 _ a w ⟨rfl,rfl⟩ - H;refine fH 2 H ?_;exact ⟨rfl,rfl⟩
def uy (s:ByteArray) (k:Nat):Bool:=decide (k < s.size) && decide (49≤fZ s k) && decide (fZ s k≤57)
theorem XP (G:GH) (L:OL) (w0:World) (b:Nat) (s:ByteArray) (i:Int) (p v q:aj) (pl e:Int) (k:Nat) (hs:s.size≤4611686018427387904) (hO:fU G (gM b s i p v q pl e :: L) w0) :
  Calls prog 277 #[(aG b 0),vi k] w0 (fJ w0 G (gM b s i p v q pl e :: L) fun u G' L'=>u=.bool (uy s k)∧L'=gM b s i p v q pl e :: L∧G'=G):=by
 refine jg (N:=30) (T:=[(0,_),(1,_)]) func277 rfl ntmps277 rfl rfl hO ?_;refine jV 12 12 ?_ ?_
 ·intro h12
  try have pI:=dT h12
  refine ak 1 ?_;intro a H;refine tY H (wg H rfl rfl h12) rfl rfl ?_;clear H;refine ak 3 ?_;intro a H;refine oL k jG H (wg H rfl rfl h12) rfl rfl rfl (by omega) rfl ?_;clear H;intro a H;rw [← kW] at H;refine kT 3 21 H ?_ ?_ <;> clear H
  ·intro h21
   try have Cm:=dT h21
   refine ak 1 ?_;intro a H;refine tY H (wg H rfl rfl h21) rfl rfl ?_;clear H;refine ak 3 ?_;intro a H;refine oL k jG H (wg H rfl rfl h21) rfl rfl rfl (by omega) rfl ?_;clear H;intro a H;rw [← kW] at H;refine aD 4 H ?_;clear H;intro a H;refine lr H results277 rfl ?_;exact H.hp.dJ ⟨dD (by unfold uy;first|(simp_all;done)|(simp_all;omega)),rfl,rfl⟩
  intro h21
  try have Cm:=dF h21
  refine ak 10 ?_;intro a H;refine lr H results277 rfl ?_;exact H.hp.dJ ⟨dD (by unfold uy;first|(simp_all;done)|(simp_all;omega)),rfl,rfl⟩
 intro h12
 try have pI:=dF h12
 refine ak 19 ?_;intro a H;refine lr H results277 rfl ?_;exact H.hp.dJ ⟨dD (by unfold uy;first|(simp_all;done)|(simp_all;omega)),rfl,rfl⟩
structure uj where
 i:Nat
 lit:List UInt8
 parts:List jm
 pl:Nat
 e:Int
def oK (s:ByteArray) (x:uj):uj :=
 if qQ (s.extract x.i s.size) ⟨#[37,37]⟩=true then ⟨x.i+2,x.lit++[37],x.parts,x.pl,x.e⟩
 else if uy s (x.i+1)=true then ⟨x.i+2,[],uE x.lit x.parts++[⟨⟨#[]⟩,fZ s (x.i+1) - 48,false⟩],x.pl+1,x.e⟩
 else if qQ (s.extract x.i s.size) ⟨#[37,100]⟩=true∧uy s (x.i+2)=true then ⟨x.i+3,[],uE x.lit x.parts++[⟨⟨#[]⟩,fZ s (x.i+2) - 48,true⟩],x.pl+1,x.e⟩
 else ⟨x.i,x.lit,x.parts,x.pl,14⟩
abbrev wD (b:Nat) (s:ByteArray) (x:uj) (p v q:aj):Nat × Obj:=gM b s x.i p v q x.pl x.e
theorem XO {s:ByteArray} {k:Nat} (h:uy s k=true):k < s.size∧49≤fZ s k∧fZ s k≤57:=by
 simpa [uy,and_assoc] using h
theorem apl (G:GH) (Lp Lo:OL) (w0:World) (b:Nat) (s:ByteArray) (x:uj) (p v q:aj) (hR:zY b x.lit x.parts p v q Lp Lo) (hO:fU G (wD b s x p v q :: (Lp++Lo)) w0) (hs:s.size≤4294967290) (hi:x.i < s.size) (hl:x.lit.length≤4294967290) (hp:x.parts.length≤4294967290) (hpl:x.pl≤4294967290) :
    Calls prog 272 #[(aG b 0)] w0 (fJ w0 G (wD b s x p v q :: (Lp++Lo)) fun u G' L'=>∃ p' v' q' qw kJ,L'=wD b s (oK s x) p' v' q' :: (qw++kJ)∧zY b (oK s x).lit (oK s x).parts p' v' q' qw kJ):=by
  obtain ⟨i,lit,parts,pl,e⟩:=x;dsimp only [wD] at *
  have hex:(s.extract i s.size).size≤4611686018427387904:=by rw [ByteArray.size_extract];omega
  obtain ⟨A,c,rfl,aar,aas⟩:=hR.buf.shape;obtain ⟨B,d,rfl,Z9,aac⟩:=hR.prt.shape;obtain ⟨Lt,oZ⟩:∃ x,x=Lp++Lo:=⟨_,rfl⟩;rw [← oZ] at hO ⊢;refine jg (N:=93) (T:=[(0,_)]) func272 rfl ntmps272 rfl rfl hO ?_;refine ak 2 ?_;intro a H;refine dI hmx [[],[0],[0,1],[0,1,2],[],[4],[4,5],[4,5,6],(ra 0 8),(ra 0 9),(ra 0 10)] [] (by kernel_rfl) [_,_,_,.string s,_,_,_,vi i,.string (s.extract i s.size),.bool (qQ (s.extract i s.size) ⟨#[37,37]⟩),_] H (aF (Z0 rfl (Rm rfl)) (Z1 0 6 rfl (Rk rfl)) (Z1 1 7 rfl (Rf Ai rfl)) (Z1 2 8 rfl (Ro mg 0 rfl)) (aF (Z0 rfl (Rm rfl)) (Z1 4 10 rfl (Rk rfl)) (Z1 5 11 rfl (Rf wN rfl)) (Z1 6 12 rfl (Ro bR 0 rfl)) (bH ?_ (bH ?_ (bH (Z1 9 15 rfl (Ra rfl)) cZ))))) ?_
  · refine dH 3 9 7 13 rfl rfl fun _ a w G1 hG HT H fin=>?_;refine Vj i jG H wn rfl rfl rfl (by omega) rfl ?_;clear H;intro a H;exact fin H iJ rfl
  · refine eu 8 14 rfl rfl fun _ a w G1 hG HT H fin=>?_;refine s_call Rh H wn rfl (SH _ _ H.ro _ _ hex (by decide)) rfl ?_;clear H;rintro v15 Bn a w ⟨rfl,rfl⟩ BI H;exact fin H BI (rfl)
  clear H;intro a w G iP H hv;have H:=H.aN (hv 10 5 rfl rfl) rfl;clear hv;refine t0 1 H ?_;clear H;refine goC 0 ?_ ?_
  · intro h5
    try have p5:=dT h5
    refine ak 4 ?_;intro a H;refine gF Yh (Li:=[]) (L:=gM b s i p (.slice A lit.length c) (.slice B parts.length d) pl e :: Lt) H wn rfl (by subst oZ;exact adi _ Lp Lo _ b s i p _ B parts.length d pl e lit.length _ 37 hR.ptr (Hp.owns (Li:=[]) H.hp) hR.buf (by omega)) rfl ?_;clear H;rintro v19 _ L19 a w ⟨auw,Ee,rfl,xV,rfl⟩ qF H;dsimp only [List.nil_append] at H;obtain ⟨FT,c19,rfl,-,-⟩:=xV.shape;refine aD 9 H ?_;clear H;intro a H;refine aV bR 0 (vs:=[_]) _ H wn rfl rfl rfl rfl rfl rfl rfl rfl ?_;clear H;intro w H;dsimp only [List.set,setRow] at H;refine aC ?_;refine (leave0 H results272 ?_).2;exact H.hp.dJ ⟨_,_,_,Lp,Ee,by rw [oK,av h5];rfl,by rw [oK,av h5];exact ⟨.inr rfl,by simpa [Lib.byteCells] using xV,hR.prt⟩⟩
  intro h5
  try have p5:=dF h5
  refine ak 7 ?_;intro a H;rw [show ((i:Int)+1)=((i+1:Nat):Int) from rfl] at H;refine gF Yi (Li:=[]) (L:=gM b s i p (.slice A lit.length c) (.slice B parts.length d) pl e :: Lt) H wn rfl (XP _ Lt _ b s i p _ _ pl e (i+1) (by omega) (Hp.owns (Li:=[]) H.hp)) rfl ?_;clear H;rintro v34 _ L34 a w ⟨rfl,rfl,rfl⟩ HZ H;dsimp only [List.nil_append] at H;refine iU 2 H ?_ ?_ <;> clear H
  · intro h27
    try have p27:=dT h27
    have hd1:=XO h27;refine ak 1 ?_;intro a H;refine dI hmx [[],[],[1],[1,2],[1,2,3],[],[5],[5,6],[5,6,7],(ra 5 4),(ra 1 9),(ra 0 11)] [11] (by kernel_rfl) [_,_,_,_,.string s,_,_,_,vi i,_,.int .u8 (fZ s (i+1))] H (aF (Z0 rfl (Rm rfl)) (Z0 rfl (Rm rfl)) (Z1 1 36 rfl (Rk rfl)) (Z1 2 37 rfl (Rf Ai rfl)) (aF (Z1 3 38 rfl (Ro mg 0 rfl)) (Z0 rfl (Rm rfl)) (Z1 5 40 rfl (Rk rfl)) (Z1 6 41 rfl (Rf wN rfl)) (aF (Z1 7 42 rfl (Ro bR 0 rfl)) (Z1 8 43 rfl (Rd rfl)) ?_ (bQ rfl) cZ))) ?_
    · refine dH 4 39 9 44 rfl rfl fun _ a w G1 hG HT H fin=>?_;refine oL (i+1) jG H wn rfl rfl rfl hd1.1 rfl ?_;clear H;intro a H;rw [← kW] at H;exact fin H iJ rfl
    clear H;intro a w G kU H hv;have H:=H.aN (hv 0 35 rfl rfl) rfl;have H:=H.aN (hv 10 45 rfl rfl) rfl;clear hv;refine gF Yj (Li:=[]) (L:=gM b s i p (.slice A lit.length c) (.slice B parts.length d) pl e :: Lt) H wn rfl (by subst oZ;exact aby _ Lp Lo _ b s i p _ _ pl e lit parts (fZ s (i+1)) false hR (Hp.owns (Li:=[]) H.hp) (by omega) (by omega) hd1.2 (by omega)) rfl ?_;clear H;rintro v46 Wh L46 a w ⟨p46,asC,q46,I9,I8,rfl,BL⟩ ZH H;dsimp only [List.nil_append] at H;obtain ⟨A46,c46,rfl,-,-⟩:=BL.buf.shape;obtain ⟨B46,d46,rfl,-,-⟩:=BL.prt.shape;refine aC ⟨rfl,?_⟩;refine dR ?_;refine fO 8 H ?_;clear H;intro a H;refine aV bR 0 (vs:=[_]) _ H wn rfl rfl rfl rfl rfl rfl rfl rfl ?_;clear H;intro w H;dsimp only [List.set,setRow] at H;refine aC ?_;refine (leave0 H results272 ?_).2;exact H.hp.dJ ⟨_,_,_,I9,I8,by rw [oK,ah (by simp [h5]),av h27];rfl,by rw [oK,ah (by simp [h5]),av h27];exact BL⟩
  intro h27
  try have p27:=dF h27
  refine ak 1 ?_
  intro a H;by_cases c1:qQ (s.extract i s.size) ⟨#[37,100]⟩=true
  · refine dI hmx [[],[0],[0,1],[0,1,2],[],[4],[4,5],[4,5,6],(ra 0 8),(ra 0 9),(ra 0 10),(ra 0 11),(ra 0 11),(ra 0 11++[12]),(ra 0 11++[12,13]),(ra 0 11++[12,13,14]),(ra 0 11++ra 12 4),(ra 0 17),(ra 0 18),(ra 0 19)] [] (by kernel_rfl) [_,_,_,.string s,_,_,_,vi i,.string (s.extract i s.size),.bool (qQ (s.extract i s.size) ⟨#[37,100]⟩),.bool (decide (qQ (s.extract i s.size) ⟨#[37,100]⟩=true)),_,_,(aG b 0),_,vi i,vi ((i+2:Nat):Int),.bool (uy s (i+2)),_,_] H (aF (Z0 rfl (Rm rfl)) (Z1 0 55 rfl (Rk rfl)) (Z1 1 56 rfl (Rf Ai rfl)) (Z1 2 57 rfl (Ro mg 0 rfl)) (aF (Z0 rfl (Rm rfl)) (Z1 4 59 rfl (Rk rfl)) (Z1 5 60 rfl (Rf wN rfl)) (Z1 6 61 rfl (Ro bR 0 rfl)) (aF ?_ ?_ ?_ (Z1 10 65 rfl (YM (aK c1) rfl)) (aF (Z1 10 65 rfl (YM (aK c1) rfl)) ?_ (Z2 13 68 10 65 rfl (YF wN (aK c1) rfl)) (Z2 14 69 10 65 rfl (YO bR 0 (aK c1) rfl)) (aF ?_ ?_ (Z2 10 65 17 72 rfl (Pt (aK c1) rfl)) (Z1 18 73 rfl (Ra rfl)) cZ))))) ?_
    · refine dH 3 58 7 62 rfl rfl fun _ a w G1 hG HT H fin=>?_;refine Vj i jG H wn rfl rfl rfl (by omega) rfl ?_;clear H;intro a H;exact fin H iJ rfl
    · refine eu 8 63 rfl rfl fun _ a w G1 hG HT H fin=>?_;refine s_call Rh H wn rfl (SH _ _ H.ro _ _ hex (by decide)) rfl ?_;clear H;rintro v64 G64 a w ⟨rfl,rfl⟩ Sq H;exact fin H Sq (rfl)
    · refine eu 9 64 rfl rfl fun _ a w G1 hG HT H fin=>?_;refine aD 1 H ?_;clear H;intro a H;exact fin H iJ (by show _=_;simp)
    · refine dH 12 67 10 65 rfl rfl fun _ a w G1 hG HT H fin=>?_;refine tY H (wg H rfl rfl (aK c1)) rfl rfl ?_;clear H;intro a H;exact fin H iJ rfl
    · refine dH 15 70 10 65 rfl rfl fun _ a w G1 hG HT H fin=>?_;refine KV _ H (wg H rfl rfl (aK c1)) rfl rfl rfl (by omega) (by omega) rfl ?_;clear H;intro a H;exact fin H iJ rfl
    · refine xI 11 66 16 71 10 65 rfl rfl fun _ a w G1 hG HT H fin=>?_;refine gF Yi (Li:=[]) (L:=gM b s i p (.slice A lit.length c) (.slice B parts.length d) pl e :: Lt) H (wg H rfl rfl (aK c1)) rfl (XP _ Lt _ b s i p _ _ pl e (i+2) (by omega) (Hp.owns (Li:=[]) H.hp)) rfl ?_;clear H;rintro v72 G72 L72 a w ⟨rfl,rfl,rfl⟩ Sr H;dsimp only [List.nil_append] at H;exact fin H Sr (rfl)
    clear H;intro a w G JL H hv;have H:=H.aN (hv 19 54 rfl rfl) rfl;clear hv;refine t0 1 H ?_;clear H;refine goC 0 ?_ ?_
    · intro tF
      try have p54:=dT tF
      have hd2:=XO tF;refine ak 1 ?_;intro a H;refine dI hmx [[],[],[1],[1,2],[1,2,3],[],[5],[5,6],[5,6,7],(ra 5 4),(ra 1 9),(ra 0 11)] [11] (by kernel_rfl) [_,_,_,_,.string s,_,_,_,vi i,_,.int .u8 (fZ s (i+2))] H (aF (Z0 rfl (Rm rfl)) (Z0 rfl (Rm rfl)) (Z1 1 75 rfl (Rk rfl)) (Z1 2 76 rfl (Rf Ai rfl)) (aF (Z1 3 77 rfl (Ro mg 0 rfl)) (Z0 rfl (Rm rfl)) (Z1 5 79 rfl (Rk rfl)) (Z1 6 80 rfl (Rf wN rfl)) (aF (Z1 7 81 rfl (Ro bR 0 rfl)) (Z1 8 82 rfl (Rd rfl)) ?_ (bQ rfl) cZ))) ?_
      · refine dH 4 78 9 83 rfl rfl fun _ a w G1 hG HT H fin=>?_;refine oL (i+2) jG H wn rfl rfl rfl hd2.1 rfl ?_;clear H;intro a H;rw [← kW] at H;exact fin H iJ rfl
      clear H;intro a w G nO H hv;have H:=H.aN (hv 0 74 rfl rfl) rfl;have H:=H.aN (hv 10 84 rfl rfl) rfl;clear hv;refine gF Yj (Li:=[]) (L:=gM b s i p (.slice A lit.length c) (.slice B parts.length d) pl e :: Lt) H wn rfl (by subst oZ;exact aby _ Lp Lo _ b s i p _ _ pl e lit parts (fZ s (i+2)) true hR (Hp.owns (Li:=[]) H.hp) (by omega) (by omega) hd2.2 (by omega)) rfl ?_;clear H;rintro v85 G85 L85 a w ⟨p46,asC,q46,I9,I8,rfl,BL⟩ atX H;dsimp only [List.nil_append] at H;obtain ⟨A46,c46,rfl,-,-⟩:=BL.buf.shape;obtain ⟨B46,d46,rfl,-,-⟩:=BL.prt.shape;refine aC ⟨rfl,?_⟩;refine dR ?_;refine fO 8 H ?_;clear H;intro a H;refine aV bR 0 (vs:=[_]) _ H wn rfl rfl rfl rfl rfl rfl rfl rfl ?_;clear H;intro w H;dsimp only [List.set,setRow] at H;refine aC ?_;refine (leave0 H results272 ?_).2
      have vZ:¬ qQ (s.extract i s.size) ⟨#[37,37]⟩=true:=by simp [h5]
      have vY:¬ uy s (i+1)=true:=by simp [h27]
      first
        | exact H.hp.dJ ⟨_,_,_,I9,I8,by rw [oK,ah vZ,ah vY,av ⟨c1,tF⟩];rfl,by rw [oK,ah vZ,ah vY,av ⟨c1,tF⟩];exact BL⟩
        | (have Dq:¬ (qQ (s.extract i s.size) ⟨#[37,100]⟩=true∧uy s (i+2)=true):=by simp_all
           exact H.hp.dJ ⟨_,_,_,Lp,Lo,by rw [oK,ah vZ,ah vY,ah Dq,oZ],by rw [oK,ah vZ,ah vY,ah Dq];exact hR⟩)
    intro tF
    try have p54:=dF tF
    refine ak 4 ?_;intro a H;refine aV iA 0 (vs:=[_]) _ H wn rfl rfl rfl rfl rfl rfl rfl rfl ?_;clear H;intro w H;dsimp only [List.set,setRow] at H;refine aC ?_;refine (leave0 H results272 ?_).2
    have vZ:¬ qQ (s.extract i s.size) ⟨#[37,37]⟩=true:=by simp [h5]
    have vY:¬ uy s (i+1)=true:=by simp [h27]
    first
      | exact H.hp.dJ ⟨_,_,_,I9,I8,by rw [oK,ah vZ,ah vY,av ⟨c1,tF⟩];rfl,by rw [oK,ah vZ,ah vY,av ⟨c1,tF⟩];exact BL⟩
      | (have Dq:¬ (qQ (s.extract i s.size) ⟨#[37,100]⟩=true∧uy s (i+2)=true):=by simp_all
         exact H.hp.dJ ⟨_,_,_,Lp,Lo,by rw [oK,ah vZ,ah vY,ah Dq,oZ],by rw [oK,ah vZ,ah vY,ah Dq];exact hR⟩)
  refine dI hmx [[],[0],[0,1],[0,1,2],[],[4],[4,5],[4,5,6],(ra 0 8),(ra 0 9),(ra 0 10),(ra 0 11),(ra 0 11),(ra 0 11++[12]),(ra 0 11++[12,13]),(ra 0 11++[12,13,14]),(ra 0 11++ra 12 4),(ra 0 17),(ra 0 18),(ra 0 19)] [] (by kernel_rfl) [_,_,_,.string s,_,_,_,vi i,.string (s.extract i s.size),.bool (qQ (s.extract i s.size) ⟨#[37,100]⟩),.bool (decide (qQ (s.extract i s.size) ⟨#[37,100]⟩=true)),undef,undef,undef,undef,undef,undef,undef,_,_] H (aF (Z0 rfl (Rm rfl)) (Z1 0 55 rfl (Rk rfl)) (Z1 1 56 rfl (Rf Ai rfl)) (Z1 2 57 rfl (Ro mg 0 rfl)) (aF (Z0 rfl (Rm rfl)) (Z1 4 59 rfl (Rk rfl)) (Z1 5 60 rfl (Rf wN rfl)) (Z1 6 61 rfl (Ro bR 0 rfl)) (aF ?_ ?_ ?_ (aZ 10 (bD c1) rfl rfl) (aF (aZ 10 (bD c1) rfl rfl) (aZ 10 (bD c1) rfl rfl) (aZ 10 (bD c1) rfl rfl) (aZ 10 (bD c1) rfl rfl) (aF (aZ 10 (bD c1) rfl rfl) (aZ 10 (bD c1) rfl rfl) (Z2 10 65 17 72 rfl (Pf (bD c1) rfl)) (Z1 18 73 rfl (Ra rfl)) cZ))))) ?_
  · refine dH 3 58 7 62 rfl rfl fun _ a w G1 hG HT H fin=>?_;refine Vj i jG H wn rfl rfl rfl (by omega) rfl ?_;clear H;intro a H;exact fin H iJ rfl
  · refine eu 8 63 rfl rfl fun _ a w G1 hG HT H fin=>?_;refine s_call Rh H wn rfl (SH _ _ H.ro _ _ hex (by decide)) rfl ?_;clear H;rintro v64 G64 a w ⟨rfl,rfl⟩ Sq H;exact fin H Sq (rfl)
  · refine eu 9 64 rfl rfl fun _ a w G1 hG HT H fin=>?_;refine aD 1 H ?_;clear H;intro a H;exact fin H iJ (by show _=_;simp)
  clear H;intro a w G JL H hv;have H:=H.aN (hv 19 54 rfl rfl) rfl;clear hv;refine t0 6 H ?_;clear H;intro a H;refine aV iA 0 (vs:=[_]) _ H wn rfl rfl rfl rfl rfl rfl rfl rfl ?_;clear H;intro w H;dsimp only [List.set,setRow] at H;refine aC ?_;refine (leave0 H results272 ?_).2
  have vZ:¬ qQ (s.extract i s.size) ⟨#[37,37]⟩=true:=by simp [h5]
  have vY:¬ uy s (i+1)=true:=by simp [h27]
  first
    | exact H.hp.dJ ⟨_,_,_,I9,I8,by rw [oK,ah vZ,ah vY,av ⟨c1,tF⟩];rfl,by rw [oK,ah vZ,ah vY,av ⟨c1,tF⟩];exact BL⟩
    | (have Dq:¬ (qQ (s.extract i s.size) ⟨#[37,100]⟩=true∧uy s (i+2)=true):=by simp_all
       exact H.hp.dJ ⟨_,_,_,Lp,Lo,by rw [oK,ah vZ,ah vY,ah Dq,oZ],by rw [oK,ah vZ,ah vY,ah Dq];exact hR⟩)
end
section
open Go.RowKit
theorem aiq:∀ args w,(callFunc 272 args).run prog w=.ok (.enter 272 args) w:=enters func272 rfl (by kernel_rfl)
def MF (s:ByteArray) (i:Nat):UInt8:=if h:i < s.size then s[i] else 0
theorem aeg (s:ByteArray) (i:Nat):fZ s i=((MF s i).toNat:Int):=by
 unfold fZ MF;split <;> rfl
def ou (s:ByteArray) (x:uj):uj:=if fZ s x.i=37 then oK s x else ⟨x.i+1,x.lit++[MF s x.i],x.parts,x.pl,x.e⟩
def Cr (s:ByteArray):Nat→uj→uj
 | 0,x=>x
 | f+1,x=>if x.i < s.size∧x.e=0 then Cr s f (ou s x) else x
def mS (s:ByteArray) (x:uj):Nat:=if x.e=0 then s.size - x.i else 0
theorem acj {s:ByteArray} {f:Nat} {x:uj} (h:¬ (x.i < s.size∧x.e=0)):Cr s f x=x:=by
 cases f with
 | zero=>rfl
 | succ f=>rw [Cr,ah h]
theorem akh (lit:List UInt8) (parts:List jm):(uE lit parts).length≤parts.length+1:=by unfold uE;split <;> simp
theorem acD (s:ByteArray) (x:uj) (h:x.i < s.size∧x.e=0) (h1:x.lit.length≤x.i) (h2:x.parts.length≤2*x.i) (h3:x.pl≤x.i) :
  (ou s x).i≤x.i+3∧(ou s x).lit.length≤(ou s x).i∧(ou s x).parts.length≤2*(ou s x).i∧(ou s x).pl≤(ou s x).i∧mS s (ou s x) < mS s x∧mS s x≤s.size:=by
 have hf:=akh x.lit x.parts;have hm:mS s x=s.size - x.i:=av h.2
 unfold ou oK
 split
 ·split
  ·refine ⟨?_,?_,?_,?_,?_,?_⟩ <;> simp only [mS,iC,ku,List.length_nil] at*<;> simp only [h.2,if_true] at*<;> omega
  split
  ·refine ⟨?_,?_,?_,?_,?_,?_⟩ <;> simp only [mS,iC,ku,List.length_nil] at*<;> simp only [h.2,if_true] at*<;> omega
  split
  ·refine ⟨?_,?_,?_,?_,?_,?_⟩ <;> simp only [mS,iC,ku,List.length_nil] at*<;> simp only [h.2,if_true] at*<;> omega
  refine ⟨?_,?_,?_,?_,?_,?_⟩ <;> simp only [mS,iC,ku,List.length_nil] at*<;> simp only [h.2,if_true] at*<;> (try omega) <;> (simp;omega)
 refine ⟨?_,?_,?_,?_,?_,?_⟩ <;> simp only [mS,iC,ku,List.length_nil] at*<;> simp only [h.2,if_true] at*<;> omega
def AZ:uj:=⟨0,[],[],0,0⟩
def kG (s:ByteArray):uj:=Cr s s.size AZ
def tZ (x:uj):Int:=if x.e=0∧9 < (x.pl:Int) then 9 else x.e
theorem aqU (G:GH) (Ml Mk:OL) (w0:World) (b:Nat) (s:ByteArray) (p0 v0 q0:aj) (hR:zY b [] [] p0 v0 q0 Ml Mk) (hO:fU G (wD b s AZ p0 v0 q0 :: (Ml++Mk)) w0) (hs:s.size≤1073741824) :
  Calls prog 266 #[(aG b 0)] w0 (fJ w0 G (wD b s AZ p0 v0 q0 :: (Ml++Mk)) fun u G' L'=>∃ p' v' q' qw kJ,L'=gM b s (kG s).i p' v' q' (kG s).pl (tZ (kG s)) :: (qw++kJ)∧zY b [] (uE (kG s).lit (kG s).parts) p' v' q' qw kJ):=by
 obtain ⟨A0,c0,rfl,-,-⟩:=hR.buf.shape;obtain ⟨B0,d0,rfl,-,-⟩:=hR.prt.shape;refine jg (N:=68) (T:=[(0,_)]) func266 rfl ntmps266 rfl rfl hO ?_;intro a H;refine vJ (fun _ K1=>?_);refine MI ?_;skip;refine eH (ι:=Nat × uj × aj × Option Addr × Nat × Option Addr × Nat × OL × OL × GH) (Tc:=[(0,_)]) (Lc:=[]) (fun gh=>[]) (fun gh=>[wD b s gh.2.1 gh.2.2.1 (.slice gh.2.2.2.1 gh.2.1.lit.length gh.2.2.2.2.1) (.slice gh.2.2.2.2.2.1 gh.2.1.parts.length gh.2.2.2.2.2.2.1)]++(gh.2.2.2.2.2.2.2.1++gh.2.2.2.2.2.2.2.2.1)) (fun gh=>gh.2.2.2.2.2.2.2.2.2) (fun gh=>zY b gh.2.1.lit gh.2.1.parts gh.2.2.1 (.slice gh.2.2.2.1 gh.2.1.lit.length gh.2.2.2.2.1) (.slice gh.2.2.2.2.2.1 gh.2.1.parts.length gh.2.2.2.2.2.2.1) gh.2.2.2.2.2.2.2.1 gh.2.2.2.2.2.2.2.2.1∧Cr s gh.1 gh.2.1=kG s∧mS s gh.2.1≤gh.1∧gh.1≤s.size∧gh.2.1.i≤s.size+3∧gh.2.1.lit.length≤gh.2.1.i∧gh.2.1.parts.length≤2*gh.2.1.i∧gh.2.1.pl≤gh.2.1.i) (fun gh=>gh.1) ((s.size,AZ,p0,A0,c0,B0,d0,Ml,Mk,G)) (by exact (H).sub ⟨rfl,aU⟩) ?_ ?_
 ·exact ⟨hR,rfl,by simp [mS,AZ],bP _,by simp [AZ],by simp [AZ],by simp [AZ],by simp [AZ]⟩
 clear H;rintro ⟨k,x,p,vA,vc,qA,qc,Lp,Lo,g⟩ a w hI H;dsimp only at hI H;obtain ⟨hR,hsc,hmk,hks,hxi,hx1,hx2,hx3⟩:=hI;dsimp only [lca,bG] at H;refine vJ (fun _ K2=>?_);refine vJ (fun _ K3=>?_)
 by_cases c0:(x.i:Int) < (s.size:Int)
 ·skip
  by_cases c1:x.e=0
  ·skip;refine dI hmx [[],[0],[0,1],[0,1,2],[],[4],[4,5],[4,5,6],(ra 4 4),(ra 0 9),(ra 0 10),(ra 0 11),(ra 0 12),(ra 0 13),(ra 0 14),(ra 0 15),(ra 0 16)] [] (by kernel_rfl) [_,_,_,vi x.i,_,_,_,.string s,_,_,_,_,(aG b 0),_,vi x.e,_,_] H (aF (Z0 rfl (Rm rfl)) (Z1 0 2 rfl (Rk rfl)) (Z1 1 3 rfl (Rf wN rfl)) (Z1 2 4 rfl (Ro bR 0 rfl)) (aF (Z0 rfl (Rm rfl)) (Z1 4 6 rfl (Rk rfl)) (Z1 5 7 rfl (Rf Ai rfl)) (Z1 6 8 rfl (Ro mg 0 rfl)) (aF (Z1 7 9 rfl (Rv jG rfl)) (Z2 3 5 8 10 rfl (Rc rfl)) (Z1 9 11 rfl (Rm rfl)) (Z1 10 12 rfl (YM (aK c0) rfl)) (aF ?_ (Z2 12 14 10 12 rfl (YF Et (aK c0) rfl)) (Z2 13 15 10 12 rfl (YO iA 0 (aK c0) rfl)) (Z2 14 16 10 12 rfl (YC (aK c0) rfl)) (bH (Z2 10 12 15 17 rfl (Pt (aK c0) rfl)) cZ))))) ?_
   ·refine dH 11 13 10 12 rfl rfl fun _ a w G1 hG HT H fin=>?_;refine tY H (wg H rfl rfl (aK c0)) rfl rfl ?_;clear H;intro a H;exact fin H iJ rfl
   clear H;intro a w G Y8 H hv;have H:=H.aN (hv 16 18 rfl rfl) rfl;clear hv;refine aC ⟨rfl,?_⟩;refine K3 _ _ ?_;clear K3;refine Xg H rfl (aK c1) ?_;refine kP H (Kc K2 (SB (SQ fun _ K4=>SQ fun _ K5=>?_)));clear H K2;intro a H;refine dI hmx [[],[0],[0,1],[0,1,2],[],[4],[4,5],[4,5,6],(ra 0 8),(ra 0 9)] [] (by kernel_rfl) [_,_,_,.string s,_,_,_,vi x.i,.int .u8 (fZ s x.i),_] H (aF (Z0 rfl (Rm rfl)) (Z1 0 19 rfl (Rk rfl)) (Z1 1 20 rfl (Rf Ai rfl)) (Z1 2 21 rfl (Ro mg 0 rfl)) (aF (Z0 rfl (Rm rfl)) (Z1 4 23 rfl (Rk rfl)) (Z1 5 24 rfl (Rf wN rfl)) (Z1 6 25 rfl (Ro bR 0 rfl)) (bH ?_ (bH (Z1 8 27 rfl (Rc rfl)) cZ)))) ?_
   ·refine dH 3 22 7 26 rfl rfl fun _ a w G1 hG HT H fin=>?_;refine oL x.i jG H wn rfl rfl rfl (by omega) rfl ?_;clear H;intro a H;rw [← kW] at H;exact fin H iJ rfl
   clear H;intro a w G iP H hv;have H:=H.aN (hv 9 28 rfl rfl) rfl;clear hv;refine aC ⟨rfl,?_⟩;refine K5 _ _ ?_;clear K5;refine Xf H rfl ?_ ?_
   ·intro vO
    try have p28:=dT vO
    refine kP H (SQ fun _ K6=>SC (Rm rfl ?_));clear H;intro a H;refine gF aiq (Li:=[]) (L:=wD b s x p (.slice vA x.lit.length vc) (.slice qA x.parts.length qc) :: (Lp++Lo)) H wn rfl (apl _ Lp Lo _ b s x p _ _ hR (Hp.owns (Li:=[]) H.hp) (by omega) (by omega) (by omega) (by omega) (by omega)) rfl ?_;clear H;rintro v30 zV L30 a w ⟨p',v',q',qw,kJ,rfl,Nz⟩ Au H;dsimp only [List.nil_append] at H;have hst:ou s x=oK s x:=av p28;have hok:=acD s x ⟨by omega,c1⟩ hx1 hx2 hx3
    have hkk:k=(k - 1)+1:=by omega
    have TL:Cr s (k - 1) (ou s x)=kG s:=by rw [hkk,Cr,av ⟨by omega,c1⟩] at hsc;exact hsc
    rw [← hst] at H Nz;obtain ⟨A30,c30,rfl,-,-⟩:=Nz.buf.shape;obtain ⟨B30,d30,rfl,-,-⟩:=Nz.prt.shape;refine aC ?_;refine K6 _ _ ?_;clear K6;refine yS ?_;refine cB ((k - 1,ou s x,p',A30,c30,B30,d30,qw,kJ,zV)) (by exact (H).sub ⟨rfl,aU⟩) ?_ ?_
    ·(try dsimp only);exact ⟨Nz,TL,by omega,by omega,by omega,by omega,by omega,by omega⟩
    first|omega|(dsimp only;omega)
   intro vO
   try have p28:=dF vO
   refine jB ?_;refine K4 _ _ ?_;clear K4;refine vJ (fun _ K7=>?_);refine dI hmx [[],[0],[0,1],[],[3],[3,4],[3,4,5],[],[7],[7,8],[7,8,9],(ra 3 8),(ra 0 12)] [12] (by kernel_rfl) [_,_,_,_,_,_,.string s,_,_,_,vi x.i,.int .u8 (fZ s x.i)] H (aF (Z0 rfl (Rm rfl)) (Z1 0 31 rfl (Rk rfl)) (Z1 1 32 rfl (Rf ajQ rfl)) (Z0 rfl (Rm rfl)) (aF (Z1 3 34 rfl (Rk rfl)) (Z1 4 35 rfl (Rf Ai rfl)) (Z1 5 36 rfl (Ro mg 0 rfl)) (Z0 rfl (Rm rfl)) (aF (Z1 7 38 rfl (Rk rfl)) (Z1 8 39 rfl (Rf wN rfl)) (Z1 9 40 rfl (Ro bR 0 rfl)) ?_ (bH (bQ rfl) cZ)))) ?_
   ·refine dH 6 37 10 41 rfl rfl fun _ a w G1 hG HT H fin=>?_;refine oL x.i jG H wn rfl rfl rfl (by omega) rfl ?_;clear H;intro a H;rw [← kW] at H;exact fin H iJ rfl
   clear H;intro a w G tH H hv;have H:=H.aN (hv 2 33 rfl rfl) rfl;have H:=H.aN (hv 11 42 rfl rfl) rfl;clear hv;refine gF Yh (Li:=[]) (L:=wD b s x p (.slice vA x.lit.length vc) (.slice qA x.parts.length qc) :: (Lp++Lo)) H wn rfl (adi _ Lp Lo _ b s x.i p _ qA x.parts.length qc x.pl x.e x.lit.length _ (fZ s x.i) hR.ptr (Hp.owns (Li:=[]) H.hp) hR.buf (by omega)) rfl ?_;clear H;rintro v43 _ L43 a w ⟨auy,Qd,rfl,aam,rfl⟩ BQ H;dsimp only [List.nil_append] at H;obtain ⟨PS,Qt,rfl,-,-⟩:=aam.shape;have hst:ou s x=⟨x.i+1,x.lit++[MF s x.i],x.parts,x.pl,x.e⟩:=ah p28;have hok:=acD s x ⟨by omega,c1⟩ hx1 hx2 hx3
   have hkk:k=(k - 1)+1:=by omega
   have TL:Cr s (k - 1) (ou s x)=kG s:=by rw [hkk,Cr,av ⟨by omega,c1⟩] at hsc;exact hsc
   have akY:zY b (ou s x).lit (ou s x).parts (aG b 2) (.slice PS (ou s x).lit.length Qt) (.slice qA (ou s x).parts.length qc) Lp Qd:=by
    rw [hst];exact ⟨.inr rfl,by simpa [Lib.byteCells,aeg] using aam,hR.prt⟩
   refine aC ⟨rfl,?_⟩;refine K7 _ _ ?_;clear K7;refine kP H (SC (Rm rfl (Rk rfl (Jb wN bR 0 rfl rfl (Rd rfl (Rk rfl (Rf wN rfl ?_)))))));clear H;intro a H;refine aV bR 0 (vs:=[_]) _ H wn rfl rfl rfl rfl rfl rfl rfl rfl ?_;clear H;intro w H;dsimp only [List.set,setRow] at H;replace H:St _ _ _ _ _ _ (wD b s (ou s x) (aG b 2) (.slice PS (ou s x).lit.length Qt) (.slice qA (ou s x).parts.length qc) :: (Lp++Qd)) _ _ _:=H.cast (by rw [hst];simp [wD,gM]);refine aC ?_;refine cB ((k - 1,ou s x,(aG b 2),PS,Qt,qA,qc,Lp,Qd,_)) (by exact (H).sub ⟨rfl,aU⟩) ?_ ?_
   ·(try dsimp only);exact ⟨akY,TL,by omega,by omega,by omega,by omega,by omega,by omega⟩
   first|omega|(dsimp only;omega)
  skip;refine dI hmx [[],[0],[0,1],[0,1,2],[],[4],[4,5],[4,5,6],(ra 4 4),(ra 0 9),(ra 0 10),(ra 0 11),(ra 0 12),(ra 0 13),(ra 0 14),(ra 0 15),(ra 0 16)] [] (by kernel_rfl) [_,_,_,vi x.i,_,_,_,.string s,_,_,_,_,(aG b 0),_,vi x.e,_,_] H (aF (Z0 rfl (Rm rfl)) (Z1 0 2 rfl (Rk rfl)) (Z1 1 3 rfl (Rf wN rfl)) (Z1 2 4 rfl (Ro bR 0 rfl)) (aF (Z0 rfl (Rm rfl)) (Z1 4 6 rfl (Rk rfl)) (Z1 5 7 rfl (Rf Ai rfl)) (Z1 6 8 rfl (Ro mg 0 rfl)) (aF (Z1 7 9 rfl (Rv jG rfl)) (Z2 3 5 8 10 rfl (Rc rfl)) (Z1 9 11 rfl (Rm rfl)) (Z1 10 12 rfl (YM (aK c0) rfl)) (aF ?_ (Z2 12 14 10 12 rfl (YF Et (aK c0) rfl)) (Z2 13 15 10 12 rfl (YO iA 0 (aK c0) rfl)) (Z2 14 16 10 12 rfl (YC (aK c0) rfl)) (bH (Z2 10 12 15 17 rfl (Pt (aK c0) rfl)) cZ))))) ?_
  ·refine dH 11 13 10 12 rfl rfl fun _ a w G1 hG HT H fin=>?_;refine tY H (wg H rfl rfl (aK c0)) rfl rfl ?_;clear H;intro a H;exact fin H iJ rfl
  clear H;intro a w G Y8 H hv;have H:=H.aN (hv 16 18 rfl rfl) rfl;clear hv;refine aC ⟨rfl,?_⟩;refine K3 _ _ ?_;clear K3;refine Qu H rfl (bD c1) ?_;refine yS ?_;refine K1 _ _ ?_;clear K1;refine vJ (fun _ K8=>?_)
  have Ua:x=kG s:=by
   rw [acj (by first|exact fun h=>c0 (by omega)|exact fun h=>c1 h.2)] at hsc;exact hsc
  subst Ua;refine kP H (SC (Rm rfl ?_));clear H;intro a H;refine gF Rb (Li:=[]) (L:=wD b s (kG s) p (.slice vA (kG s).lit.length vc) (.slice qA (kG s).parts.length qc) :: (Lp++Lo)) H wn rfl (RZ _ Lp Lo _ b s (kG s).i p _ _ (kG s).pl (kG s).e (kG s).lit (kG s).parts hR (Hp.owns (Li:=[]) H.hp) (by omega) (by omega)) rfl ?_;clear H;rintro v52 Wj L52 a w ⟨p52,asD,q52,adQ,adM,rfl,rP⟩ amj H;dsimp only [List.nil_append] at H;obtain ⟨yK,yQ,rfl,-,-⟩:=rP.buf.shape;obtain ⟨B52,d52,rfl,-,-⟩:=rP.prt.shape;refine kH H (Kn K8 (SQ fun _ K9=>SC (Rm rfl (Rk rfl (Jb Et iA 0 rfl rfl (Rc rfl (Rm rfl (Sp 58 rfl ?_ ?_)))))))) <;> clear H K8
  ·intro ny a H
   try have p58:=dT ny
   refine kH H (YM ny rfl ?_);clear H;intro a H;refine tY H (wg H rfl rfl ny) rfl rfl ?_;clear H;intro a H;refine kH H (YF YA ny rfl (YO bR 0 ny rfl (YC ny rfl (Pt ny rfl (Kn K9 (Cd rfl ?_ ?_)))))) <;> clear H K9
   ·intro h64 a H
    try have p64:=dT h64
    refine kP H (SC (Rm rfl (Rk rfl (Rf Et rfl ?_))));clear H;intro a H;refine aV iA 0 (vs:=[_]) _ H wn rfl rfl rfl rfl rfl rfl rfl rfl ?_;clear H;intro w H;dsimp only [List.set,setRow] at H;refine aC ?_;refine (leave0 H results266 ?_).2
    first
     | exact H.hp.dJ ⟨_,_,_,_,_,by rw [tZ,av ⟨by assumption,by assumption⟩],rP⟩
     | exact H.hp.dJ ⟨_,_,_,_,_,by rw [tZ,ah (by first|exact fun h=>p58 h.1|exact fun h=>p64 h.2)],rP⟩
   intro h64 a H
   try have p64:=dF h64
   refine jB ?_;refine (leave0 H results266 ?_).2
   first
    | exact H.hp.dJ ⟨_,_,_,_,_,by rw [tZ,av ⟨by assumption,by assumption⟩],rP⟩
    | exact H.hp.dJ ⟨_,_,_,_,_,by rw [tZ,ah (by first|exact fun h=>p58 h.1|exact fun h=>p64 h.2)],rP⟩
  intro ny a H
  try have p58:=dF ny
  refine kH H (jR ny rfl (nK ny rfl (Pf ny rfl (Kn K9 (Cf rfl rfl ?_)))));clear H K9;intro a H;refine jB ?_;refine (leave0 H results266 ?_).2
  first
   | exact H.hp.dJ ⟨_,_,_,_,_,by rw [tZ,av ⟨by assumption,by assumption⟩],rP⟩
   | exact H.hp.dJ ⟨_,_,_,_,_,by rw [tZ,ah (by first|exact fun h=>p58 h.1|exact fun h=>p64 h.2)],rP⟩
 skip;refine dI hmx [[],[0],[0,1],[0,1,2],[],[4],[4,5],[4,5,6],(ra 4 4),(ra 0 9),(ra 0 10),(ra 0 11),(ra 0 12),(ra 0 13),(ra 0 14),(ra 0 15),(ra 0 16)] [] (by kernel_rfl) [_,_,_,vi x.i,_,_,_,.string s,_,_,_,undef,undef,undef,undef,undef,_] H (aF (Z0 rfl (Rm rfl)) (Z1 0 2 rfl (Rk rfl)) (Z1 1 3 rfl (Rf wN rfl)) (Z1 2 4 rfl (Ro bR 0 rfl)) (aF (Z0 rfl (Rm rfl)) (Z1 4 6 rfl (Rk rfl)) (Z1 5 7 rfl (Rf Ai rfl)) (Z1 6 8 rfl (Ro mg 0 rfl)) (aF (Z1 7 9 rfl (Rv jG rfl)) (Z2 3 5 8 10 rfl (Rc rfl)) (Z1 9 11 rfl (Rm rfl)) (aZ 10 (bD c0) rfl rfl) (aF (aZ 10 (bD c0) rfl rfl) (aZ 10 (bD c0) rfl rfl) (aZ 10 (bD c0) rfl rfl) (aZ 10 (bD c0) rfl rfl) (bH (Z2 10 12 15 17 rfl (Pf (bD c0) rfl)) cZ))))) ?_
 clear H;intro a w G Y8 H hv;have H:=H.aN (hv 16 18 rfl rfl) rfl;clear hv;refine aC ⟨rfl,?_⟩;refine K3 _ _ ?_;clear K3;refine Qu H rfl rfl ?_;refine yS ?_;refine K1 _ _ ?_;clear K1;refine vJ (fun _ vB=>?_)
 have Ua:x=kG s:=by
  rw [acj (by first|exact fun h=>c0 (by omega)|exact fun h=>c1 h.2)] at hsc;exact hsc
 subst Ua;refine kP H (SC (Rm rfl ?_));clear H;intro a H;refine gF Rb (Li:=[]) (L:=wD b s (kG s) p (.slice vA (kG s).lit.length vc) (.slice qA (kG s).parts.length qc) :: (Lp++Lo)) H wn rfl (RZ _ Lp Lo _ b s (kG s).i p _ _ (kG s).pl (kG s).e (kG s).lit (kG s).parts hR (Hp.owns (Li:=[]) H.hp) (by omega) (by omega)) rfl ?_;clear H;rintro v52 Wj L52 a w ⟨p52,asD,q52,adQ,adM,rfl,rP⟩ amj H;dsimp only [List.nil_append] at H;obtain ⟨yK,yQ,rfl,-,-⟩:=rP.buf.shape;obtain ⟨B52,d52,rfl,-,-⟩:=rP.prt.shape;refine kH H (Kn vB (SQ fun _ nJ=>SC (Rm rfl (Rk rfl (Jb Et iA 0 rfl rfl (Rc rfl (Rm rfl (Sp 58 rfl ?_ ?_)))))))) <;> clear H vB
 ·intro ny a H
  try have p58:=dT ny
  refine kH H (YM ny rfl ?_);clear H;intro a H;refine tY H (wg H rfl rfl ny) rfl rfl ?_;clear H;intro a H;refine kH H (YF YA ny rfl (YO bR 0 ny rfl (YC ny rfl (Pt ny rfl (Kn nJ (Cd rfl ?_ ?_)))))) <;> clear H nJ
  ·intro h64 a H
   try have p64:=dT h64
   refine kP H (SC (Rm rfl (Rk rfl (Rf Et rfl ?_))));clear H;intro a H;refine aV iA 0 (vs:=[_]) _ H wn rfl rfl rfl rfl rfl rfl rfl rfl ?_;clear H;intro w H;dsimp only [List.set,setRow] at H;refine aC ?_;refine (leave0 H results266 ?_).2
   first
    | exact H.hp.dJ ⟨_,_,_,_,_,by rw [tZ,av ⟨by assumption,by assumption⟩],rP⟩
    | exact H.hp.dJ ⟨_,_,_,_,_,by rw [tZ,ah (by first|exact fun h=>p58 h.1|exact fun h=>p64 h.2)],rP⟩
  intro h64 a H
  try have p64:=dF h64
  refine jB ?_;refine (leave0 H results266 ?_).2
  first
   | exact H.hp.dJ ⟨_,_,_,_,_,by rw [tZ,av ⟨by assumption,by assumption⟩],rP⟩
   | exact H.hp.dJ ⟨_,_,_,_,_,by rw [tZ,ah (by first|exact fun h=>p58 h.1|exact fun h=>p64 h.2)],rP⟩
 intro ny a H
 try have p58:=dF ny
 refine kH H (jR ny rfl (nK ny rfl (Pf ny rfl (Kn nJ (Cf rfl rfl ?_)))));clear H nJ;intro a H;refine jB ?_;refine (leave0 H results266 ?_).2
 first
  | exact H.hp.dJ ⟨_,_,_,_,_,by rw [tZ,av ⟨by assumption,by assumption⟩],rP⟩
  | exact H.hp.dJ ⟨_,_,_,_,_,by rw [tZ,ah (by first|exact fun h=>p58 h.1|exact fun h=>p64 h.2)],rP⟩
end
section
open Go.RowKit
def zP (c:Int):List Dat:=[.lf (.int .u8 c)]
theorem acN {G:GH} {c:Int} {cs:List aj} (h:aW G (zP c) cs):cs=[.int .u8 c]:=by
 simp only [zP,aW,au] at h
 obtain ⟨_,_,rfl,⟨rfl,_⟩,rfl⟩:=h
 rfl
def Gq (s:ByteArray):List Int:=s.data.toList.map fun b=>(b.toNat:Int)
theorem aeo (G:GH) (l:List Int):bU G 1 (l.map zP) (l.map fun c=>Value.int .u8 c):=by
 refine ⟨l.map fun c=>[.int .u8 c],by induction l with|nil=>rfl|cons x r ih=>simp [ih],by simp,fun j r cs hr hc=>?_⟩
 rw [qM] at hr hc
 obtain ⟨x,hx,rfl⟩:=oP.1 hr
 rw [hx] at hc
 cases hc
 exact ⟨by simp only [zP,aW];exact ⟨_,_,rfl,by simp [au,Value.oneCell'],rfl⟩,rfl⟩
theorem apN {G:GH} {sz b o n cap:Nat} {cur:Array aj} {e:TypeId} {fz:Nat × Nat} {rows:List (List Dat)} (hb:G b=some (.cells cur e fz)) (h:au (fun k=>if k=b then some (.cells cur e (0,0)) else G k) (.sl sz rows) (.slice (some ⟨b,o,none⟩) n cap)) (hr:∀ r∈rows,∃ c,r=zP c):au G (.sl sz rows) (.slice (some ⟨b,o,none⟩) n cap):=by
 simp only [au] at h ⊢
 obtain ⟨A,c,h1,h2,h3,h4⟩:=h
 refine ⟨A,c,h1,h2,h3,fun hn=>?_⟩
 obtain ⟨b',o',e',hrr⟩:=h4 hn
 injection h1 with e1
 subst e1
 injection e' with e2
 injection e2 with e3 e4
 subst e3;subst e4
 refine ⟨_,_,rfl,mh.mk fun k r hk=>?_⟩
 obtain ⟨cs,g1,g2,g3⟩:=hrr.get hk
 refine ⟨cs,g1,fun j u hj=>?_,?_⟩
 ·have:=g2 j u hj
  unfold aI at this ⊢
  simp only [if_true] at this
  rw [hb];exact this
 ·obtain ⟨c,rfl⟩:=hr r (kr hk)
  have:=acN g3
  subst this
  simp only [zP,aW];exact ⟨_,_,rfl,by simp [au,Value.oneCell'],rfl⟩
section
variable {N:Nat} {D:List Deferred} {w0:World} {F:Nat→Prop} {G0 G:GH} {L:OL} {T:List (Nat × aj)}
variable {r:Option Nat} {P:Program} {ops:Array Oper} {Q:Exit→Act→World→Prop} {rest:List Oper} {a:Act} {w:World}
variable {d:Nat} {ty:TypeId} {pos:String} {aO:Array Edge} {g:Option (Nat × Bool)}
theorem asv {w:World} {b o n:Nat} {c:Array aj} {e:TypeId} {fz:Nat × Nat} (h:w.heap[b]?=some (.cells c e fz)) (hn:n≠0):∃ Ew,um b (.cells c e Ew) w (w.freeze ⟨b,o,none⟩ n):=by
 unfold World.freeze
 rw [ah hn]
 refine ⟨if fz.1 == fz.2 then (o,o+n) else (min fz.1 o,max fz.2 (o+n)),rfl,rfl,rfl,by simp,?_,fun k hk=>?_⟩
 ·simp [Array.getElem?_modify,h]
 ·simp [Array.getElem?_modify,Ne.symm hk]
theorem aqv {t u e:TypeId} {x:Operand} {s:ByteArray} (ht:P.underlying t=some .string) (hu:P.underlying u=some (.slice e)) (he:P.underlying e=some (.int .u8)) (H:St N D w0 F G0 G L T a w) (hw:Region.wanted ⟨some d,.convert t u x,ty,pos,aO,g⟩ (yielded ops a.tmps)=true) (hx:ev T x=some (.string s)) (hz:s.size≤4294967296) (hd:Nat.blt d N=true)
  (k:∀ v G' a' w',(∀ k o,G k=some o→G' k=some o)→au G' (.sl 1 ((Gq s).map zP)) v→St N D w0 F G0 G' L ((d,v) :: T) a' w'→WL r P ops Q rest a' w'):WL r P ops Q (⟨some d,.convert t u x,ty,pos,aO,g⟩ :: rest) a w:=by
 have hc:=Lib.run_convert_string_bytes (P:=P) w t u e s ht hu he
 have hge:=grownCap_ge w s.size 0 e
 have hml:s.size≤maxLen:=by
  have:maxLen=9223372036854775807:=rfl
  omega
 have hgm:=grownCap_le_maxLen w s.size 0 e hml
 have H1:=H.hp.drew.alloc (.cells (Lib.bytesCells w e s) e)
 have hw1:(w.drew.alloc (.cells (Lib.bytesCells w e s) e)).heap[w.drew.heap.size]?=some (.cells (Lib.bytesCells w e s) e (0,0)):=H1.own _ fM
 obtain ⟨fz,hu2⟩:=asv (o:=(Lib.bytesCells w e s).size) (n:=1) hw1 (by decide)
 have H2:=H1.upd (i:=0) rfl hu2
 have H3:St N D w0 F G0 G ((w.heap.size,.cells (Lib.bytesCells w e s) e fz) :: L) ((d,.slice (some ⟨w.heap.size,0,none⟩) s.size (grownCap w s.size 0 e)) :: T) (a.put (some d) (.slice (some ⟨w.heap.size,0,none⟩) s.size (grownCap w s.size 0 e))) (Lib.bytesWorld w e s):=H.put hd _ H2
 obtain ⟨G',hm,hb,H4⟩:=H3.dZ
 have hlen:(Gq s).length=s.size:=by rw [Gq,bM,sP];rfl
 have hrep:au G' (.sl 1 ((Gq s).map zP)) (.slice (some ⟨w.heap.size,0,none⟩) s.size (grownCap w s.size 0 e)):=by
  refine apN hb ?_ (fun r hr=>by obtain ⟨c,-,rfl⟩:=List.mem_map.1 hr;exact ⟨c,rfl⟩)
  refine au.eX (cur:=Lib.bytesCells w e s) (e:=e) (n:=s.size) (cap:=grownCap w s.size 0 e) (by simp) (by rw [bM,hlen]) hge hgm ?_ (aeo _ _)
  rw [Lib.bytesCells,Array.toList_append,Nat.mul_one,List.take_left' (by rw [Array.toList_map,bM,sP];rfl)]
  simp [Gq]
 have k2:=k _ _ _ _ hm hrep H4
 refine eZ (v:=.slice (some ⟨w.heap.size,0,none⟩) s.size (grownCap w s.size 0 e)) (w':=Lib.bytesWorld w e s) hw rfl ?_ k2
 simp only [execOp,H.ev hx,dU,hc,lN,qN]
theorem aqB {t yt:TypeId} {x y:Operand} {p q:ByteArray} (H:St N D w0 F G0 G L T a w) (hw:Region.wanted ⟨some d,.binOp .lss t x y yt,ty,pos,aO,g⟩ (yielded ops a.tmps)=true) (hx:ev T x=some (.string p)) (hy:ev T y=some (.string q)) (hd:Nat.blt d N=true)
  (k:∀ a',St N D w0 F G0 G L ((d,.bool (Op.bytesLess p.toList q.toList)) :: T) a' w→WL r P ops Q rest a' w):WL r P ops Q (⟨some d,.binOp .lss t x y yt,ty,pos,aO,g⟩ :: rest) a w:=by
 refine eZ (v:=.bool (Op.bytesLess p.toList q.toList)) (w':=w) hw rfl ?_ (k _ (H.put hd _ H.hp))
 simp [execOp,H.ev hx,H.ev hy,dU,eqGuard,binOp,Op.stringOp]
end
end
section
open Go.RowKit
theorem aip:∀ args w,(callFunc 271 args).run prog w=.ok (.enter 271 args) w:=enters func271 rfl (by kernel_rfl)
theorem ail:∀ args w,(callFunc 266 args).run prog w=.ok (.enter 266 args) w:=enters func266 rfl (by kernel_rfl)
theorem aij:∀ args w,(callFunc 264 args).run prog w=.ok (.enter 264 args) w:=enters func264 rfl (by kernel_rfl)
theorem arQ:oO prog 340 [(0,1),(1,1),(2,2),(4,1),(5,1),(6,1)] [.string ⟨#[]⟩,.int .i64 0,.pointer none,.slice none 0 0,.slice none 0 0,.int .i64 0,.int .i64 0]:=⟨by kernel_rfl,by kernel_rfl⟩
theorem ain:∀ args w,(callFunc 267 args).run prog w=.ok (.enter 267 args) w:=enters func267 rfl (by kernel_rfl)
instance:dS prog 318 1 1:=⟨by kernel_rfl⟩
theorem ahU:∀ args w,(callFunc 246 args).run prog w=.ok (.enter 246 args) w:=enters func246 rfl (by kernel_rfl)
theorem ahV:∀ args w,(callFunc 247 args).run prog w=.ok (.enter 247 args) w:=enters func247 rfl (by kernel_rfl)
theorem aik:∀ args w,(callFunc 265 args).run prog w=.ok (.enter 265 args) w:=enters func265 rfl (by kernel_rfl)
theorem ahW:∀ args w,(callFunc 248 args).run prog w=.ok (.enter 248 args) w:=enters func248 rfl (by kernel_rfl)
def Qm (fv:aj) (G:GH) (c:Int) (b:Bool):Prop:=∀ (G1:GH) (w1:World),(∀ b o,G b=some o→G1 b=some o)→Hold G1 w1→qp prog fv [.int .u8 c] w1 (bB w1 G1 fun u G'=>u=.bool b)
theorem anC (G:GH) (w0:World) (hG:Hold G w0) (l:List Int) (p:Int→Bool) (v fv:aj) (hv:au G (.sl 1 (l.map zP)) v) (hf:∀ c∈l,Qm fv G c (p c)) :
  Calls prog 271 #[v,fv] w0 (bB w0 G fun u G'=>u=vi (mJ (l.findIdx? p))):=by
 obtain ⟨A,c,rfl,hc1,hc2,hg⟩:=hv.slice;have hml:maxLen=9223372036854775807:=rfl;rw [bM] at *;refine eN [(0,_),(1,_)] func271 rfl ntmps271 rfl rfl hG ?_;refine ak 10 ?_;intro a H;refine eH (ι:=Nat × GH) (Tc:=[(0,_),(1,_),(7,_)]) (Lc:=[]) (fun gh=>[(8,vi gh.1)]) (fun gh=>[]) (fun gh=>gh.2) (fun gh=>gh.1≤l.length∧(l.take gh.1).findIdx? p=none∧(∀ b o,G b=some o→gh.2 b=some o)) (fun gh=>l.length - gh.1) ((0,G)) sB ?_ ?_
 ·exact ⟨by omega,rfl,fun _ _ h=>h⟩
 clear H;rintro ⟨k,g⟩ a w hI H;dsimp only at hI H;obtain ⟨hk,hno,hgm⟩:=hI;dsimp only [lca,bG] at H;refine dQ 4 H ?_ ?_ <;> clear H
 ·intro p9
  have hk2:k < l.length:=by omega
  obtain ⟨b,o,cs,rfl,hcl,hrow,hr⟩:=hg k (zP l[k]) (by simp [hk2]);obtain rfl:=acN hr
  have hcell:aI G b (o+k*1)=some (.int .u8 l[k]):=by simpa using hrow 0 _ rfl
  refine ak 12 ?_;intro a H;refine iF Vx H wn rfl (H.hp.aI (aH hgm hcell)) rfl ?_;clear H;intro a H;refine ji H wn rfl rfl (hf _ (lD hk2) _ _ hgm H.ro) rfl ?_;clear H;rintro v16 nV a w rfl jv H;refine iU 1 H ?_ ?_ <;> clear H
  ·intro h16
   try have p16:=dT h16
   refine aQ 4 ?_
   first
    | exact (by rw [rW hk2 hno h16];rfl)
    | exact (by rw [show l.take k=l from fK (by omega)] at hno;rw [hno];rfl)
  intro h16
  try have p16:=dF h16
  refine ak 4 ?_;intro a H;refine aC ?_;refine cB ((k+1,nV)) sB ?_ ?_
  ·(try dsimp only);exact ⟨by omega,Cc hk2 hno h16,fun b o h=>jv b o (hgm b o h)⟩
  first|omega|(dsimp only;omega)
 intro p9
 refine aQ 4 ?_
 first
  | exact (by rw [rW hk2 hno h16];rfl)
  | exact (by rw [show l.take k=l from fK (by omega)] at hno;rw [hno];rfl)
theorem Uj (o:Option Nat):decide (0≤mJ o)=o.isSome:=by cases o <;> simp [mJ]
theorem afO (G:GH) (w0:World) (hG:Hold G w0) (l:List Int) (p:Int→Bool) (v fv:aj) (hv:au G (.sl 1 (l.map zP)) v) (hf:∀ c∈l,Qm fv G c (p c)) :
  Calls prog 264 #[v,fv] w0 (bB w0 G fun u G'=>u=.bool (l.findIdx? p).isSome):=by
 obtain ⟨A,c,rfl,hc1,hc2,-⟩:=hv.slice;rw [bM] at *;refine eN [(0,_),(1,_)] func264 rfl ntmps264 rfl rfl hG ?_;refine ak 6 ?_;intro a H;refine s_call aip H wn rfl (anC _ _ H.ro l p _ _ hv hf) rfl ?_;clear H;rintro v7 G7 a w rfl wS H;refine fH 3 H ?_;exact (dD (Uj _))
def Jl (c:Int):Bool:=decide (c < 32) || decide (c=127)
theorem afQ (G:GH) (c:Int):Qm (.func (.func 265) #[] #[]) G c (Jl c):=by
 intro G1 w0 hm hG;refine iN (caps:=[]) aik ?_;refine eN [(0,_)] func265 rfl ntmps265 rfl rfl hG ?_;refine lT 7 5 ?_ ?_
 ·intro p5
  refine aQ 5 ?_;exact (dD (by unfold Jl;first|(simp_all;done)|(simp_all;omega)))
 intro p5
 refine aQ 5 ?_;exact (dD (by unfold Jl;first|(simp_all;done)|(simp_all;omega)))
def xk (t:ByteArray):Int:=if 64 < t.size then 10 else if qo t=false then 12 else if ((Gq t).findIdx? Jl).isSome=true then 5 else tZ (kG t)
def yg (t:ByteArray):List jm:=if xk t=0 then uE (kG t).lit (kG t).parts else []
theorem aoc (G:GH) (l:List jm):bU G 3 (l.map jm.dat) (DC l):=by
 refine ⟨l.map jm.cells,rfl,by simp,fun j r cs hr hc=>?_⟩;rw [qM] at hr hc;obtain ⟨x,hx,rfl⟩:=oP.1 hr;rw [hx] at hc
 cases hc
 exact ⟨aaN G x,rfl⟩
theorem apj (G:GH) (w0:World) (hG:Hold G w0) (t:ByteArray) (ht:t.size < 4611686018427387904) :
  Calls prog 246 #[.string t] w0 (bB w0 G fun u G'=>∃ x,u=.tuple #[x,vi (xk t)]∧au G' (.sl 3 ((yg t).map jm.dat)) x):=by
 refine eN [(0,_)] func246 rfl ntmps246 rfl rfl hG ?_;refine goB 12 ?_ ?_
 ·intro p5
  have he:xk t=10:=by rw [xk,av (by omega)]
  refine ak 4 ?_;intro a H;refine bZ ?_;refine (eT H results246 (.cons (bq H rfl) (.cons (bq H rfl) .nil)) ?_).1
  first
   | exact H.rt ⟨_,by rw [he0],by rw [yg,av he0];exact hrep⟩
   | exact H.rt ⟨_,by rw [he],by rw [yg,ah (by rw [he];first|decide|assumption)];exact au.gZ rfl (by decide)⟩
 intro p5
 refine ak 2 ?_;intro a H;refine s_call Jt H wn rfl (LH _ _ H.ro t ht) rfl ?_;clear H;rintro v11 _ a w ⟨rfl,rfl⟩ - H;refine iU 3 H ?_ ?_ <;> clear H
 ·intro h9
  try have p9:=dT h9
  have he:xk t=12:=by rw [xk,ah (by omega),av (by simpa using h9)]
  refine ak 4 ?_;intro a H;refine bZ ?_;refine (eT H results246 (.cons (bq H rfl) (.cons (bq H rfl) .nil)) ?_).1
  first
   | exact H.rt ⟨_,by rw [he0],by rw [yg,av he0];exact hrep⟩
   | exact H.rt ⟨_,by rw [he],by rw [yg,ah (by rw [he];first|decide|assumption)];exact au.gZ rfl (by decide)⟩
 intro h9
 try have p9:=dF h9
 refine ak 2 ?_;intro a H;refine aqv jG LB II H wn rfl (by omega) rfl ?_;clear H;intro v15 Bn a w zq aaq H;obtain ⟨VW,c15,rfl,-,-,-⟩:=aaq.slice;refine s_call aij H wn rfl (afO _ _ H.ro _ Jl _ _ aaq (fun c _=>afQ _ c)) rfl ?_;clear H;rintro v16 nV a w rfl jv H;refine iU 2 H ?_ ?_ <;> clear H
 ·intro mU
  try have oJ:=dT mU
  have he:xk t=5:=by rw [xk,ah (by omega),ah (by simpa using h9),av mU]
  refine ak 4 ?_;intro a H;refine bZ ?_;refine (eT H results246 (.cons (bq H rfl) (.cons (bq H rfl) .nil)) ?_).1
  first
   | exact H.rt ⟨_,by rw [he0],by rw [yg,av he0];exact hrep⟩
   | exact H.rt ⟨_,by rw [he],by rw [yg,ah (by rw [he];first|decide|assumption)];exact au.gZ rfl (by decide)⟩
 intro mU
 try have oJ:=dF mU
 refine ak 3 ?_;intro a H;refine iy arQ [_,_,_,_,_,_,_] H wn rfl rfl rfl rfl ?_;clear H;intro a H;refine dP (cs:=[_,_,_,_,_,_,_]) H wn rfl rfl rfl ?_;clear H;intro b19 a w ali H;refine aD 5 H ?_;clear H;intro a H;refine gF ail (Li:=[]) (L:=[wD b19 t AZ (.pointer none) (.slice none 0 0) (.slice none 0 0)]) H wn rfl (aqU _ [] [] _ b19 t _ _ _ ⟨.inl rfl,bV.nil,bV.nil⟩ (Hp.owns (Li:=[]) H.hp) (by omega)) rfl ?_;clear H;rintro v21 IY L21 a w ⟨p',v',q',qw,kJ,rfl,SE⟩ pY H;dsimp only [List.nil_append] at H;obtain ⟨A21,c21,rfl,-,-⟩:=SE.buf.shape;obtain ⟨B21,d21,rfl,-,-⟩:=SE.prt.shape;refine aC ?_;refine dR ?_
 have he:xk t=tZ (kG t):=by rw [xk,ah (by omega),ah (by simpa using h9),ah (by simp [mU])]
 refine dQ 7 H ?_ ?_ <;> clear H
 ·intro p26
  refine ak 1 ?_;intro a H;have H:=H.sub (T':=[(4,_)]) ⟨rfl,aU⟩;refine dI hmx [[],[0],[0,1],[0,1,2],[],(ra 0 5)] [] (by kernel_rfl) [_,_,_,vi (tZ (kG t)),_,_] H (aF (Z0 rfl (Rm rfl)) (Z1 0 27 rfl (Rk rfl)) (Z1 1 28 rfl (Rf Et rfl)) (Z1 2 29 rfl (Ro iA 0 rfl)) (bH (Z0 rfl (Ra rfl)) (bH (Z1 3 30 rfl (Ra rfl)) cZ))) ?_
  clear H;intro a w G pX H hv;have H:=H.aN (hv 4 2 rfl rfl) rfl;have H:=H.aN (hv 5 3 rfl rfl) rfl;clear hv;refine t0 1 H ?_;clear H;intro a H;refine bZ ?_;refine (eT H results246 (.cons (bq H rfl) (.cons (bq H rfl) .nil)) ?_).1
  first
   | exact H.rt ⟨_,by rw [he0],by rw [yg,av he0];exact hrep⟩
   | exact H.rt ⟨_,by rw [he],by rw [yg,ah (by rw [he];first|decide|assumption)];exact au.gZ rfl (by decide)⟩
 intro p26
 refine ak 1 ?_
 have he0:xk t=0:=by rw [he];omega
 intro a H;have H:=(St.cast H (show _=[_]++(qw++kJ) from rfl)).perm (List.Perm.append_left _ uq);have H:=St.un H;obtain ⟨Gr,hmr,hrep,H⟩:=St.mR (Li:=[_]++kJ) (Lo:=qw) H SE.prt (rows:=(uE (kG t).lit (kG t).parts).map jm.dat) (by simp) (aoc _ _);dsimp only [lca,bG] at H;refine fO 8 H ?_;clear H;intro a H;refine bZ ?_;refine (eT H results246 (.cons (bq H rfl) (.cons (bq H rfl) .nil)) ?_).1
 first
  | exact H.rt ⟨_,by rw [he0],by rw [yg,av he0];exact hrep⟩
  | exact H.rt ⟨_,by rw [he],by rw [yg,ah (by rw [he];first|decide|assumption)];exact au.gZ rfl (by decide)⟩
structure iZ where
 fmt:Int
 start:Int
 xu:ByteArray
 restart:Int
def iZ.dat (x:iZ):List Dat:=[li x.fmt,li x.start,.lf (.string x.xu),li x.restart]
abbrev iZ.cells (x:iZ):List aj:=[vi x.fmt,vi x.start,.string x.xu,vi x.restart]
theorem Uv {G:GH} {x:iZ} {cs:List aj} (h:aW G x.dat cs):cs=x.cells:=by
 simp only [iZ.dat,aW,au] at h
 obtain ⟨_,_,rfl,⟨rfl,_⟩,_,_,rfl,⟨rfl,_⟩,_,_,rfl,⟨rfl,_⟩,_,_,rfl,⟨rfl,_⟩,rfl⟩:=h
 rfl
theorem anA (G:GH) (w0:World) (hG:Hold G w0) (l:List jm) (p:jm→Bool) (v fv:aj) (hv:au G (.sl 3 (l.map jm.dat)) v) (hf:∀ x∈l,rC fv G x.dat (p x)) :
  Calls prog 267 #[v,fv] w0 (bB w0 G fun u G'=>u=vi (mJ (l.findIdx? p))):=by
 obtain ⟨A,c,rfl,hc1,hc2,hg⟩:=hv.slice;have hml:maxLen=9223372036854775807:=rfl;rw [bM] at *;refine eN [(0,_),(1,_)] func267 rfl ntmps267 rfl rfl hG ?_;refine ak 10 ?_;intro a H;refine eH (ι:=Nat × GH) (Tc:=[(0,_),(1,_),(7,_)]) (Lc:=[]) (fun gh=>[(8,vi gh.1)]) (fun gh=>[]) (fun gh=>gh.2) (fun gh=>gh.1≤l.length∧(l.take gh.1).findIdx? p=none∧(∀ b o,G b=some o→gh.2 b=some o)) (fun gh=>l.length - gh.1) ((0,G)) sB ?_ ?_
 ·exact ⟨by omega,rfl,fun _ _ h=>h⟩
 clear H;rintro ⟨k,g⟩ a w hI H;dsimp only at hI H;obtain ⟨hk,hno,hgm⟩:=hI;dsimp only [lca,bG] at H;refine dQ 4 H ?_ ?_ <;> clear H
 ·intro p9
  have hk2:k < l.length:=by omega
  obtain ⟨b,o,cs,rfl,hcl,hrow,hr⟩:=hg k l[k].dat (by simp [hk2]);obtain rfl:=aaM hr;refine ak 12 ?_;intro a H;refine aS Lj (cs:=l[k].cells) H wn rfl rfl (fun j v hj=>H.hp.aI (aH hgm (hrow j v hj))) rfl ?_;clear H;intro a H;refine ji H wn rfl rfl (hf _ (lD hk2) _ _ _ hgm H.ro (aaN _ l[k])) rfl ?_;clear H;rintro v16 nV a w rfl jv H;refine iU 1 H ?_ ?_ <;> clear H
  ·intro h16
   try have p16:=dT h16
   refine aQ 4 ?_
   first
    | exact (by rw [rW hk2 hno h16];rfl)
    | exact (by rw [show l.take k=l from fK (by omega)] at hno;rw [hno];rfl)
  intro h16
  try have p16:=dF h16
  refine ak 4 ?_;intro a H;refine aC ?_;refine cB ((k+1,nV)) sB ?_ ?_
  ·(try dsimp only);exact ⟨by omega,Cc hk2 hno h16,fun b o h=>jv b o (hgm b o h)⟩
  first|omega|(dsimp only;omega)
 intro p9
 refine aQ 4 ?_
 first
  | exact (by rw [rW hk2 hno h16];rfl)
  | exact (by rw [show l.take k=l from fK (by omega)] at hno;rw [hno];rfl)
theorem afN (G:GH) (w0:World) (hG:Hold G w0) (l:List jm) (p:jm→Bool) (v fv:aj) (hv:au G (.sl 3 (l.map jm.dat)) v) (hf:∀ x∈l,rC fv G x.dat (p x)) :
  Calls prog 247 #[v,fv] w0 (bB w0 G fun u G'=>u=.bool (l.findIdx? p).isSome):=by
 obtain ⟨A,c,rfl,hc1,hc2,-⟩:=hv.slice;rw [bM] at *;refine eN [(0,_),(1,_)] func247 rfl ntmps247 rfl rfl hG ?_;refine ak 6 ?_;intro a H;refine s_call ain H wn rfl (anA _ _ H.ro l p _ _ hv hf) rfl ?_;clear H;rintro v7 G7 a w rfl wS H;refine fH 3 H ?_;exact (dD (Uj _))
theorem aoe {G:GH} {bl:Nat} {k:Int} (hb:aI G bl 0=some (vi k)) (x:jm):rC (.func (.func 248) #[] #[(aG bl 0)]) G x.dat (decide (k < x.level)):=by
 intro G1 w0 cs hm hG hr;refine iN (caps:=[(aG bl 0)]) ahW ?_;obtain rfl:=aaM hr;replace hb:=aH hm hb;refine eN [(0,_),(1,_)] func248 rfl ntmps248 rfl rfl hG ?_;refine ak 1 ?_;intro a H;refine dP (cs:=[_,_,_]) H wn rfl rfl rfl ?_;clear H;intro b2 a w hb2 H;refine fH 9 H ?_;exact rfl
def AJ (t:ByteArray) (k:Int):Int:=if k < 1∨9 < k then 2 else if xk t=0∧((yg t).findIdx? fun x=>decide (k < x.level)).isSome=true then 6 else xk t
theorem aod (G:GH) (w0:World) (hG:Hold G w0) (t:ByteArray) (k:Int) (ht:t.size < 4611686018427387904) :
  Calls prog 223 #[.string t,vi k] w0 (bB w0 G fun u G'=>u=vi (AJ t k)):=by
 refine eN [(0,_),(1,_)] func223 rfl ntmps223 rfl rfl hG ?_;refine ak 1 ?_;intro a H;refine dP (cs:=[_]) H wn rfl rfl rfl ?_;clear H;intro b3 a w hb3 H;refine pW 7 9 H ?_ ?_ <;> clear H
 ·intro p9
  refine aQ 8 ?_;exact (aB vi (by unfold AJ;(repeat' split) <;> first|rfl|(exfalso;simp_all;done)|(exfalso;simp_all;omega)|(simp_all;done)))
 intro p9
 refine goB 4 ?_ ?_
 ·intro pI
  refine aQ 3 ?_;exact (aB vi (by unfold AJ;(repeat' split) <;> first|rfl|(exfalso;simp_all;done)|(exfalso;simp_all;omega)|(simp_all;done)))
 intro pI
 refine ak 1 ?_;intro a H;obtain ⟨Ga,hma,uL,H⟩:=H.dZ
 have hbk:aI Ga b3 0=some (vi k):=by unfold aI;rw [uL];rfl
 refine fO 2 H ?_;clear H;intro a H;refine s_call ahU H wn rfl (apj _ _ H.ro t ht) rfl ?_;clear H;rintro v15 Bn a w ⟨x15,rfl,aat⟩ zq H;obtain ⟨VW,c15,rfl,-,-,-⟩:=aat.slice;replace hbk:=aH zq hbk;refine aD 1 H ?_;clear H;intro a H;(iterate 2 refine jK H wn rfl rfl rfl ?_;clear H;intro a H);refine kT 8 20 H ?_ ?_ <;> clear H
 ·intro h20
  try have Ck:=dT h20
  refine ak 1 ?_;intro a H;refine nS H (wg H rfl rfl h20) rfl rfl ?_;clear H;intro a H;refine s_call ahV H (wg H rfl rfl h20) rfl (afN _ _ H.ro _ (fun x=>decide (k < x.level)) _ _ aat (fun x _=>aoe hbk x)) rfl ?_;clear H;rintro v23 V7 a w rfl Dj H;refine gQ 2 H ?_ ?_ <;> clear H
  ·intro jq
   refine aQ 7 ?_;exact (aB vi (by unfold AJ;(repeat' split) <;> first|rfl|(exfalso;simp_all;done)|(exfalso;simp_all;omega)|(simp_all;done)))
  intro jq
  refine aQ 5 ?_;exact (aB vi (by unfold AJ;(repeat' split) <;> first|rfl|(exfalso;simp_all;done)|(exfalso;simp_all;omega)|(simp_all;done)))
 intro h20
 try have Ck:=dF h20
 refine aQ 11 ?_;exact (aB vi (by unfold AJ;(repeat' split) <;> first|rfl|(exfalso;simp_all;done)|(exfalso;simp_all;omega)|(simp_all;done)))
end
section
open Go.RowKit
instance Bc:Ty prog 96 4 40 [.int .i64 0,.int .i64 0,.string ⟨#[]⟩,.int .i64 0] true:=⟨by kernel_rfl,by kernel_rfl⟩
theorem FM:prog.underlying 91=some (.slice 96):=by kernel_rfl
instance:kg prog 91 (.slice 96):=⟨FM⟩
instance:dS prog 96 0 0:=⟨by kernel_rfl⟩
instance:dS prog 96 1 1:=⟨by kernel_rfl⟩
instance:dS prog 96 2 2:=⟨by kernel_rfl⟩
theorem ahL:∀ args w,(callFunc 223 args).run prog w=.ok (.enter 223 args) w:=enters func223 rfl (by kernel_rfl)
instance:dS prog 96 3 3:=⟨by kernel_rfl⟩
def Ep:Nat→List iZ→Int
 | _,[]=>0
 | i,x :: r=>if x.fmt < 1∨7 < x.fmt then 3 else if x.start < 0∨32767 < x.start then 2 else if AJ x.xu ((i+1:Nat):Int)≠0 then AJ x.xu ((i+1:Nat):Int) else if x.restart < 0∨(i:Int) < x.restart then 5 else Ep (i+1) r
def eP (l:List iZ):Int:=if l.length=0 then 11 else if 9 < l.length then 9 else Ep 0 l
theorem jf {l:List iZ} {k:Nat} (h:k < l.length):Ep k (l.drop k)=if l[k].fmt < 1∨7 < l[k].fmt then 3 else if l[k].start < 0∨32767 < l[k].start then 2 else if AJ l[k].xu ((k+1:Nat):Int)≠0 then AJ l[k].xu ((k+1:Nat):Int) else if l[k].restart < 0∨(k:Int) < l[k].restart then 5 else Ep (k+1) (l.drop (k+1)):=by
 rw [pO h,Ep]
theorem aeZ (G:GH) (w0:World) (hG:Hold G w0) (l:List iZ) (v:aj) (hv:au G (.sl 4 (l.map iZ.dat)) v) (ht:∀ x∈l,x.xu.size < 4611686018427387904) :
  Calls prog 185 #[v] w0 (bB w0 G fun u G'=>u=vi (eP l)):=by
 obtain ⟨A,c,rfl,hc1,hc2,hg⟩:=hv.slice;have hml:maxLen=9223372036854775807:=rfl;rw [bM] at *;refine eN [(0,_)] func185 rfl ntmps185 rfl rfl hG ?_;refine goB 11 ?_ ?_
 ·intro p6
  refine aQ 3 ?_
  first
   | exact (aB vi (by rw [eP,av (by omega)]))
   | exact (aB vi (by rw [eP,ah (by omega),av (by omega)]))
   | exact (aB vi (by rw [eP,ah (by omega),ah (by omega),← he,jf hk2,av (by omega)]))
   | exact (aB vi (by rw [eP,ah (by omega),ah (by omega),← he,jf hk2,ah (by omega),av (by omega)]))
   | exact (aB vi (by rw [eP,ah (by omega),ah (by omega),← he,jf hk2,ah (by omega),ah (by omega),av p45]))
   | exact (aB vi (by rw [eP,ah (by omega),ah (by omega),← he,jf hk2,ah (by omega),ah (by omega),ah p45,av (by omega)]))
   | exact (aB vi (by rw [eP,ah (by omega),ah (by omega),← he,kC (by omega)];rfl))
 intro p6
 refine goB 6 ?_ ?_
 ·intro iD
  refine aQ 3 ?_
  first
   | exact (aB vi (by rw [eP,av (by omega)]))
   | exact (aB vi (by rw [eP,ah (by omega),av (by omega)]))
   | exact (aB vi (by rw [eP,ah (by omega),ah (by omega),← he,jf hk2,av (by omega)]))
   | exact (aB vi (by rw [eP,ah (by omega),ah (by omega),← he,jf hk2,ah (by omega),av (by omega)]))
   | exact (aB vi (by rw [eP,ah (by omega),ah (by omega),← he,jf hk2,ah (by omega),ah (by omega),av p45]))
   | exact (aB vi (by rw [eP,ah (by omega),ah (by omega),← he,jf hk2,ah (by omega),ah (by omega),ah p45,av (by omega)]))
   | exact (aB vi (by rw [eP,ah (by omega),ah (by omega),← he,kC (by omega)];rfl))
 intro iD
 refine ak 8 ?_;intro a H;refine eH (ι:=Nat × GH) (Tc:=[(14,_),(15,_)]) (Lc:=[]) (fun gh=>[(16,vi gh.1)]) (fun gh=>[]) (fun gh=>gh.2) (fun gh=>gh.1≤l.length∧Ep gh.1 (l.drop gh.1)=Ep 0 l∧(∀ b o,G b=some o→gh.2 b=some o)) (fun gh=>l.length - gh.1) ((0,G)) sB ?_ ?_
 ·exact ⟨gW _,rfl,fun _ _ h=>h⟩
 clear H;rintro ⟨k,g⟩ a w hI H;dsimp only at hI H;obtain ⟨hk,he,hgm⟩:=hI;dsimp only [lca,bG] at H;refine dQ 4 H ?_ ?_ <;> clear H
 ·intro jJ
  have hk2:k < l.length:=by omega
  obtain ⟨b,o,cs,rfl,hcl,hrow,hr⟩:=hg k l[k].dat (by simp [hk2]);obtain rfl:=Uv hr;refine ak 6 ?_;intro a H;refine aS Bc (cs:=l[k].cells) H wn rfl rfl (fun j v hj=>H.hp.aI (aH hgm (hrow j v hj))) rfl ?_;clear H;intro a H;refine dz Bc H wn rfl ?_;clear H;intro b4 a w hb4 H;refine aD 1 H ?_;clear H;intro a H;refine aV Bc 0 (vs:=[_,_,_,_]) _ H wn rfl rfl rfl rfl rfl rfl rfl rfl ?_;clear H;intro w H;dsimp only [List.set,setRow] at H;refine pW 8 25 H ?_ ?_ <;> clear H
  ·intro p25
   refine aQ 10 ?_
   first
    | exact (aB vi (by rw [eP,av (by omega)]))
    | exact (aB vi (by rw [eP,ah (by omega),av (by omega)]))
    | exact (aB vi (by rw [eP,ah (by omega),ah (by omega),← he,jf hk2,av (by omega)]))
    | exact (aB vi (by rw [eP,ah (by omega),ah (by omega),← he,jf hk2,ah (by omega),av (by omega)]))
    | exact (aB vi (by rw [eP,ah (by omega),ah (by omega),← he,jf hk2,ah (by omega),ah (by omega),av p45]))
    | exact (aB vi (by rw [eP,ah (by omega),ah (by omega),← he,jf hk2,ah (by omega),ah (by omega),ah p45,av (by omega)]))
    | exact (aB vi (by rw [eP,ah (by omega),ah (by omega),← he,kC (by omega)];rfl))
  intro p25
  refine goB 6 ?_ ?_
  ·intro Cm
   refine aQ 3 ?_
   first
    | exact (aB vi (by rw [eP,av (by omega)]))
    | exact (aB vi (by rw [eP,ah (by omega),av (by omega)]))
    | exact (aB vi (by rw [eP,ah (by omega),ah (by omega),← he,jf hk2,av (by omega)]))
    | exact (aB vi (by rw [eP,ah (by omega),ah (by omega),← he,jf hk2,ah (by omega),av (by omega)]))
    | exact (aB vi (by rw [eP,ah (by omega),ah (by omega),← he,jf hk2,ah (by omega),ah (by omega),av p45]))
    | exact (aB vi (by rw [eP,ah (by omega),ah (by omega),← he,jf hk2,ah (by omega),ah (by omega),ah p45,av (by omega)]))
    | exact (aB vi (by rw [eP,ah (by omega),ah (by omega),← he,kC (by omega)];rfl))
  intro Cm
  refine lT 5 34 ?_ ?_
  ·intro p34
   refine aQ 10 ?_
   first
    | exact (aB vi (by rw [eP,av (by omega)]))
    | exact (aB vi (by rw [eP,ah (by omega),av (by omega)]))
    | exact (aB vi (by rw [eP,ah (by omega),ah (by omega),← he,jf hk2,av (by omega)]))
    | exact (aB vi (by rw [eP,ah (by omega),ah (by omega),← he,jf hk2,ah (by omega),av (by omega)]))
    | exact (aB vi (by rw [eP,ah (by omega),ah (by omega),← he,jf hk2,ah (by omega),ah (by omega),av p45]))
    | exact (aB vi (by rw [eP,ah (by omega),ah (by omega),← he,jf hk2,ah (by omega),ah (by omega),ah p45,av (by omega)]))
    | exact (aB vi (by rw [eP,ah (by omega),ah (by omega),← he,kC (by omega)];rfl))
  intro p34
  refine goB 6 ?_ ?_
  ·intro p30
   refine aQ 3 ?_
   first
    | exact (aB vi (by rw [eP,av (by omega)]))
    | exact (aB vi (by rw [eP,ah (by omega),av (by omega)]))
    | exact (aB vi (by rw [eP,ah (by omega),ah (by omega),← he,jf hk2,av (by omega)]))
    | exact (aB vi (by rw [eP,ah (by omega),ah (by omega),← he,jf hk2,ah (by omega),av (by omega)]))
    | exact (aB vi (by rw [eP,ah (by omega),ah (by omega),← he,jf hk2,ah (by omega),ah (by omega),av p45]))
    | exact (aB vi (by rw [eP,ah (by omega),ah (by omega),← he,jf hk2,ah (by omega),ah (by omega),ah p45,av (by omega)]))
    | exact (aB vi (by rw [eP,ah (by omega),ah (by omega),← he,kC (by omega)];rfl))
  intro p30
  refine ak 7 ?_;intro a H;rw [show ((k:Int)+1)=((k+1:Nat):Int) from rfl] at H;refine s_call ahL H wn rfl (aod _ _ H.ro l[k].xu ((k+1:Nat):Int) (ht _ (lD hk2))) rfl ?_;clear H;rintro v43 I5 a w rfl BQ H;refine gQ 6 H ?_ ?_ <;> clear H
  ·intro p45
   refine aQ 4 ?_
   first
    | exact (aB vi (by rw [eP,av (by omega)]))
    | exact (aB vi (by rw [eP,ah (by omega),av (by omega)]))
    | exact (aB vi (by rw [eP,ah (by omega),ah (by omega),← he,jf hk2,av (by omega)]))
    | exact (aB vi (by rw [eP,ah (by omega),ah (by omega),← he,jf hk2,ah (by omega),av (by omega)]))
    | exact (aB vi (by rw [eP,ah (by omega),ah (by omega),← he,jf hk2,ah (by omega),ah (by omega),av p45]))
    | exact (aB vi (by rw [eP,ah (by omega),ah (by omega),← he,jf hk2,ah (by omega),ah (by omega),ah p45,av (by omega)]))
    | exact (aB vi (by rw [eP,ah (by omega),ah (by omega),← he,kC (by omega)];rfl))
  intro p45
  refine lT 6 50 ?_ ?_
  ·intro p50
   refine aQ 10 ?_
   first
    | exact (aB vi (by rw [eP,av (by omega)]))
    | exact (aB vi (by rw [eP,ah (by omega),av (by omega)]))
    | exact (aB vi (by rw [eP,ah (by omega),ah (by omega),← he,jf hk2,av (by omega)]))
    | exact (aB vi (by rw [eP,ah (by omega),ah (by omega),← he,jf hk2,ah (by omega),av (by omega)]))
    | exact (aB vi (by rw [eP,ah (by omega),ah (by omega),← he,jf hk2,ah (by omega),ah (by omega),av p45]))
    | exact (aB vi (by rw [eP,ah (by omega),ah (by omega),← he,jf hk2,ah (by omega),ah (by omega),ah p45,av (by omega)]))
    | exact (aB vi (by rw [eP,ah (by omega),ah (by omega),← he,kC (by omega)];rfl))
  intro p50
  refine goB 6 ?_ ?_
  ·intro p55
   refine aQ 3 ?_
   first
    | exact (aB vi (by rw [eP,av (by omega)]))
    | exact (aB vi (by rw [eP,ah (by omega),av (by omega)]))
    | exact (aB vi (by rw [eP,ah (by omega),ah (by omega),← he,jf hk2,av (by omega)]))
    | exact (aB vi (by rw [eP,ah (by omega),ah (by omega),← he,jf hk2,ah (by omega),av (by omega)]))
    | exact (aB vi (by rw [eP,ah (by omega),ah (by omega),← he,jf hk2,ah (by omega),ah (by omega),av p45]))
    | exact (aB vi (by rw [eP,ah (by omega),ah (by omega),← he,jf hk2,ah (by omega),ah (by omega),ah p45,av (by omega)]))
    | exact (aB vi (by rw [eP,ah (by omega),ah (by omega),← he,kC (by omega)];rfl))
  intro p55
  refine ak 4 ?_;intro a H;refine aC ?_;refine cB ((k+1,I5)) (by exact (H.dY (Pl:=[_]) (dM:=[]) [] (by decide) rfl).sub ⟨rfl,rfl,rfl,aU⟩) ?_ ?_
  ·(try dsimp only);exact ⟨by omega,by rw [jf hk2,ah (by omega),ah (by omega),ah p45,ah (by omega)] at he;exact he,fun b o h=>BQ b o (hgm b o h)⟩
  first|omega|(dsimp only;omega)
 intro jJ
 refine aQ 4 ?_
 first
  | exact (aB vi (by rw [eP,av (by omega)]))
  | exact (aB vi (by rw [eP,ah (by omega),av (by omega)]))
  | exact (aB vi (by rw [eP,ah (by omega),ah (by omega),← he,jf hk2,av (by omega)]))
  | exact (aB vi (by rw [eP,ah (by omega),ah (by omega),← he,jf hk2,ah (by omega),av (by omega)]))
  | exact (aB vi (by rw [eP,ah (by omega),ah (by omega),← he,jf hk2,ah (by omega),ah (by omega),av p45]))
  | exact (aB vi (by rw [eP,ah (by omega),ah (by omega),← he,jf hk2,ah (by omega),ah (by omega),ah p45,av (by omega)]))
  | exact (aB vi (by rw [eP,ah (by omega),ah (by omega),← he,kC (by omega)];rfl))
end
section
open Go.RowKit
instance FI:Ty prog 32 1 24 [.slice none 0 0] false:=⟨by kernel_rfl,by kernel_rfl⟩
theorem Bd:prog.underlying 32=some (.slice 93):=by kernel_rfl
instance:kg prog 32 (.slice 93):=⟨Bd⟩
instance sJ:Ty prog 93 2 32 [.int .i64 0,.slice none 0 0] true:=⟨by kernel_rfl,by kernel_rfl⟩
instance ajV:dS prog 93 0 0:=⟨by kernel_rfl⟩
instance Vy:Ty prog 91 1 24 [.slice none 0 0] false:=⟨by kernel_rfl,by kernel_rfl⟩
theorem QU:∀ args w,(callFunc 125 args).run prog w=.ok (.enter 125 args) w:=enters func125 rfl (by kernel_rfl)
instance RO:dS prog 93 1 1:=⟨by kernel_rfl⟩
theorem ahr:∀ args w,(callFunc 185 args).run prog w=.ok (.enter 185 args) w:=enters func185 rfl (by kernel_rfl)
theorem GJ:∀ args w,(callFunc 123 args).run prog w=.ok (.enter 123 args) w:=enters func123 rfl (by kernel_rfl)
theorem ahq:∀ args w,(callFunc 184 args).run prog w=.ok (.enter 184 args) w:=enters func184 rfl (by kernel_rfl)
theorem ahp:∀ args w,(callFunc 183 args).run prog w=.ok (.enter 183 args) w:=enters func183 rfl (by kernel_rfl)
structure eD where
 id:Int
 levels:List iZ
def eD.dat (x:eD):List Dat:=[li x.id,.sl 4 (x.levels.map iZ.dat)]
structure fD where
 id:Int
 parent:Int
 author:ByteArray
 time:Int
 text:ByteArray
 done:Bool
def fD.dat (x:fD):List Dat:=[li x.id,li x.parent,.lf (.string x.author),li x.time,.lf (.string x.text),.lf (.bool x.done)]
abbrev fD.cells (x:fD):List aj:=[vi x.id,vi x.parent,.string x.author,vi x.time,.string x.text,.bool x.done]
structure iB where
 name:ByteArray
 value:ByteArray
def iB.dat (x:iB):List Dat:=[.lf (.string x.name),.lf (.string x.value)]
abbrev iB.cells (x:iB):List aj:=[.string x.name,.string x.value]
theorem MR {G:GH} {x:fD} {cs:List aj} (h:aW G x.dat cs):cs=x.cells:=by
 simp only [fD.dat,aW,au] at h
 obtain ⟨_,_,rfl,⟨rfl,_⟩,_,_,rfl,⟨rfl,_⟩,_,_,rfl,⟨rfl,_⟩,_,_,rfl,⟨rfl,_⟩,_,_,rfl,⟨rfl,_⟩,_,_,rfl,⟨rfl,_⟩,rfl⟩:=h
 rfl
theorem VH {G:GH} {x:iB} {cs:List aj} (h:aW G x.dat cs):cs=x.cells:=by
 simp only [iB.dat,aW,au] at h
 obtain ⟨_,_,rfl,⟨rfl,_⟩,_,_,rfl,⟨rfl,_⟩,rfl⟩:=h
 rfl
theorem Uu {G:GH} {l:List eD} {A:Option Addr} {n c k:Nat} (hv:au G (.sl 2 (l.map eD.dat)) (.slice A n c)) (hk:k < l.length):∃ b o B d,A=some ⟨b,o,none⟩∧(∀ j u,[vi l[k].id,.slice B l[k].levels.length d][j]?=some u→aI G b (o+k*2+j)=some u)∧au G (.sl 4 (l[k].levels.map iZ.dat)) (.slice B l[k].levels.length d):=by
 obtain ⟨A',c',he,_,_,hg⟩:=hv.slice
 injection he with e1 e2 e3
 subst e1;obtain ⟨b,o,cs,h1,h2,h3,h4⟩:=hg k l[k].dat (by simp [hk])
 simp only [eD.dat,aW] at h4
 obtain ⟨v1,_,rfl,⟨rfl,-⟩,v2,_,rfl,hl,rfl⟩:∃ v vs,cs=v :: vs∧au G (li l[k].id) v∧∃ v2 vs2,vs=v2 :: vs2∧au G (.sl 4 (l[k].levels.map iZ.dat)) v2∧vs2=[]:=h4;obtain ⟨B,d,rfl,-,-,-⟩:=hl.slice;rw [bM] at *;exact ⟨b,o,B,d,h1,h3,hl⟩
theorem anW {G:GH} {bl:Nat} {l:List eD} {A:Option Addr} {n c:Nat} (hb:aI G bl 0=some (.slice A n c)) (hv:au G (.sl 2 (l.map eD.dat)) (.slice A n c)):sO (.func (.func 184) #[] #[(aG bl 0)]) G l.length fun k=>(l[k]?.map eD.id).getD 0:=by
 intro k hk G1 w0 hm hG;refine iN (caps:=[(aG bl 0)]) ahq ?_;replace hb:=aH hm hb
 obtain rfl:n=l.length:=by have:=hv.len;simpa using this
 obtain ⟨b,o,B,d,rfl,hrow,-⟩:=Uu (hv.mono hm) hk;have hq:=hrow 0 _ rfl;refine eN [(0,_),(1,_)] func184 rfl ntmps184 rfl rfl hG ?_;refine aQ 11 ?_;dsimp only;rw [eO hk];rfl
def E9 (l:List eD) (i:Nat):Int:=cO [qd (fun k=>(l[k]?.map eD.id).getD 0) i,eP ((l[i]?.map eD.levels).getD [])]
theorem anY {G:GH} {bl:Nat} {l:List eD} {A:Option Addr} {n c:Nat} (hb:aI G bl 0=some (.slice A n c)) (hv:au G (.sl 2 (l.map eD.dat)) (.slice A n c)) (hl:l.length≤4294967296) (ht:∀ x∈l,∀ y∈x.levels,y.xu.size < 4611686018427387904):sO (.func (.func 183) #[] #[(aG bl 0)]) G l.length (E9 l):=by
 intro k hk G1 w0 hm hG;refine iN (caps:=[(aG bl 0)]) ahp ?_;replace hb:=aH hm hb;replace hv:=hv.mono hm;have hcb:=anW hb hv
 obtain rfl:n=l.length:=by have:=hv.len;simpa using this
 obtain ⟨b,o,B,d,rfl,hrow,hlv⟩:=Uu hv hk;have hq:=hrow 1 _ rfl
 have he:E9 l k=cO [qd (fun k=>(l[k]?.map eD.id).getD 0) k,eP l[k].levels]:=by unfold E9;rw [eO hk];rfl
 refine eN [(0,_),(1,_)] func183 rfl ntmps183 rfl rfl hG ?_;refine ak 4 ?_;intro a H;have H:=H.sub (T':=[(0,_),(1,_)]) ⟨rfl,rfl,aU⟩;refine dI hmx [[],[],[0,1],[],[],[3,4],[3,4,5],(ra 3 4),(ra 0 8),(ra 0 9),(ra 0 10),(ra 0 11)] [9,10,11] (by kernel_rfl) [_,.func (.func 184) #[] #[(aG bl 0)],vi (qd (fun k=>(l[k]?.map eD.id).getD 0) k),_,_,_,_,_,vi (eP l[k].levels)] H (aF (Z0 rfl (Rm rfl)) ?_ ?_ (X0 rfl fun hG=>Rg FI rfl (aH hG hb)) (aF (Z0 rfl (Rm rfl)) (Z2 3 7 4 8 rfl (Ri Bd sJ rfl rfl)) (Z1 5 9 rfl (Rf RO rfl)) (X1 6 10 rfl fun hG=>Rg Vy rfl (aH hG hq)) (aF ?_ (bQ rfl) (bQ rfl) (bQ rfl) cZ))) ?_
 ·refine Bo rfl fun _ a w G1 hG HT H fin=>?_;refine nS H wn rfl rfl ?_;clear H;intro a H;exact fin H iJ rfl
 ·refine dH 0 4 1 5 rfl rfl fun _ a w G1 hG HT H fin=>?_;refine s_call QU H wn rfl (Uf _ _ H.ro k _ _ (by omega) (fun i hi=>(hcb.mono hG) i (by omega))) rfl ?_;clear H;rintro v6 G6 a w rfl gI H;exact fin H gI (rfl)
 ·refine eu 7 11 rfl rfl fun _ a w G1 hG HT H fin=>?_;refine s_call ahr H wn rfl (aeZ _ _ H.ro _ _ (hlv.mono hG) (ht _ (lD hk))) rfl ?_;clear H;rintro v12 zT a w rfl mV H;exact fin H mV (rfl)
 clear H;intro a w G iP H hv;have H:=H.aN (hv 2 6 rfl rfl) rfl;have H:=H.aN (hv 8 12 rfl rfl) rfl;clear hv;refine gJ qm iA [_,_] [_,_] H wn rfl rfl rfl rfl rfl (by intro i q h;match i,h with|0,h=>exact h|1,h=>exact h|n+2,h=>simp at h) rfl rfl ?_;clear H;intro b13 a w NA H;obtain ⟨FV,Hw,alf,H⟩:=H.dZ;refine s_call qC H wn rfl (qD _ _ H.ro _ _ (yC alf)) rfl ?_;clear H;rintro v14 _ a w ⟨rfl,rfl⟩ - H;refine kH H (Ra rfl ?_);clear H;intro a H;refine aC ⟨rfl,?_⟩;refine dR ?_;refine uH 0 H ?_;rw [he]
def Jh (l:List eD):Int:=cO [dx (decide (64 < (l.length:Int))) 9,iH (E9 l) (min l.length 64)]
theorem sO.le {fv:aj} {G:GH} {n m:Nat} {E:Nat→Int} (h:sO fv G n E) (hm:m≤n):sO fv G m E:=fun i hi=>h i (by omega)
theorem afa (G:GH) (w0:World) (hG:Hold G w0) (l:List eD) (v:aj) (hv:au G (.sl 2 (l.map eD.dat)) v) (hl:l.length≤4294967296) (ht:∀ x∈l,∀ y∈x.levels,y.xu.size < 4611686018427387904) :
  Calls prog 120 #[v] w0 (bB w0 G fun u G'=>u=vi (Jh l)):=by
 obtain ⟨A,c,rfl,hc1,hc2,-⟩:=hv.slice;rw [bM] at *;refine eN [(0,_)] func120 rfl ntmps120 rfl rfl hG ?_;refine ak 1 ?_;intro a H;refine dP (cs:=[_]) H wn rfl rfl rfl ?_;clear H;intro b1 a w hb1 H;refine aD 3 H ?_;clear H;intro a H;have H:=H.sub (T':=[(1,_)]) ⟨rfl,aU⟩;obtain ⟨Ga,hma,hb1',H⟩:=H.dZ
 have hbl:aI Ga b1 0=some (.slice A l.length c):=by unfold aI;rw [hb1'];rfl
 have hcb:=anY hbl (hv.mono hma) hl ht;refine dI hmx [[],[0],[0,1],[0,1,2],[],[4],[4,5],[],(ra 0 8),(ra 0 9),(ra 0 10),(ra 0 11)] [9,10,11] (by kernel_rfl) [_,_,_,vi (dx (decide (64 < (l.length:Int))) 9),_,_,vi ((min l.length 64:Nat):Int),.func (.func 183) #[] #[(aG b1 0)],vi (iH (E9 l) (min l.length 64))] H (aF (X0 rfl fun hG=>Rg FI rfl (aH hG hbl)) (Z1 0 3 rfl (Rl Bd rfl)) (Z1 1 4 rfl (Rc rfl)) ?_ (aF (X0 rfl fun hG=>Rg FI rfl (aH hG hbl)) (Z1 4 7 rfl (Rl Bd rfl)) ?_ ?_ (aF ?_ (bQ rfl) (bQ rfl) (bQ rfl) cZ))) ?_
 ·refine eu 2 5 rfl rfl fun _ a w G1 hG HT H fin=>?_;refine s_call jC H wn rfl (jH _ _ H.ro _ 9) rfl ?_;clear H;rintro v6 G6 a w ⟨rfl,-⟩ gI H;exact fin H gI (rfl)
 ·refine eu 5 8 rfl rfl fun _ a w G1 hG HT H fin=>?_;refine O1 H wn rfl rfl rfl ?_;clear H;intro a H;exact fin H iJ (aB vi (by omega))
 ·refine Bo rfl fun _ a w G1 hG HT H fin=>?_;refine nS H wn rfl rfl ?_;clear H;intro a H;exact fin H iJ rfl
 ·refine dH 6 9 7 10 rfl rfl fun _ a w G1 hG HT H fin=>?_;refine s_call GJ H wn rfl (Je _ _ H.ro (min l.length 64) (E9 l) _ (by omega) ((hcb.mono hG).le (Nat.min_le_left _ _))) rfl ?_;clear H;rintro v11 ru a w rfl kZ H;exact fin H kZ (rfl)
 clear H;intro a w G iP H hv;have H:=H.aN (hv 3 6 rfl rfl) rfl;have H:=H.aN (hv 8 11 rfl rfl) rfl;clear hv;refine gJ qm iA [_,_] [_,_] H wn rfl rfl rfl rfl rfl (by intro i q h;match i,h with|0,h=>exact h|1,h=>exact h|n+2,h=>simp at h) rfl rfl ?_;clear H;intro b12 a w EB H;obtain ⟨zT,vX,EC,H⟩:=H.dZ;refine s_call qC H wn rfl (qD _ _ H.ro _ _ (yC EC)) rfl ?_;clear H;rintro v13 _ a w ⟨rfl,rfl⟩ - H;refine kH H (Ra rfl ?_);clear H;intro a H;refine aC ⟨rfl,?_⟩;refine dR ?_;refine uH 0 H ?_;exact rfl
end
section
open Go.RowKit
theorem uf:prog.underlying 31=some (.slice 192):=by kernel_rfl
instance:kg prog 31 (.slice 192):=⟨uf⟩
instance jF:Ty prog 192 6 72 [.int .i64 0,.int .i64 0,.string ⟨#[]⟩,.int .i64 0,.int .i64 0,.slice none 0 0] true:=⟨by kernel_rfl,by kernel_rfl⟩
instance RB:dS prog 192 1 1:=⟨by kernel_rfl⟩
instance ajM:dS prog 192 2 2:=⟨by kernel_rfl⟩
instance Ah:dS prog 192 0 0:=⟨by kernel_rfl⟩
theorem Yf:∀ args w,(callFunc 243 args).run prog w=.ok (.enter 243 args) w:=enters func243 rfl (by kernel_rfl)
theorem ahK:∀ args w,(callFunc 221 args).run prog w=.ok (.enter 221 args) w:=enters func221 rfl (by kernel_rfl)
theorem ahS:∀ args w,(callFunc 244 args).run prog w=.ok (.enter 244 args) w:=enters func244 rfl (by kernel_rfl)
theorem ahT:∀ args w,(callFunc 245 args).run prog w=.ok (.enter 245 args) w:=enters func245 rfl (by kernel_rfl)
structure bS where
 id:Int
 kind:Int
 name:ByteArray
 base:Int
 next:Int
 props:List aT
def bS.dat (x:bS):List Dat:=[li x.id,li x.kind,.lf (.string x.name),li x.base,li x.next,.sl 2 (x.props.map aT.dat)]
theorem Le {G:GH} {x:bS} {cs:List aj} (h:aW G x.dat cs):∃ A c,cs=[vi x.id,vi x.kind,.string x.name,vi x.base,vi x.next,.slice A x.props.length c]∧au G (.sl 2 (x.props.map aT.dat)) (.slice A x.props.length c):=by
 simp only [bS.dat,aW] at h
 obtain ⟨v1,_,rfl,h1,v2,_,rfl,h2,v3,_,rfl,h3,v4,_,rfl,h4,v5,_,rfl,h5,v6,_,rfl,h6,rfl⟩:=h
 simp only [au] at h1 h2 h3 h4 h5
 obtain ⟨rfl,-⟩:=h1;obtain ⟨rfl,-⟩:=h2;obtain ⟨rfl,-⟩:=h3;obtain ⟨rfl,-⟩:=h4;obtain ⟨rfl,-⟩:=h5;obtain ⟨A,c,rfl,-,-,-⟩:=h6.slice;rw [bM] at *;exact ⟨A,c,rfl,h6⟩
theorem Cw {G:GH} {l:List bS} {A:Option Addr} {n c k:Nat} (hv:au G (.sl 6 (l.map bS.dat)) (.slice A n c)) (hk:k < l.length):∃ b o pA pc,A=some ⟨b,o,none⟩∧(∀ j u,[vi l[k].id,vi l[k].kind,.string l[k].name,vi l[k].base,vi l[k].next,.slice pA l[k].props.length pc][j]?=some u→aI G b (o+k*6+j)=some u)∧au G (.sl 2 (l[k].props.map aT.dat)) (.slice pA l[k].props.length pc) ∧
  aW G l[k].dat [vi l[k].id,vi l[k].kind,.string l[k].name,vi l[k].base,vi l[k].next,.slice pA l[k].props.length pc]:=by
 obtain ⟨A',c',he,_,_,hg⟩:=hv.slice
 injection he with e1 e2 e3
 subst e1;obtain ⟨b,o,cs,h1,h2,h3,h4⟩:=hg k l[k].dat (by simp [hk]);obtain ⟨pA,pc,rfl,hp⟩:=Le h4;exact ⟨b,o,pA,pc,h1,h3,hp,h4⟩
def okB (x:Int):Bool:=decide (32≤x∧x≤126)
def Fb (s:ByteArray) (k:Nat):Bool:=(List.range k).all fun i=>okB (fZ s i)
def nP (s:ByteArray):Bool:=decide (s.size≠0∧s.size≤40∧fZ s 0≠32∧fZ s (s.size - 1)≠32) && Fb s s.size
theorem aor (s:ByteArray) (k:Nat):Fb s (k+1)=(Fb s k && okB (fZ s k)):=by simp [Fb,List.range_succ]
theorem Fe {s:ByteArray} {k:Nat} (hk:k < s.size) (h:okB (fZ s k)=false):Fb s s.size=false:=by
 rw [Fb,List.all_eq_false];exact ⟨k,by simpa using hk,by simp [h]⟩
theorem Oh (G:GH) (w0:World) (hG:Hold G w0) (s:ByteArray) (hs:s.size≤4611686018427387904):Calls prog 218 #[.string s] w0 (bB w0 G fun u G'=>u=.bool (nP s)):=by
 refine eN [(0,_)] func218 rfl ntmps218 rfl rfl hG ?_;refine jV 9 7 ?_ ?_
 ·intro h7
  try have p7:=dT h7
  refine aQ 22 ?_
  first
   | exact (dD (by rw [nP,jc (by omega),wH]))
   | exact (dD (by rw [nP,iT (by omega),show s.size=k by omega,hno];rfl))
   | exact (dD (by rw [nP,Fe (k:=k) (by omega) (jc (by omega)),Bool.and_false]))
 intro h7
 try have p7:=dF h7
 refine ak 1 ?_;intro a H;refine DT jG H (wg H rfl rfl h7) rfl rfl ?_;clear H;refine jV 3 12 ?_ ?_
 ·intro h12
  try have pI:=dT h12
  refine aQ 17 ?_
  first
   | exact (dD (by rw [nP,jc (by omega),wH]))
   | exact (dD (by rw [nP,iT (by omega),show s.size=k by omega,hno];rfl))
   | exact (dD (by rw [nP,Fe (k:=k) (by omega) (jc (by omega)),Bool.and_false]))
 intro h12
 try have pI:=dF h12
 refine ak 1 ?_;intro a H;refine oL 0 jG H (wg H rfl rfl h12) rfl rfl rfl (by omega) rfl ?_;clear H;intro a H;rw [← kW] at H;refine kT 3 17 H ?_ ?_ <;> clear H
 ·intro jr
  try have jJ:=dT jr
  refine aQ 12 ?_
  first
   | exact (dD (by rw [nP,jc (by omega),wH]))
   | exact (dD (by rw [nP,iT (by omega),show s.size=k by omega,hno];rfl))
   | exact (dD (by rw [nP,Fe (k:=k) (by omega) (jc (by omega)),Bool.and_false]))
 intro jr
 try have jJ:=dF jr
 refine ak 2 ?_;intro a H;refine DT jG H (wg H rfl rfl jr) rfl rfl ?_;clear H;intro a H;refine lK _ H (wg H rfl rfl jr) rfl rfl rfl (by omega) (by omega) rfl ?_;clear H;intro a H;refine oL (s.size - 1) jG H (wg H rfl rfl jr) rfl rfl (by omega) (by omega) rfl ?_;clear H;intro a H;rw [← kW] at H;refine gQ 3 H ?_ ?_ <;> clear H
 ·intro jq
  refine aQ 3 ?_
  first
   | exact (dD (by rw [nP,jc (by omega),wH]))
   | exact (dD (by rw [nP,iT (by omega),show s.size=k by omega,hno];rfl))
   | exact (dD (by rw [nP,Fe (k:=k) (by omega) (jc (by omega)),Bool.and_false]))
 intro jq
 refine ak 8 ?_;intro a H;refine eH (ι:=Nat) (Tc:=[(0,_),(26,_)]) (Lc:=[]) (fun gh=>[(27,vi gh)]) (fun gh=>[]) (fun gh=>G) (fun gh=>gh≤s.size∧Fb s gh=true) (fun gh=>s.size - gh) (0) sB ?_ ?_
 ·exact ⟨gW _,rfl⟩
 clear H;intro k a w hI H;obtain ⟨hk,hno⟩:=hI;dsimp only [lca,bG] at H;refine dQ 4 H ?_ ?_ <;> clear H
 ·intro p28
  refine ak 10 ?_;intro a H;refine oL k jG H wn rfl rfl rfl (by omega) rfl ?_;clear H;intro a H;rw [← kW] at H;refine kT 2 34 H ?_ ?_ <;> clear H
  ·intro kY
   try have p34:=dT kY
   refine aQ 10 ?_
   first
    | exact (dD (by rw [nP,jc (by omega),wH]))
    | exact (dD (by rw [nP,iT (by omega),show s.size=k by omega,hno];rfl))
    | exact (dD (by rw [nP,Fe (k:=k) (by omega) (jc (by omega)),Bool.and_false]))
  intro kY
  try have p34:=dF kY
  refine ak 2 ?_;intro a H;refine oL k jG H (wg H rfl rfl kY) rfl rfl rfl (by omega) rfl ?_;clear H;intro a H;rw [← kW] at H;refine gQ 3 H ?_ ?_ <;> clear H
  ·intro p39
   refine aQ 3 ?_
   first
    | exact (dD (by rw [nP,jc (by omega),wH]))
    | exact (dD (by rw [nP,iT (by omega),show s.size=k by omega,hno];rfl))
    | exact (dD (by rw [nP,Fe (k:=k) (by omega) (jc (by omega)),Bool.and_false]))
  intro p39
  refine ak 4 ?_;intro a H;refine aC ?_;refine cB ((k+1)) sB ?_ ?_
  ·exact ⟨by omega,by rw [aor,hno];simp [okB];omega⟩
  first|omega|(dsimp only;omega)
 intro p28
 refine aQ 4 ?_
 first
  | exact (dD (by rw [nP,jc (by omega),wH]))
  | exact (dD (by rw [nP,iT (by omega),show s.size=k by omega,hno];rfl))
  | exact (dD (by rw [nP,Fe (k:=k) (by omega) (jc (by omega)),Bool.and_false]))
theorem aaA (G:GH) (w0:World) (hG:Hold G w0) (l:List bS) (p:bS→Bool) (v fv:aj) (hv:au G (.sl 6 (l.map bS.dat)) v) (hf:∀ x∈l,rC fv G x.dat (p x)) :
  Calls prog 243 #[v,fv] w0 (bB w0 G fun u G'=>u=vi (mJ (l.findIdx? p))):=by
 obtain ⟨A,c,rfl,hc1,hc2,-⟩:=hv.slice;have hml:maxLen=9223372036854775807:=rfl;rw [bM] at *;refine eN [(0,_),(1,_)] func243 rfl ntmps243 rfl rfl hG ?_;refine ak 10 ?_;intro a H;refine eH (ι:=Nat × GH) (Tc:=[(0,_),(1,_),(7,_)]) (Lc:=[]) (fun gh=>[(8,vi gh.1)]) (fun gh=>[]) (fun gh=>gh.2) (fun gh=>gh.1≤l.length∧(l.take gh.1).findIdx? p=none∧(∀ b o,G b=some o→gh.2 b=some o)) (fun gh=>l.length - gh.1) ((0,G)) sB ?_ ?_
 ·exact ⟨by omega,rfl,fun _ _ h=>h⟩
 clear H;rintro ⟨k,g⟩ a w hI H;dsimp only at hI H;obtain ⟨hk,hno,hgm⟩:=hI;dsimp only [lca,bG] at H;refine dQ 4 H ?_ ?_ <;> clear H
 ·intro p9
  have hk2:k < l.length:=by omega
  obtain ⟨b,o,pA,pc,rfl,hrow,hp,hrep⟩:=Cw (hv.mono hgm) hk2;refine ak 12 ?_;intro a H;refine aS jF (cs:=[_,_,_,_,_,_]) H wn rfl rfl (fun j v hj=>H.hp.aI (hrow j v hj)) rfl ?_;clear H;intro a H;refine ji H wn rfl rfl (hf _ (lD hk2) _ _ _ hgm H.ro hrep) rfl ?_;clear H;rintro v16 nV a w rfl jv H;refine iU 1 H ?_ ?_ <;> clear H
  ·intro h16
   try have p16:=dT h16
   refine aQ 4 ?_
   first
    | exact (by rw [rW hk2 hno h16];rfl)
    | exact (by rw [show l.take k=l from fK (by omega)] at hno;rw [hno];rfl)
  intro h16
  try have p16:=dF h16
  refine ak 4 ?_;intro a H;refine aC ?_;refine cB ((k+1,nV)) sB ?_ ?_
  ·(try dsimp only);exact ⟨by omega,Cc hk2 hno h16,fun b o h=>jv b o (hgm b o h)⟩
  first|omega|(dsimp only;omega)
 intro p9
 refine aQ 4 ?_
 first
  | exact (by rw [rW hk2 hno h16];rfl)
  | exact (by rw [show l.take k=l from fK (by omega)] at hno;rw [hno];rfl)
def KO (p q:ByteArray):Bool:=p.toList == q.toList
theorem ajX {G:GH} {bk bn:Nat} {kind:Int} {name:ByteArray} (hk:aI G bk 0=some (vi kind)) (hn:aI G bn 0=some (.string name)) (x:bS):rC (.func (.func 244) #[] #[(aG bk 0),(aG bn 0)]) G x.dat (decide (x.kind=kind) && KO x.name name):=by
 intro G1 w0 cs hm hG hr;refine iN (caps:=[(aG bk 0),(aG bn 0)]) ahS ?_;obtain ⟨pA,pc,rfl,-⟩:=Le hr;replace hk:=aH hm hk;replace hn:=aH hm hn;refine eN [(0,_),(1,_),(2,_)] func244 rfl ntmps244 rfl rfl hG ?_;refine ak 1 ?_;intro a H;refine dP (cs:=[_,_,_,_,_,_]) H wn rfl rfl rfl ?_;clear H;intro b3 a w hb3 H;refine kT 8 9 H ?_ ?_ <;> clear H
 ·intro h9
  try have p9:=dT h9
  refine ak 3 ?_;intro a H;refine AY H (wg H rfl rfl h9) rfl rfl rfl ?_;clear H;refine aQ 3 ?_;unfold KO;simp_all
 intro h9
 try have p9:=dF h9
 refine aQ 7 ?_;unfold KO;simp_all
theorem ajW {G:GH} {bi:Nat} {id:Int} (hb:aI G bi 0=some (vi id)) (x:bS):rC (.func (.func 245) #[] #[(aG bi 0)]) G x.dat (decide (x.id=id)):=by
 intro G1 w0 cs hm hG hr;refine iN (caps:=[(aG bi 0)]) ahT ?_;obtain ⟨pA,pc,rfl,-⟩:=Le hr;replace hb:=aH hm hb;refine eN [(0,_),(1,_)] func245 rfl ntmps245 rfl rfl hG ?_;refine ak 1 ?_;intro a H;refine dP (cs:=[_,_,_,_,_,_]) H wn rfl rfl rfl ?_;clear H;intro b2 a w hb2 H;refine fH 9 H ?_;exact rfl
def Df (l:List bS) (kind:Int) (name:ByteArray):Option Nat:=l.findIdx? fun x=>decide (x.kind=kind) && KO x.name name
def Nc (l:List bS) (id:Int):Option Nat:=l.findIdx? fun x=>decide (x.id=id)
theorem aaF (o:Option Nat):decide (0≤mJ o)=o.isSome:=by cases o <;> simp [mJ]
theorem ajY (G:GH) (w0:World) (hG:Hold G w0) (l:List bS) (kind:Int) (name:ByteArray) (v:aj) (hv:au G (.sl 6 (l.map bS.dat)) v) :
  Calls prog 219 #[v,vi kind,.string name] w0 (bB w0 G fun u G'=>u=.tuple #[vi (max (mJ (Df l kind name)) 0),.bool (Df l kind name).isSome]):=by
 obtain ⟨A,c,rfl,hc1,hc2,-⟩:=hv.slice;rw [bM] at *;refine eN [(0,_),(1,_),(2,_)] func219 rfl ntmps219 rfl rfl hG ?_;refine ak 1 ?_;intro a H;refine dP (cs:=[_]) H wn rfl rfl rfl ?_;clear H;intro b4 a w hb4 H;refine dP (cs:=[_]) H wn rfl rfl rfl ?_;clear H;intro b5 a w hb5 H;refine aD 3 H ?_;clear H;intro a H;obtain ⟨Ga,hma,xR,H⟩:=H.dZ;obtain ⟨Gb,hmb,zk,H⟩:=H.dZ
 have q4:aI Gb b4 0=some (vi kind):=by unfold aI;rw [zk];rfl
 have q5:aI Gb b5 0=some (.string name):=by unfold aI;rw [hmb _ _ xR];rfl
 refine fO 2 H ?_;clear H;intro a H;refine nS H wn rfl rfl ?_;clear H;intro a H;refine s_call Yf H wn rfl (aaA _ _ H.ro l (fun x=>decide (x.kind=kind) && KO x.name name) _ _ ((hv.mono hma).mono hmb) (fun x _=>ajX q4 q5 x)) rfl ?_;clear H;rintro v11 ru a w rfl BO H;refine aD 4 H ?_;clear H;intro a H;refine OZ H wn rfl rfl rfl ?_;clear H;refine ak 5 ?_;intro a H;refine bZ ?_;refine (eT H results219 (.cons (bq H rfl) (.cons (bq H rfl) .nil)) ?_).1;exact H.rt (by rw [← aaF];rfl)
theorem ajZ (G:GH) (w0:World) (hG:Hold G w0) (l:List bS) (id:Int) (v:aj) (hv:au G (.sl 6 (l.map bS.dat)) v) :
  Calls prog 221 #[v,vi id] w0 (bB w0 G fun u G'=>u=.tuple #[vi (max (mJ (Nc l id)) 0),.bool (Nc l id).isSome]):=by
 obtain ⟨A,c,rfl,hc1,hc2,-⟩:=hv.slice;rw [bM] at *;refine eN [(0,_),(1,_)] func221 rfl ntmps221 rfl rfl hG ?_;refine ak 1 ?_;intro a H;refine dP (cs:=[_]) H wn rfl rfl rfl ?_;clear H;intro b3 a w hb3 H;refine aD 3 H ?_;clear H;intro a H;obtain ⟨Ga,hma,uL,H⟩:=H.dZ
 have q3:aI Ga b3 0=some (vi id):=by unfold aI;rw [uL];rfl
 refine fO 2 H ?_;clear H;intro a H;refine nS H wn rfl rfl ?_;clear H;intro a H;refine s_call Yf H wn rfl (aaA _ _ H.ro l (fun x=>decide (x.id=id)) _ _ (hv.mono hma) (fun x _=>ajW q3 x)) rfl ?_;clear H;rintro v9 G9 a w rfl wT H;refine aD 4 H ?_;clear H;intro a H;refine OZ H wn rfl rfl rfl ?_;clear H;refine ak 5 ?_;intro a H;refine bZ ?_;refine (eT H results221 (.cons (bq H rfl) (.cons (bq H rfl) .nil)) ?_).1;exact H.rt (by rw [← aaF];rfl)
def EZ (l:List bS) (kind id:Int):Bool:=match Nc l id with|some i=>decide ((l[i]?.map bS.kind)=some kind)|none=>false
theorem Ui (G:GH) (w0:World) (hG:Hold G w0) (l:List bS) (kind id:Int) (v:aj) (hv:au G (.sl 6 (l.map bS.dat)) v) :
  Calls prog 181 #[v,vi kind,vi id] w0 (bB w0 G fun u G'=>u=.bool (EZ l kind id)):=by
 obtain ⟨A,c,rfl,hc1,hc2,-⟩:=hv.slice;rw [bM] at *;refine eN [(0,_),(1,_),(2,_)] func181 rfl ntmps181 rfl rfl hG ?_;refine ak 6 ?_;intro a H;refine s_call ahK H wn rfl (ajZ _ _ H.ro l id _ hv) rfl ?_;clear H;rintro v12 zT a w rfl vX H;obtain ⟨o,ho⟩:∃ o,o=Nc l id:=⟨_,rfl⟩;rw [← ho] at H;refine aD 1 H ?_;clear H;intro a H;(iterate 2 refine jK H wn rfl rfl rfl ?_;clear H;intro a H);refine kT 6 16 H ?_ ?_ <;> clear H
 ·intro h16
  try have p16:=dT h16
  obtain ⟨i,rfl⟩:=Option.isSome_iff_exists.1 h16
  have hil:i < l.length:=by
   obtain ⟨hi,-⟩:=List.findIdx?_eq_some_iff_getElem.1 ho.symm;exact hi
  intro a H;rw [show max (mJ (some i)) 0=(i:Int) by simp [mJ]] at H;obtain ⟨b,o',pA,pc,rfl,hrow,hp,hrep⟩:=Cw (hv.mono vX) hil;have r1:aI zT b (o'+i*6+1)=some (vi l[i].kind):=hrow 1 _ rfl;refine fH 10 H ?_
  first
   | exact (dD (by rw [EZ,← ho];dsimp only;rw [eO hil];simp))
   | exact (dD (by rw [EZ,← ho];cases o <;> simp_all))
 intro h16
 try have p16:=dF h16
 refine aQ 10 ?_
 first
  | exact (dD (by rw [EZ,← ho];dsimp only;rw [eO hil];simp))
  | exact (dD (by rw [EZ,← ho];cases o <;> simp_all))
end
section
open Go.RowKit
theorem M8:∀ args w,(callFunc 218 args).run prog w=.ok (.enter 218 args) w:=enters func218 rfl (by kernel_rfl)
theorem ahH:∀ args w,(callFunc 219 args).run prog w=.ok (.enter 219 args) w:=enters func219 rfl (by kernel_rfl)
instance RD:dS prog 192 5 5:=⟨by kernel_rfl⟩
theorem ahJ:∀ args w,(callFunc 220 args).run prog w=.ok (.enter 220 args) w:=enters func220 rfl (by kernel_rfl)
theorem X4:∀ args w,(callFunc 129 args).run prog w=.ok (.enter 129 args) w:=enters func129 rfl (by kernel_rfl)
theorem au.pre {G:GH} {sz:Nat} {rows:List (List Dat)} {A:Option Addr} {n c:Nat} (h:au G (.sl sz rows) (.slice A n c)) (k:Nat) (hk:k≤rows.length):au G (.sl sz (rows.take k)) (.slice A k c):=by
 have h:=h.part 0 k (gW _) hk
 have e:(if c=0 then A else A.map (·.add (0*sz)))=A:=by
  split
  ·rfl
  cases A <;> simp [Addr.add]
 rw [e] at h
 simpa using h
theorem agi (G:GH) (w0:World) (hG:Hold G w0) (kind:Int):Calls prog 220 #[vi kind] w0 (bB w0 G fun u G'=>u=vi (if kind=1 then 2 else 1)):=by
 refine eN [(0,_)] func220 rfl ntmps220 rfl rfl hG ?_;refine goB 8 ?_ ?_
 ·intro p4
  refine aQ 3 ?_;first|(rw [av (by omega)];done)|rw [ah (by omega)]
 intro p4
 refine aQ 4 ?_;first|(rw [av (by omega)];done)|rw [ah (by omega)]
def xZ (l:List bS) (k:Nat):Option Int:=if k=0 then none else l[k - 1]?.map bS.id
theorem OG {l:List bS} {k:Nat} (h:k=0):xZ l k=none:=av h
def Gn (k:Int):Bool:=decide (k=20) || decide (k=1)
def lX (q:Option Int) (dup:Bool) (s:bS):Int :=
 if s.id < 1∨1073741824 < s.id then 18 else if q=some s.id then 7 else if DF q s.id=true then 6 else if s.kind≠1∧s.kind≠2 then 3 else if nP s.name=false then 13 else if dup=true then 7
 else if s.props.any (fun p=>Gn p.key)=true then 4 else gN (if s.kind=1 then 2 else 1) s.props
def iX (l:List bS) (k:Nat) (s:bS):Int:=lX (xZ l k) (Df (l.take k) s.kind s.name).isSome s
theorem aoT (G:GH) (w0:World) (hG:Hold G w0) (l:List bS) (k:Nat) (v:aj) (hv:au G (.sl 6 (l.map bS.dat)) v) (hk:k < l.length) (hs:l[k].name.size≤4611686018427387904) :
  Calls prog 180 #[v,vi k] w0 (bB w0 G fun u G'=>u=vi (iX l k l[k])):=by
 obtain ⟨A,c,rfl,hc1,hc2,-⟩:=hv.slice;have hml:maxLen=9223372036854775807:=rfl;rw [bM] at *;obtain ⟨b,o,pA,pc,rfl,hrow,hp,hrep⟩:=Cw hv hk;obtain ⟨x,hx⟩:∃ x,x=l[k]:=⟨_,rfl⟩;rw [← hx] at hs hrow hp hrep ⊢;have hdp:∀ j v,[vi x.id,vi x.kind,.string x.name,vi x.base,vi x.next,.slice pA x.props.length pc][j]?=some v→aI G b (o+k*6+j)=some v:=hrow;obtain ⟨_,_,he0,atZ,aua,-⟩:=hp.slice
 injection he0 with _ he1 he2
 rw [bM] at *;subst he2
 obtain ⟨pk,hpk⟩:∃ pk,0 < k→aI G b (o+(k - 1)*6+0)=some (vi pk)∧xZ l k=some pk:=by
  by_cases h0:0 < k
  ·obtain ⟨b',o',_,_,he,hr',-,-⟩:=Cw hv (show k - 1 < l.length by omega)
   injection he with he
   injection he with e1 e2 e3
   subst e1;subst e2;exact ⟨_,fun _=>⟨hr' 0 _ rfl,by rw [xZ,ah (by omega),eO (by omega)];rfl⟩⟩
  exact ⟨0,fun h=>absurd h h0⟩
 refine eN [(0,_),(1,_)] func180 rfl ntmps180 rfl rfl hG ?_;refine ak 7 ?_;intro a H;refine aS jF (cs:=[_,_,_,_,_,_]) H wn rfl rfl (fun j v hj=>H.hp.aI (hrow j v hj)) rfl ?_;clear H;intro a H;refine dz jF H wn rfl ?_;clear H;intro b5 a w hb5 H;refine aV jF 0 (vs:=[_,_,_,_,_,_]) _ H wn rfl rfl rfl rfl rfl rfl rfl rfl ?_;clear H;intro w H;dsimp only [List.set,setRow] at H;refine aC ?_;refine dR ?_;refine qz (ι:=GH) (Tc:=[(0,_),(1,_),(5,_)]) (Lc:=[(_,_)]) (fun gh=>[]) (fun gh=>[]) (fun gh=>gh) (fun gh=>¬ (x.id < 1∨1073741824 < x.id)∧¬ xZ l k=some x.id∧¬ DF (xZ l k) x.id=true∧¬ (x.kind≠1∧x.kind≠2)∧¬ nP x.name=false∧(∀ b o,G b=some o→gh b=some o)) sB ?_ ?_
 ·refine Ak 6 18 H ?_ ?_ <;> clear H
  ·intro qJ
   refine aQ 10 ?_
   first
    | exact (aB vi e0.symm)
    | exact (aB vi e4.symm)
    | exact (aB vi e7.symm)
    | exact (aB vi e13.symm)
    | exact (aB vi e3.symm)
    | exact (aB vi e6.symm)
    | exact (aB vi (by rw [iX,lX,av (by omega)]))
  intro qJ
  refine goB 6 ?_ ?_
  ·intro jP
   refine aQ 3 ?_
   first
    | exact (aB vi e0.symm)
    | exact (aB vi e4.symm)
    | exact (aB vi e7.symm)
    | exact (aB vi e13.symm)
    | exact (aB vi e3.symm)
    | exact (aB vi e6.symm)
    | exact (aB vi (by rw [iX,lX,av (by omega)]))
  intro jP
  refine ak 1 ?_
  intro a H;by_cases c0:0 < (k:Int)
  ·skip
   by_cases c1:x.id=pk
   ·refine dI hmx [[],[0],[0,1],[0,1,2],(ra 0 4),[0,1,2],[0,1,2],[0,1,2,6],[0,1,2,5,6,7],[0,1,2,5,6,7,8],[0,1,2,5,6,7,8,9],(ra 0 11),(ra 0 12),(ra 0 13)] [13] (by kernel_rfl) [_,_,_,_,vi x.id,_,_,vi ((k - 1:Nat):Int),_,_,_,_,_] H (aF (Z0 rfl (Rm rfl)) (Z1 0 24 rfl (Rc rfl)) (Z1 1 25 rfl (Rm rfl)) (Z1 2 26 rfl (YF Ah (aK c0) rfl)) (aF (Z2 3 27 2 26 rfl (YO bR 0 (aK c0) rfl)) (Z1 2 26 rfl (YM (aK c0) rfl)) (Z1 2 26 rfl (YM (aK c0) rfl)) ?_ (aF (Z3 5 29 7 31 2 26 rfl (YI uf jF (aK c0) rfl rfl)) (Z2 8 32 2 26 rfl (YF Ah (aK c0) rfl)) (X2 9 33 2 26 rfl fun hG=>YR bR (aK c0) rfl (aH hG (hpk (by omega)).1)) (Z3 4 28 10 34 2 26 rfl (YC (aK c0) rfl)) (bH (Z2 2 26 11 35 rfl (Pt (aK c0) rfl)) (bH (bQ rfl) cZ))))) ?_
    ·refine dH 6 30 2 26 rfl rfl fun _ a w G1 hG HT H fin=>?_;refine lK _ H (wg H rfl rfl (aK c0)) rfl rfl rfl (by omega) (by omega) rfl ?_;clear H;intro a H;exact fin H iJ (by show _=_;first|rfl|exact aB vi (by omega))
    clear H;intro a w G BK H hv;have H:=H.aN (hv 12 36 rfl rfl) rfl;clear hv;refine t1 3 H ?_;clear H
    have e7:iX l k x=7:=by rw [iX,lX,ah (by omega),av (by rw [(hpk (by omega)).2,c1])]
    refine aQ 3 ?_
    first
     | exact (aB vi e0.symm)
     | exact (aB vi e4.symm)
     | exact (aB vi e7.symm)
     | exact (aB vi e13.symm)
     | exact (aB vi e3.symm)
     | exact (aB vi e6.symm)
     | exact (aB vi (by rw [iX,lX,av (by omega)]))
   refine dI hmx [[],[0],[0,1],[0,1,2],(ra 0 4),[0,1,2],[0,1,2],[0,1,2,6],[0,1,2,5,6,7],[0,1,2,5,6,7,8],[0,1,2,5,6,7,8,9],(ra 0 11),(ra 0 12),(ra 0 13)] [13] (by kernel_rfl) [_,_,_,_,vi x.id,_,_,vi ((k - 1:Nat):Int),_,_,_,_,_] H (aF (Z0 rfl (Rm rfl)) (Z1 0 24 rfl (Rc rfl)) (Z1 1 25 rfl (Rm rfl)) (Z1 2 26 rfl (YF Ah (aK c0) rfl)) (aF (Z2 3 27 2 26 rfl (YO bR 0 (aK c0) rfl)) (Z1 2 26 rfl (YM (aK c0) rfl)) (Z1 2 26 rfl (YM (aK c0) rfl)) ?_ (aF (Z3 5 29 7 31 2 26 rfl (YI uf jF (aK c0) rfl rfl)) (Z2 8 32 2 26 rfl (YF Ah (aK c0) rfl)) (X2 9 33 2 26 rfl fun hG=>YR bR (aK c0) rfl (aH hG (hpk (by omega)).1)) (Z3 4 28 10 34 2 26 rfl (YC (aK c0) rfl)) (bH (Z2 2 26 11 35 rfl (Pt (aK c0) rfl)) (bH (bQ rfl) cZ))))) ?_
   ·refine dH 6 30 2 26 rfl rfl fun _ a w G1 hG HT H fin=>?_;refine lK _ H (wg H rfl rfl (aK c0)) rfl rfl rfl (by omega) (by omega) rfl ?_;clear H;intro a H;exact fin H iJ (by show _=_;first|rfl|exact aB vi (by omega))
   clear H;intro a w G BK H hv;have H:=H.aN (hv 12 36 rfl rfl) rfl;clear hv;refine t1 4 H ?_;clear H
   have q1:¬ (0 < (k:Int)∧x.id=pk):=by first|exact fun h=>c1 h.2|exact fun h=>c0 h.1
   have q1':¬ xZ l k=some x.id:=fun h=>q1 (by
    by_cases h0:0 < k
    ·rw [(hpk h0).2] at h
     injection h with h
     exact ⟨by omega,h.symm⟩
    rw [OG (by omega)] at h
    cases h)
   intro a H;by_cases c3:x.id < pk
   ·refine dI hmx [[],[0],[0,1],[0,1,2],(ra 0 4),[0,1,2],[0,1,2],[0,1,2,6],[0,1,2,5,6,7],[0,1,2,5,6,7,8],[0,1,2,5,6,7,8,9],(ra 0 11),(ra 0 12),(ra 0 13)] [13] (by kernel_rfl) [_,_,_,_,vi x.id,_,_,vi ((k - 1:Nat):Int),_,_,_,_,_] H (aF (Z0 rfl (Rm rfl)) (Z1 0 38 rfl (Rc rfl)) (Z1 1 39 rfl (Rm rfl)) (Z1 2 40 rfl (YF Ah (aK c0) rfl)) (aF (Z2 3 41 2 40 rfl (YO bR 0 (aK c0) rfl)) (Z1 2 40 rfl (YM (aK c0) rfl)) (Z1 2 40 rfl (YM (aK c0) rfl)) ?_ (aF (Z3 5 43 7 45 2 40 rfl (YI uf jF (aK c0) rfl rfl)) (Z2 8 46 2 40 rfl (YF Ah (aK c0) rfl)) (X2 9 47 2 40 rfl fun hG=>YR bR (aK c0) rfl (aH hG (aH BK (hpk (by omega)).1))) (Z3 4 42 10 48 2 40 rfl (YC (aK c0) rfl)) (bH (Z2 2 40 11 49 rfl (Pt (aK c0) rfl)) (bH (bQ rfl) cZ))))) ?_
    ·refine dH 6 44 2 40 rfl rfl fun _ a w G1 hG HT H fin=>?_;refine lK _ H (wg H rfl rfl (aK c0)) rfl rfl rfl (by omega) (by omega) rfl ?_;clear H;intro a H;exact fin H iJ (by show _=_;first|rfl|exact aB vi (by omega))
    clear H;intro a w G gI H hv;have H:=H.aN (hv 12 50 rfl rfl) rfl;clear hv;refine t1 3 H ?_;clear H
    have e6:iX l k x=6:=by rw [iX,lX,ah (by omega),ah q1',av (by rw [(hpk (by omega)).2];exact aK c3)]
    refine aQ 3 ?_
    first
     | exact (aB vi e0.symm)
     | exact (aB vi e4.symm)
     | exact (aB vi e7.symm)
     | exact (aB vi e13.symm)
     | exact (aB vi e3.symm)
     | exact (aB vi e6.symm)
     | exact (aB vi (by rw [iX,lX,av (by omega)]))
   refine dI hmx [[],[0],[0,1],[0,1,2],(ra 0 4),[0,1,2],[0,1,2],[0,1,2,6],[0,1,2,5,6,7],[0,1,2,5,6,7,8],[0,1,2,5,6,7,8,9],(ra 0 11),(ra 0 12),(ra 0 13)] [13] (by kernel_rfl) [_,_,_,_,vi x.id,_,_,vi ((k - 1:Nat):Int),_,_,_,_,_] H (aF (Z0 rfl (Rm rfl)) (Z1 0 38 rfl (Rc rfl)) (Z1 1 39 rfl (Rm rfl)) (Z1 2 40 rfl (YF Ah (aK c0) rfl)) (aF (Z2 3 41 2 40 rfl (YO bR 0 (aK c0) rfl)) (Z1 2 40 rfl (YM (aK c0) rfl)) (Z1 2 40 rfl (YM (aK c0) rfl)) ?_ (aF (Z3 5 43 7 45 2 40 rfl (YI uf jF (aK c0) rfl rfl)) (Z2 8 46 2 40 rfl (YF Ah (aK c0) rfl)) (X2 9 47 2 40 rfl fun hG=>YR bR (aK c0) rfl (aH hG (aH BK (hpk (by omega)).1))) (Z3 4 42 10 48 2 40 rfl (YC (aK c0) rfl)) (bH (Z2 2 40 11 49 rfl (Pt (aK c0) rfl)) (bH (bQ rfl) cZ))))) ?_
   ·refine dH 6 44 2 40 rfl rfl fun _ a w G1 hG HT H fin=>?_;refine lK _ H (wg H rfl rfl (aK c0)) rfl rfl rfl (by omega) (by omega) rfl ?_;clear H;intro a H;exact fin H iJ (by show _=_;first|rfl|exact aB vi (by omega))
   clear H;intro a w G gI H hv;have H:=H.aN (hv 12 50 rfl rfl) rfl;clear hv;refine t1 3 H ?_;clear H;intro a H;refine Y6 ?_
   have q2:¬ (0 < (k:Int)∧x.id < pk):=by first|exact fun h=>c3 h.2|exact fun h=>c0 h.1
   have q2':¬ DF (xZ l k) x.id=true:=fun h=>q2 (by
    by_cases h0:0 < k
    ·rw [(hpk h0).2] at h;exact ⟨by omega,mD h⟩
    rw [OG (by omega)] at h
    cases h)
   refine Ak 5 55 H ?_ ?_ <;> clear H
   ·intro p55
    refine goB 6 ?_ ?_
    ·intro p51
     have e3:iX l k x=3:=by rw [iX,lX,ah (by omega),ah q1',ah q2',av (by omega)]
     refine aQ 3 ?_
     first
      | exact (aB vi e0.symm)
      | exact (aB vi e4.symm)
      | exact (aB vi e7.symm)
      | exact (aB vi e13.symm)
      | exact (aB vi e3.symm)
      | exact (aB vi e6.symm)
      | exact (aB vi (by rw [iX,lX,av (by omega)]))
    intro p51
    refine ak 3 ?_;intro a H;refine s_call M8 H wn rfl (Oh _ _ H.ro x.name hs) rfl ?_;clear H;rintro v63 Ec a w rfl hm63 H;refine iU 3 H ?_ ?_ <;> clear H
    ·intro jX
     try have p60:=dT jX
     have e13:iX l k x=13:=by rw [iX,lX,ah (by omega),ah q1',ah q2',ah (by omega),av (by simpa using jX)]
     refine aQ 3 ?_
     first
      | exact (aB vi e0.symm)
      | exact (aB vi e4.symm)
      | exact (aB vi e7.symm)
      | exact (aB vi e13.symm)
      | exact (aB vi e3.symm)
      | exact (aB vi e6.symm)
      | exact (aB vi (by rw [iX,lX,av (by omega)]))
    intro jX
    try have p60:=dF jX
    intro a H;refine jB ?_;refine ⟨Ec,sB,?_⟩;exact ⟨by omega,q1',q2',by omega,by simpa using jX,fun b o h=>hm63 b o (gI b o (BK b o h))⟩
   intro p55
   refine ak 10 ?_;intro a H;refine s_call M8 H wn rfl (Oh _ _ H.ro x.name hs) rfl ?_;clear H;rintro v63 Ec a w rfl hm63 H;refine iU 3 H ?_ ?_ <;> clear H
   ·intro jX
    try have p60:=dT jX
    have e13:iX l k x=13:=by rw [iX,lX,ah (by omega),ah q1',ah q2',ah (by omega),av (by simpa using jX)]
    refine aQ 3 ?_
    first
     | exact (aB vi e0.symm)
     | exact (aB vi e4.symm)
     | exact (aB vi e7.symm)
     | exact (aB vi e13.symm)
     | exact (aB vi e3.symm)
     | exact (aB vi e6.symm)
     | exact (aB vi (by rw [iX,lX,av (by omega)]))
   intro jX
   try have p60:=dF jX
   intro a H;refine jB ?_;refine ⟨Ec,sB,?_⟩;exact ⟨by omega,q1',q2',by omega,by simpa using jX,fun b o h=>hm63 b o (gI b o (BK b o h))⟩
  refine dI hmx [[],[0],[0,1],[0,1,2],(ra 0 4),[0,1,2],[0,1,2],[0,1,2,6],[0,1,2,5,6,7],[0,1,2,5,6,7,8],[0,1,2,5,6,7,8,9],(ra 0 11),(ra 0 12),(ra 0 13)] [13] (by kernel_rfl) [_,_,_,undef,undef,undef,undef,undef,undef,undef,undef,undef,_] H (aF (Z0 rfl (Rm rfl)) (Z1 0 24 rfl (Rc rfl)) (Z1 1 25 rfl (Rm rfl)) (aZ 2 (bD c0) rfl rfl) (aF (aZ 2 (bD c0) rfl rfl) (aZ 2 (bD c0) rfl rfl) (aZ 2 (bD c0) rfl rfl) (aZ 2 (bD c0) rfl rfl) (aF (aZ 2 (bD c0) rfl rfl) (aZ 2 (bD c0) rfl rfl) (aZ 2 (bD c0) rfl rfl) (aZ 2 (bD c0) rfl rfl) (bH (Z2 2 26 11 35 rfl (Pf (bD c0) rfl)) (bH (bQ rfl) cZ))))) ?_
  clear H;intro a w G BK H hv;have H:=H.aN (hv 12 36 rfl rfl) rfl;clear hv;refine t1 4 H ?_;clear H
  have q1:¬ (0 < (k:Int)∧x.id=pk):=by first|exact fun h=>c1 h.2|exact fun h=>c0 h.1
  have q1':¬ xZ l k=some x.id:=fun h=>q1 (by
   by_cases h0:0 < k
   ·rw [(hpk h0).2] at h
    injection h with h
    exact ⟨by omega,h.symm⟩
   rw [OG (by omega)] at h
   cases h)
  intro a H;refine dI hmx [[],[0],[0,1],[0,1,2],(ra 0 4),[0,1,2],[0,1,2],[0,1,2,6],[0,1,2,5,6,7],[0,1,2,5,6,7,8],[0,1,2,5,6,7,8,9],(ra 0 11),(ra 0 12),(ra 0 13)] [13] (by kernel_rfl) [_,_,_,undef,undef,undef,undef,undef,undef,undef,undef,undef,_] H (aF (Z0 rfl (Rm rfl)) (Z1 0 38 rfl (Rc rfl)) (Z1 1 39 rfl (Rm rfl)) (aZ 2 (bD c0) rfl rfl) (aF (aZ 2 (bD c0) rfl rfl) (aZ 2 (bD c0) rfl rfl) (aZ 2 (bD c0) rfl rfl) (aZ 2 (bD c0) rfl rfl) (aF (aZ 2 (bD c0) rfl rfl) (aZ 2 (bD c0) rfl rfl) (aZ 2 (bD c0) rfl rfl) (aZ 2 (bD c0) rfl rfl) (bH (Z2 2 40 11 49 rfl (Pf (bD c0) rfl)) (bH (bQ rfl) cZ))))) ?_
  clear H;intro a w G gI H hv;have H:=H.aN (hv 12 50 rfl rfl) rfl;clear hv;refine t1 3 H ?_;clear H;intro a H;refine Y6 ?_
  have q2:¬ (0 < (k:Int)∧x.id < pk):=by first|exact fun h=>c3 h.2|exact fun h=>c0 h.1
  have q2':¬ DF (xZ l k) x.id=true:=fun h=>q2 (by
   by_cases h0:0 < k
   ·rw [(hpk h0).2] at h;exact ⟨by omega,mD h⟩
   rw [OG (by omega)] at h
   cases h)
  refine Ak 5 55 H ?_ ?_ <;> clear H
  ·intro p55
   refine goB 6 ?_ ?_
   ·intro p51
    have e3:iX l k x=3:=by rw [iX,lX,ah (by omega),ah q1',ah q2',av (by omega)]
    refine aQ 3 ?_
    first
     | exact (aB vi e0.symm)
     | exact (aB vi e4.symm)
     | exact (aB vi e7.symm)
     | exact (aB vi e13.symm)
     | exact (aB vi e3.symm)
     | exact (aB vi e6.symm)
     | exact (aB vi (by rw [iX,lX,av (by omega)]))
   intro p51
   refine ak 3 ?_;intro a H;refine s_call M8 H wn rfl (Oh _ _ H.ro x.name hs) rfl ?_;clear H;rintro v63 Ec a w rfl hm63 H;refine iU 3 H ?_ ?_ <;> clear H
   ·intro jX
    try have p60:=dT jX
    have e13:iX l k x=13:=by rw [iX,lX,ah (by omega),ah q1',ah q2',ah (by omega),av (by simpa using jX)]
    refine aQ 3 ?_
    first
     | exact (aB vi e0.symm)
     | exact (aB vi e4.symm)
     | exact (aB vi e7.symm)
     | exact (aB vi e13.symm)
     | exact (aB vi e3.symm)
     | exact (aB vi e6.symm)
     | exact (aB vi (by rw [iX,lX,av (by omega)]))
   intro jX
   try have p60:=dF jX
   intro a H;refine jB ?_;refine ⟨Ec,sB,?_⟩;exact ⟨by omega,q1',q2',by omega,by simpa using jX,fun b o h=>hm63 b o (gI b o (BK b o h))⟩
  intro p55
  refine ak 10 ?_;intro a H;refine s_call M8 H wn rfl (Oh _ _ H.ro x.name hs) rfl ?_;clear H;rintro v63 Ec a w rfl hm63 H;refine iU 3 H ?_ ?_ <;> clear H
  ·intro jX
   try have p60:=dT jX
   have e13:iX l k x=13:=by rw [iX,lX,ah (by omega),ah q1',ah q2',ah (by omega),av (by simpa using jX)]
   refine aQ 3 ?_
   first
    | exact (aB vi e0.symm)
    | exact (aB vi e4.symm)
    | exact (aB vi e7.symm)
    | exact (aB vi e13.symm)
    | exact (aB vi e3.symm)
    | exact (aB vi e6.symm)
    | exact (aB vi (by rw [iX,lX,av (by omega)]))
  intro jX
  try have p60:=dF jX
  intro a H;refine jB ?_;refine ⟨Ec,sB,?_⟩;exact ⟨by omega,q1',q2',by omega,by simpa using jX,fun b o h=>hm63 b o (gI b o (BK b o h))⟩
 clear H;intro g a w hI H;obtain ⟨q0,q1',q2',q3,q4,hgm⟩:=hI;dsimp only [lca,bG] at H;refine Dh ?_;refine Dh ?_;have aap:=(hv.mono hgm).pre k (by rw [bM];omega);rw [← List.map_take] at aap;have amD:=hp.mono hgm;refine dI hmx [[],[],[0,1],[],[3],[],[5],(ra 0 7),(ra 0 8),(ra 0 9),(ra 0 9),(ra 0 10),(ra 0 12)] [12] (by kernel_rfl) [_,_,.slice (some ⟨b,o,none⟩) k c,_,vi x.kind,_,.string x.name,.tuple #[vi (max (mJ (Df (l.take k) x.kind x.name)) 0),.bool (Df (l.take k) x.kind x.name).isSome],_,vi (max (mJ (Df (l.take k) x.kind x.name)) 0),.bool (Df (l.take k) x.kind x.name).isSome,_] H (aF (Z0 rfl (Rm rfl)) (Z0 rfl (Rm rfl)) ?_ (Z0 rfl (Rf RB rfl)) (aF (Z1 3 69 rfl (Ro bR 0 rfl)) (Z0 rfl (Rf ajM rfl)) (Z1 5 71 rfl (Ro mg 0 rfl)) ?_ (aF (Z1 7 73 rfl (Rm rfl)) ?_ ?_ (Z1 9 74 rfl (Ra rfl)) (bH (bQ rfl) cZ)))) ?_
 ·refine dH 0 66 1 67 rfl rfl fun _ a w G1 hG HT H fin=>?_;refine DU uf jF k H wn rfl rfl rfl (by omega) rfl ?_;clear H;intro a H;exact fin H iJ rfl
 ·refine xI 2 68 4 70 6 72 rfl rfl fun _ a w G1 hG HT H fin=>?_;refine s_call ahH H wn rfl (ajY _ _ H.ro (l.take k) x.kind x.name _ (aap.mono hG)) rfl ?_;clear H;rintro v73 G73 a w rfl akK H;exact fin H akK (rfl)
 ·refine eu 8 65 rfl rfl fun _ a w G1 hG HT H fin=>?_;refine jK H wn rfl rfl rfl ?_;clear H;intro a H;exact fin H iJ rfl
 ·refine eu 8 65 rfl rfl fun _ a w G1 hG HT H fin=>?_;refine jK H wn rfl rfl rfl ?_;clear H;intro a H;exact fin H iJ rfl
 clear H;intro a w G mV H hv;have H:=H.aN (hv 10 75 rfl rfl) rfl;clear hv;refine t1 5 H ?_;clear H;refine goC 0 ?_ ?_
 ·intro JG
  try have KP:=dT JG
  have e7:iX l k x=7:=by rw [iX,lX,ah (by omega),ah q1',ah q2',ah q3,ah q4,av JG]
  refine aQ 3 ?_
  first
   | exact (aB vi e0.symm)
   | exact (aB vi e4.symm)
   | exact (aB vi e7.symm)
   | exact (aB vi e13.symm)
   | exact (aB vi e3.symm)
   | exact (aB vi e6.symm)
   | exact (aB vi (by rw [iX,lX,av (by omega)]))
 intro JG
 try have KP:=dF JG
 refine ak 2 ?_
 have q5:¬ (Df (l.take k) x.kind x.name).isSome=true:=by simpa using JG
 have Du:=amD.mono mV;refine ak 7 ?_;intro a H;refine eH (ι:=Nat) (Tc:=[(5,_),(78,_),(79,_)]) (Lc:=[(_,_)]) (fun gh=>[(80,vi gh)]) (fun gh=>[]) (fun gh=>G) (fun gh=>gh≤x.props.length∧(x.props.take gh).any (fun p=>Gn p.key)=false) (fun gh=>x.props.length - gh) (0) sB ?_ ?_
 ·exact ⟨gW _,rfl⟩
 clear H;intro n a w hI H;obtain ⟨hn,hno⟩:=hI;dsimp only [lca,bG] at H;refine dQ 4 H ?_ ?_ <;> clear H
 ·intro p81
  have hn2:n < x.props.length:=by omega
  obtain ⟨pb,po,rfl,hrow2⟩:=Fq Du hn2;have hrow:=hrow2;refine ak 5 ?_;intro a H;refine aS gU (cs:=[_,_]) H wn rfl rfl (fun j v hj=>H.hp.aI (hrow j v hj)) rfl ?_;clear H;intro a H;refine dz gU H wn rfl ?_;clear H;intro b9 a w rQ H;refine aV gU 0 (vs:=[_,_]) _ H wn rfl rfl rfl rfl rfl rfl rfl rfl ?_;clear H;intro w H;dsimp only [List.set,setRow] at H;refine pW 6 87 H ?_ ?_ <;> clear H
  ·intro UY
   refine ak 6 ?_
   have e4:iX l k x=4:=by
    rw [iX,lX,ah (by omega),ah q1',ah q2',ah q3,ah q4,ah q5,av];rw [List.any_eq_true];exact ⟨x.props[n],lD hn2,by simp [Gn];omega⟩
   refine aQ 3 ?_
   first
    | exact (aB vi e0.symm)
    | exact (aB vi e4.symm)
    | exact (aB vi e7.symm)
    | exact (aB vi e13.symm)
    | exact (aB vi e3.symm)
    | exact (aB vi e6.symm)
    | exact (aB vi (by rw [iX,lX,av (by omega)]))
  intro UY
  refine goB 5 ?_ ?_
  ·intro p91
   have e4:iX l k x=4:=by
    rw [iX,lX,ah (by omega),ah q1',ah q2',ah q3,ah q4,ah q5,av];rw [List.any_eq_true];exact ⟨x.props[n],lD hn2,by simp [Gn];omega⟩
   refine aQ 3 ?_
   first
    | exact (aB vi e0.symm)
    | exact (aB vi e4.symm)
    | exact (aB vi e7.symm)
    | exact (aB vi e13.symm)
    | exact (aB vi e3.symm)
    | exact (aB vi e6.symm)
    | exact (aB vi (by rw [iX,lX,av (by omega)]))
  intro p91
  refine ak 4 ?_;intro a H;refine aC ?_;refine cB ((n+1)) (by exact (H.dY (Pl:=[_,_]) (dM:=[_]) [1] (by decide) rfl).sub ⟨rfl,rfl,rfl,rfl,aU⟩) ?_ ?_
  ·exact ⟨by omega,by rw [fQ hn2,List.any_append,hno];simp [Gn];omega⟩
  first|omega|(dsimp only;omega)
 intro p81
 refine ak 2 ?_
 have q6:¬ x.props.any (fun p=>Gn p.key)=true:=by
  rw [show x.props.take n=x.props from fK (by omega)] at hno;rw [hno];decide
 have e0:iX l k x=gN (if x.kind=1 then 2 else 1) x.props:=by rw [iX,lX,ah (by omega),ah q1',ah q2',ah q3,ah q4,ah q5,ah q6]
 intro a H;refine dI hmx [[],[0],[0,1],[],[3],(ra 0 5),(ra 0 6)] [5,6] (by kernel_rfl) [_,vi x.kind,vi (if x.kind=1 then 2 else 1),_,.slice pA x.props.length pc] H (aF (Z0 rfl (Rf RB rfl)) (Z1 0 93 rfl (Ro bR 0 rfl)) ?_ (Z0 rfl (Rf RD rfl)) (bH (Z1 3 96 rfl (Ro FE 0 rfl)) (bH (bQ rfl) (bH (bQ rfl) cZ)))) ?_
 ·refine eu 1 94 rfl rfl fun _ a w G1 hG HT H fin=>?_;refine s_call ahJ H wn rfl (agi _ _ H.ro x.kind) rfl ?_;clear H;rintro v95 G95 a w rfl akN H;exact fin H akN (rfl)
 clear H;intro a w G Hg H hv;have H:=H.aN (hv 2 95 rfl rfl) rfl;have H:=H.aN (hv 4 97 rfl rfl) rfl;clear hv;refine s_call X4 H wn rfl (abz _ _ H.ro _ x.props _ (Du.mono Hg)) rfl ?_;clear H;rintro v98 G98 a w rfl atY H;refine kH H (Ra rfl ?_);clear H;intro a H;refine aC ⟨rfl,?_⟩;refine dR ?_;refine uH 0 H ?_
 first
  | exact (aB vi e0.symm)
  | exact (aB vi e4.symm)
  | exact (aB vi e7.symm)
  | exact (aB vi e13.symm)
  | exact (aB vi e3.symm)
  | exact (aB vi e6.symm)
  | exact (aB vi (by rw [iX,lX,av (by omega)]))
end
section
open Go.RowKit
instance Pq:Ty prog 33 1 24 [.slice none 0 0] false:=⟨by kernel_rfl,by kernel_rfl⟩
theorem Bf:prog.underlying 33=some (.slice 107):=by kernel_rfl
instance:kg prog 33 (.slice 107):=⟨Bf⟩
instance yD:Ty prog 107 6 64 [.int .i64 0,.int .i64 0,.string ⟨#[]⟩,.int .i64 0,.string ⟨#[]⟩,.bool false] true:=⟨by kernel_rfl,by kernel_rfl⟩
instance:dS prog 107 0 0:=⟨by kernel_rfl⟩
instance:dS prog 107 1 1:=⟨by kernel_rfl⟩
theorem ahM:∀ args w,(callFunc 224 args).run prog w=.ok (.enter 224 args) w:=enters func224 rfl (by kernel_rfl)
theorem aht:∀ args w,(callFunc 187 args).run prog w=.ok (.enter 187 args) w:=enters func187 rfl (by kernel_rfl)
instance ajG:dS prog 107 2 2:=⟨by kernel_rfl⟩
theorem XZ:∀ args w,(callFunc 127 args).run prog w=.ok (.enter 127 args) w:=enters func127 rfl (by kernel_rfl)
instance ajH:dS prog 107 3 3:=⟨by kernel_rfl⟩
instance ajI:dS prog 107 4 4:=⟨by kernel_rfl⟩
theorem Q5:∀ args w,(callFunc 190 args).run prog w=.ok (.enter 190 args) w:=enters func190 rfl (by kernel_rfl)
theorem ahv:∀ args w,(callFunc 189 args).run prog w=.ok (.enter 189 args) w:=enters func189 rfl (by kernel_rfl)
theorem ahu:∀ args w,(callFunc 188 args).run prog w=.ok (.enter 188 args) w:=enters func188 rfl (by kernel_rfl)
theorem ahs:∀ args w,(callFunc 186 args).run prog w=.ok (.enter 186 args) w:=enters func186 rfl (by kernel_rfl)
theorem EY {G:GH} {b:Nat} (l:List Int) (h:G b=some (.cells (l.map vi).toArray 49 (0,0))) (hl:l.length≤maxLen):au G (.sl 1 (l.map fun k=>[li k])) (.slice (some ⟨b,0,none⟩) l.length l.length) :=
 au.eX h (by simp) (bP _) hl (fK (by simp)) (fF G l)
theorem QF {G:GH} {l:List fD} {A:Option Addr} {n c k:Nat} (hv:au G (.sl 6 (l.map fD.dat)) (.slice A n c)) (hk:k < l.length):∃ b o,A=some ⟨b,o,none⟩∧(∀ j u,l[k].cells[j]?=some u→aI G b (o+k*6+j)=some u)∧aW G l[k].dat l[k].cells:=by
 obtain ⟨A',c',he,_,_,hg⟩:=hv.slice
 injection he with e1 e2 e3
 subst e1;obtain ⟨b,o,cs,h1,h2,h3,h4⟩:=hg k l[k].dat (by simp [hk]);have:=MR h4;subst this;exact ⟨b,o,h1,h3,h4⟩
theorem afH {G:GH} {bl:Nat} {l:List fD} {A:Option Addr} {n c:Nat} (hb:aI G bl 0=some (.slice A n c)) (hv:au G (.sl 6 (l.map fD.dat)) (.slice A n c)):sO (.func (.func 189) #[] #[(aG bl 0)]) G l.length fun k=>(l[k]?.map fD.id).getD 0:=by
 intro k hk G1 w0 hm hG;refine iN (caps:=[(aG bl 0)]) ahv ?_;replace hb:=aH hm hb
 obtain rfl:n=l.length:=by have:=hv.len;simpa using this
 obtain ⟨b,o,rfl,hrow,-⟩:=QF (hv.mono hm) hk;have hq:=hrow 0 _ rfl;refine eN [(0,_),(1,_)] func189 rfl ntmps189 rfl rfl hG ?_;refine aQ 11 ?_;dsimp only;rw [eO hk];rfl
theorem afI {G:GH} {bc:Nat} {x:fD} (hb:aI G bc 1=some (vi x.parent)) (y:fD):rC (.func (.func 188) #[] #[(aG bc 0)]) G y.dat (decide (y.id=x.parent)):=by
 intro G1 w0 cs hm hG hr;refine iN (caps:=[(aG bc 0)]) ahu ?_;obtain rfl:=MR hr;replace hb:=aH hm hb;refine eN [(0,_),(1,_)] func188 rfl ntmps188 rfl rfl hG ?_;refine ak 1 ?_;intro a H;refine dP (cs:=[_,_,_,_,_,_]) H wn rfl rfl rfl ?_;clear H;intro b2 a w hb2 H;refine fH 10 H ?_;exact rfl
theorem anu (G:GH) (w0:World) (hG:Hold G w0) (l:List fD) (p:fD→Bool) (v fv:aj) (hv:au G (.sl 6 (l.map fD.dat)) v) (hf:∀ x∈l,rC fv G x.dat (p x)) :
  Calls prog 224 #[v,fv] w0 (bB w0 G fun u G'=>u=vi (mJ (l.findIdx? p))):=by
 obtain ⟨A,c,rfl,hc1,hc2,hg⟩:=hv.slice;have hml:maxLen=9223372036854775807:=rfl;rw [bM] at *;refine eN [(0,_),(1,_)] func224 rfl ntmps224 rfl rfl hG ?_;refine ak 10 ?_;intro a H;refine eH (ι:=Nat × GH) (Tc:=[(0,_),(1,_),(7,_)]) (Lc:=[]) (fun gh=>[(8,vi gh.1)]) (fun gh=>[]) (fun gh=>gh.2) (fun gh=>gh.1≤l.length∧(l.take gh.1).findIdx? p=none∧(∀ b o,G b=some o→gh.2 b=some o)) (fun gh=>l.length - gh.1) ((0,G)) sB ?_ ?_
 ·exact ⟨by omega,rfl,fun _ _ h=>h⟩
 clear H;rintro ⟨k,g⟩ a w hI H;dsimp only at hI H;obtain ⟨hk,hno,hgm⟩:=hI;dsimp only [lca,bG] at H;refine dQ 4 H ?_ ?_ <;> clear H
 ·intro p9
  have hk2:k < l.length:=by omega
  obtain ⟨b,o,rfl,hrow,hrep⟩:=QF hv hk2;refine ak 12 ?_;intro a H;refine aS yD (cs:=l[k].cells) H wn rfl rfl (fun j v hj=>H.hp.aI (aH hgm (hrow j v hj))) rfl ?_;clear H;intro a H;refine ji H wn rfl rfl (hf _ (lD hk2) _ _ _ hgm H.ro (hrep.mono hgm)) rfl ?_;clear H;rintro v16 nV a w rfl jv H;refine iU 1 H ?_ ?_ <;> clear H
  ·intro h16
   try have p16:=dT h16
   refine aQ 4 ?_
   first
    | exact (by rw [rW hk2 hno h16];rfl)
    | exact (by rw [show l.take k=l from fK (by omega)] at hno;rw [hno];rfl)
  intro h16
  try have p16:=dF h16
  refine ak 4 ?_;intro a H;refine aC ?_;refine cB ((k+1,nV)) sB ?_ ?_
  ·(try dsimp only);exact ⟨by omega,Cc hk2 hno h16,fun b o h=>jv b o (hgm b o h)⟩
  first|omega|(dsimp only;omega)
 intro p9
 refine aQ 4 ?_
 first
  | exact (by rw [rW hk2 hno h16];rfl)
  | exact (by rw [show l.take k=l from fK (by omega)] at hno;rw [hno];rfl)
theorem afK (G:GH) (w0:World) (hG:Hold G w0) (l:List fD) (p:fD→Bool) (v fv:aj) (hv:au G (.sl 6 (l.map fD.dat)) v) (hf:∀ x∈l,rC fv G x.dat (p x)) :
  Calls prog 187 #[v,fv] w0 (bB w0 G fun u G'=>u=.bool (l.findIdx? p).isSome):=by
 obtain ⟨A,c,rfl,hc1,hc2,-⟩:=hv.slice;rw [bM] at *;refine eN [(0,_),(1,_)] func187 rfl ntmps187 rfl rfl hG ?_;refine ak 6 ?_;intro a H;refine s_call ahM H wn rfl (anu _ _ H.ro l p _ _ hv hf) rfl ?_;clear H;rintro v7 G7 a w rfl wS H;refine fH 3 H ?_;exact (dD (Uj _))
def Gp (l:List fD) (i:Nat) (x:fD):Bool:=decide (x.parent=0) || ((l.take i).findIdx? fun y=>decide (y.id=x.parent)).isSome
def QE (l:List fD) (i:Nat) (x:fD):Int:=cO [qd (fun k=>(l[k]?.map fD.id).getD 0) i,dx (!Gp l i x) 8,dx (!wI x.author) 39,dx (!decide (0≤x.time∧x.time≤1099511627776)) 40,Cy x.text]
def Gy (l:List fD) (i:Nat):Int:=match l[i]? with|some x=>QE l i x|none=>0
theorem afG {G:GH} {bl:Nat} {l:List fD} {A:Option Addr} {n c:Nat} (hb:aI G bl 0=some (.slice A n c)) (hv:au G (.sl 6 (l.map fD.dat)) (.slice A n c)) (hl:l.length≤4294967296) (ht:∀ x∈l,x.author.size < 4611686018427387904∧x.text.size < 4611686018427387904):sO (.func (.func 186) #[] #[(aG bl 0)]) G l.length (Gy l):=by
 intro k hk G1 w0 hm hG;refine iN (caps:=[(aG bl 0)]) ahs ?_;replace hb:=aH hm hb;replace hv:=hv.mono hm;have hcb:=afH hb hv;obtain ⟨_,_,hee,hvc,-,-⟩:=hv.slice
 injection hee with _ _ hcc
 subst hcc;rw [bM] at hvc
 obtain rfl:n=l.length:=by have:=hv.len;simpa using this
 obtain ⟨b,o,rfl,hrow,hrep⟩:=QF hv hk;have hte:=ht _ (lD hk);obtain ⟨x,hx⟩:∃ x,x=l[k]:=⟨_,rfl⟩;rw [← hx] at hrow hte
 have he:Gy l k=QE l k x:=by unfold Gy;rw [eO hk,hx]
 refine eN [(0,_),(1,_)] func186 rfl ntmps186 rfl rfl hG ?_;refine ak 7 ?_;intro a H;refine aS yD (cs:=x.cells) H wn rfl rfl (fun j v hj=>H.hp.aI (hrow j v hj)) rfl ?_;clear H;intro a H;refine dz yD H wn rfl ?_;clear H;intro b4 a w hb4 H;refine aV yD 0 (vs:=[_,_,_,_,_,_]) _ H wn rfl rfl rfl rfl rfl rfl rfl rfl ?_;clear H;intro w H;dsimp only [List.set,setRow] at H;obtain ⟨Ga,hma,zk,H⟩:=H.dZ
 have hcell:∀ (j:Nat) (u:aj),x.cells[j]?=some u→aI Ga b4 j=some u:=fun j u hj=>by unfold aI;rw [zk];simpa using hj
 have q1:=hcell 1 _ rfl;have hbA:=aH hma hb;have Ob:=(hv.mono hma).pre k (by rw [bM];omega);rw [← List.map_take] at Ob;refine aC ?_;refine dR ?_;refine qz (ι:=Bool × GH) (Tc:=[(0,_),(1,_),(4,_)]) (Lc:=[]) (fun gh=>[(5,.bool gh.1)]) (fun gh=>[]) (fun gh=>gh.2) (fun gh=>gh.1=Gp l k x∧(∀ b o,Ga b=some o→gh.2 b=some o)) sB ?_ ?_
 ·refine gcQ 5 13 H ?_ ?_ <;> clear H
  ·intro mU
   try have oJ:=dT mU
   refine ak 7 ?_;intro a H;refine aC ?_;refine ⟨(_,_),sB,?_⟩;(try dsimp only)
   first
   | exact ⟨by unfold Gp;rw [iT (by assumption)];rfl,fun _ _ h=>h⟩
   | exact ⟨by unfold Gp;rw [jc (by assumption)];rfl,hm18⟩
  intro mU
  try have oJ:=dF mU
  refine ak 2 ?_;intro a H;refine DU Bf yD k H (wg H rfl rfl mU) rfl rfl rfl (by omega) rfl ?_;clear H;intro a H;refine nS H (wg H rfl rfl mU) rfl rfl ?_;clear H;intro a H;refine s_call aht H (wg H rfl rfl mU) rfl (afK _ _ H.ro (l.take k) (fun y=>decide (y.id=x.parent)) _ _ Ob (fun y _=>afI q1 y)) rfl ?_;clear H;rintro v18 PV a w rfl hm18 H;refine aD 2 H ?_;clear H;intro a H;refine aC ?_;refine ⟨(_,_),sB,?_⟩;(try dsimp only)
  first
  | exact ⟨by unfold Gp;rw [iT (by assumption)];rfl,fun _ _ h=>h⟩
  | exact ⟨by unfold Gp;rw [jc (by assumption)];rfl,hm18⟩
 clear H;rintro ⟨bf,g⟩ a w hI H;dsimp only at hI H;obtain ⟨hbf,hgm⟩:=hI;replace hcell:=fun j u hj=>aH hgm (hcell j u hj);replace hcb:=(hcb.mono hma).mono hgm;dsimp only [lca,bG] at H;refine Dh ?_;have H:=H.sub (T':=[(0,_),(1,_),(4,_),(5,_)]) ⟨rfl,rfl,rfl,rfl,aU⟩;refine dI hmx [[],[],[0,1],[],[3],(ra 0 5),[],[6],(ra 0 8),(ra 0 9),(ra 0 10),[],[11],(ra 0 13),(ra 0 14),(ra 0 15),[],[16],(ra 0 18),(ra 0 19),(ra 0 20),(ra 0 21)] [19,20,21] (by kernel_rfl) [_,.func (.func 189) #[] #[(aG bl 0)],vi (qd (fun k=>(l[k]?.map fD.id).getD 0) k),_,_,vi (dx (!bf) 8),_,_,.bool (wI x.author),_,vi (dx (!wI x.author) 39),_,_,.bool (decide (0≤x.time∧x.time≤1099511627776)),_,vi (dx (!decide (0≤x.time∧x.time≤1099511627776)) 40),_,_,vi (Cy x.text)] H (aF (Z0 rfl (Rm rfl)) ?_ ?_ (Z0 rfl (Rm rfl)) (aF (Z1 3 23 rfl (Rn rfl)) ?_ (Z0 rfl (Rf ajG rfl)) (X1 6 26 rfl fun hG=>Rg mg rfl (aH hG (hcell 2 _ rfl))) (aF ?_ (Z1 8 28 rfl (Rn rfl)) ?_ (Z0 rfl (Rf ajH rfl)) (aF (X1 11 31 rfl fun hG=>Rg bR rfl (aH hG (hcell 3 _ rfl))) ?_ (Z1 13 33 rfl (Rn rfl)) ?_ (aF (Z0 rfl (Rf ajI rfl)) (X1 16 36 rfl fun hG=>Rg mg rfl (aH hG (hcell 4 _ rfl))) ?_ (bQ rfl) (bH (bQ rfl) (bH (bQ rfl) cZ))))))) ?_
 ·refine Bo rfl fun _ a w G1 hG HT H fin=>?_;refine nS H wn rfl rfl ?_;clear H;intro a H;exact fin H iJ rfl
 ·refine dH 0 20 1 21 rfl rfl fun _ a w G1 hG HT H fin=>?_;refine s_call QU H wn rfl (Uf _ _ H.ro k _ _ (by omega) (fun i hi=>(hcb.mono hG) i (by omega))) rfl ?_;clear H;rintro v22 V6 a w rfl Sd H;exact fin H Sd (rfl)
 ·refine eu 4 24 rfl rfl fun _ a w G1 hG HT H fin=>?_;refine s_call jC H wn rfl (jH _ _ H.ro _ 8) rfl ?_;clear H;rintro v25 IZ a w ⟨rfl,-⟩ akz H;exact fin H akz (rfl)
 ·refine eu 7 27 rfl rfl fun _ a w G1 hG HT H fin=>?_;refine s_call XZ H wn rfl (WT _ _ H.ro x.author hte.1) rfl ?_;clear H;rintro v28 PX a w ⟨rfl,-⟩ akA H;exact fin H akA (rfl)
 ·refine eu 9 29 rfl rfl fun _ a w G1 hG HT H fin=>?_;refine s_call jC H wn rfl (jH _ _ H.ro _ 39) rfl ?_;clear H;rintro v30 zV a w ⟨rfl,-⟩ Si H;exact fin H Si (rfl)
 ·refine eu 12 32 rfl rfl fun _ a w G1 hG HT H fin=>?_;refine s_call wL H wn rfl (wW _ _ H.ro x.time 0 1099511627776) rfl ?_;clear H;rintro v33 G33 a w ⟨rfl,-⟩ akB H;exact fin H akB (rfl)
 ·refine eu 14 34 rfl rfl fun _ a w G1 hG HT H fin=>?_;refine s_call jC H wn rfl (jH _ _ H.ro _ 40) rfl ?_;clear H;rintro v35 V9 a w ⟨rfl,-⟩ Sj H;exact fin H Sj (rfl)
 ·refine eu 17 37 rfl rfl fun _ a w G1 hG HT H fin=>?_;refine s_call Q5 H wn rfl (Vu _ _ H.ro x.text hte.2) rfl ?_;clear H;rintro v38 PY a w rfl akD H;exact fin H akD (rfl)
 clear H;intro a w G tH H hv;have H:=H.aN (hv 2 22 rfl rfl) rfl;have H:=H.aN (hv 5 25 rfl rfl) rfl;have H:=H.aN (hv 10 30 rfl rfl) rfl;have H:=H.aN (hv 15 35 rfl rfl) rfl;have H:=H.aN (hv 18 38 rfl rfl) rfl;clear hv;refine gJ qm iA [_,_,_,_,_] [_,_,_,_,_] H wn rfl rfl rfl rfl rfl (by intro i q h;match i,h with|0,h=>exact h|1,h=>exact h|2,h=>exact h|3,h=>exact h|4,h=>exact h|n+5,h=>simp at h) rfl rfl ?_;clear H;intro b39 a w atz H;obtain ⟨Me,zu,aln,H⟩:=H.dZ;refine s_call qC H wn rfl (qD _ _ H.ro _ _ (EY [qd (fun k=>(l[k]?.map fD.id).getD 0) k,dx (!bf) 8,dx (!wI x.author) 39,dx (!decide (0≤x.time∧x.time≤1099511627776)) 40,Cy x.text] aln (show 5≤maxLen by decide))) rfl ?_;clear H;rintro v40 _ a w ⟨rfl,rfl⟩ - H;refine kH H (Ra rfl ?_);clear H;intro a H;refine aC ⟨rfl,?_⟩;refine dR ?_;refine uH 0 H ?_;rw [he,QE,← hbf]
def MN (l:List fD):Int:=cO [dx (decide (1024 < (l.length:Int))) 9,iH (Gy l) (min l.length 1024)]
theorem aeY (G:GH) (w0:World) (hG:Hold G w0) (l:List fD) (v:aj) (hv:au G (.sl 6 (l.map fD.dat)) v) (hl:l.length≤4294967296) (ht:∀ x∈l,x.author.size < 4611686018427387904∧x.text.size < 4611686018427387904) :
  Calls prog 121 #[v] w0 (bB w0 G fun u G'=>u=vi (MN l)):=by
 obtain ⟨A,c,rfl,hc1,hc2,-⟩:=hv.slice;rw [bM] at *;refine eN [(0,_)] func121 rfl ntmps121 rfl rfl hG ?_;refine ak 1 ?_;intro a H;refine dP (cs:=[_]) H wn rfl rfl rfl ?_;clear H;intro b1 a w hb1 H;refine aD 3 H ?_;clear H;intro a H;have H:=H.sub (T':=[(1,_)]) ⟨rfl,aU⟩;obtain ⟨Ga,hma,hb1',H⟩:=H.dZ
 have hbl:aI Ga b1 0=some (.slice A l.length c):=by unfold aI;rw [hb1'];rfl
 have hcb:=afG hbl (hv.mono hma) hl ht;refine dI hmx [[],[0],[0,1],[0,1,2],[],[4],[4,5],[],(ra 0 8),(ra 0 9),(ra 0 10),(ra 0 11)] [9,10,11] (by kernel_rfl) [_,_,_,vi (dx (decide (1024 < (l.length:Int))) 9),_,_,vi ((min l.length 1024:Nat):Int),.func (.func 186) #[] #[(aG b1 0)],vi (iH (Gy l) (min l.length 1024))] H (aF (X0 rfl fun hG=>Rg Pq rfl (aH hG hbl)) (Z1 0 3 rfl (Rl Bf rfl)) (Z1 1 4 rfl (Rc rfl)) ?_ (aF (X0 rfl fun hG=>Rg Pq rfl (aH hG hbl)) (Z1 4 7 rfl (Rl Bf rfl)) ?_ ?_ (aF ?_ (bQ rfl) (bQ rfl) (bQ rfl) cZ))) ?_
 ·refine eu 2 5 rfl rfl fun _ a w G1 hG HT H fin=>?_;refine s_call jC H wn rfl (jH _ _ H.ro _ 9) rfl ?_;clear H;rintro v6 G6 a w ⟨rfl,-⟩ gI H;exact fin H gI (rfl)
 ·refine eu 5 8 rfl rfl fun _ a w G1 hG HT H fin=>?_;refine O1 H wn rfl rfl rfl ?_;clear H;intro a H;exact fin H iJ (aB vi (by omega))
 ·refine Bo rfl fun _ a w G1 hG HT H fin=>?_;refine nS H wn rfl rfl ?_;clear H;intro a H;exact fin H iJ rfl
 ·refine dH 6 9 7 10 rfl rfl fun _ a w G1 hG HT H fin=>?_;refine s_call GJ H wn rfl (Je _ _ H.ro (min l.length 1024) (Gy l) _ (by omega) ((hcb.mono hG).le (Nat.min_le_left _ _))) rfl ?_;clear H;rintro v11 ru a w rfl kZ H;exact fin H kZ (rfl)
 clear H;intro a w G iP H hv;have H:=H.aN (hv 3 6 rfl rfl) rfl;have H:=H.aN (hv 8 11 rfl rfl) rfl;clear hv;refine gJ qm iA [_,_] [_,_] H wn rfl rfl rfl rfl rfl (by intro i q h;match i,h with|0,h=>exact h|1,h=>exact h|n+2,h=>simp at h) rfl rfl ?_;clear H;intro b12 a w EB H;obtain ⟨zT,vX,EC,H⟩:=H.dZ;refine s_call qC H wn rfl (qD _ _ H.ro _ _ (yC EC)) rfl ?_;clear H;rintro v13 _ a w ⟨rfl,rfl⟩ - H;refine kH H (Ra rfl ?_);clear H;intro a H;refine aC ⟨rfl,?_⟩;refine dR ?_;refine uH 0 H ?_;exact rfl
end
section
open Go.RowKit
def wX:Nat→List Int→List MapEntry
 | _,[]=>[]
 | i,k :: r=>⟨.int .i64 k,.int .i64 (i:Int),i⟩ :: wX (i+1) r
theorem aaQ (x:Int):∀ (i:Nat) (l:List Int),wX i (l++[x])=wX i l++[⟨.int .i64 x,.int .i64 ((i+l.length:Nat):Int),i+l.length⟩]
 | _,[]=>rfl
 | i,k :: r=>by
  rw [nu,wX,aaQ x (i+1) r,wX,nu,ku,show i+1+r.length=i+(r.length+1) by omega]
def uS (x:Int):Nat→List Int→Option Nat
 | _,[]=>none
 | i,k :: r=>if k=x then some i else uS x (i+1) r
theorem aaw {x:Int}:∀ {l:List Int} {i n:Nat},uS x i l=some n→i≤n
 | [],_,_,h=>by cases h
 | k :: r,i,n,h=>by
  rw [uS] at h;split at h
  ·cases h;exact bP _
  ·have:=aaw h;omega
theorem aay {x:Int}:∀ {l:List Int} {i:Nat},x∉l→uS x i l=none
 | [],_,_=>rfl
 | k :: r,i,h=>by
  rw [uS,ah (fun e=>h (by simp [e])),aay (fun hm=>h (gH _ hm))]
theorem RP (x:Int):∀ (i j:Nat) (l:List Int),Instr.findNow (.int .i64) (.int .i64 x) (wX i l) j=some ((uS x i l).map fun n=>(j+(n - i),.int .i64 (n:Int)))
 | _,_,[]=>rfl
 | i,j,k :: r=>by
  have ih:=RP x (i+1) (j+1) r
  by_cases e:k=x
  ·subst e
   simp only [wX,Instr.findNow,Instr.sameNow,av,uS,beq_self_eq_true]
   simp
  ·have hb:(x == k)=false:=by simp;exact fun h=>e h.symm
   simp only [wX,Instr.findNow,Instr.sameNow,av,hb,uS,ah e,ih]
   cases h:uS x (i+1) r with
   | none=>rfl
   | some n =>
    have:=aaw h
    simp only [uo,nL,ig,and_true]
    omega
abbrev aeh (b:Nat) (l:List Int):Nat × Obj:=(b,.map (wX 0 l).toArray l.length)
theorem aoi (l:List Int) (x:Int):(wX 0 l).toArray.push ⟨.int .i64 x,.int .i64 (l.length:Int),l.length⟩=(wX 0 (l++[x])).toArray:=by
 rw [aaQ,List.push_toArray,fV]
end
section
open Go.RowKit
section
variable {P:Program} {N:Nat} {D:List Deferred} {w0 w w':World} {F:Nat→Prop} {G0 G G':GH} {L L' Li Lo:OL} {T:List (Nat × aj)} {a a':Act} {Q:Exit→Act→World→Prop}
variable {r:Option Nat} {ops:Array Oper} {rest:List Oper}
def Qa (P:Program) (Gi:GH) (B:OL) (gv:aj) (xs:List AP):Prop :=
 ∀ (J:Nat→GH→OL→Prop) (Jx:GH→OL→Prop) (fv:aj) (G:GH) (L:OL) (w:World),fv.cells=#[fv]→(∀ b o,Gi b=some o→G b=some o)→F4 J→Jc Jx→J 0 G L→fU G (B++L) w→LZ P fv G xs J Jx →
  qp P gv [fv] w (fJ w G (B++L) fun _ G' L'=>J xs.length G' L'∨Jx G' L')
theorem Qa.mono {Gi CP:GH} {B:OL} {gv:aj} {xs:List AP} (h:Qa P Gi B gv xs) (hm:∀ b o,Gi b=some o→CP b=some o):Qa P CP B gv xs :=
 fun J Jx fv G L w h0 h1=>h J Jx fv G L w h0 fun b o hb=>h1 b o (hm b o hb)
end
end
section
open Go.RowKit
section
variable {P:Program} {N:Nat} {D:List Deferred} {w0 w w':World} {F:Nat→Prop} {G0 G G':GH} {L L' Li Lo:OL} {T:List (Nat × aj)} {a a':Act} {Q:Exit→Act→World→Prop}
variable {r:Option Nat} {ops:Array Oper} {rest:List Oper}
def F3 (P:Program) (Gi:GH) (B:OL) (gv:aj) (xs:List AP) (fin:Bool):Prop :=
 ∀ (J:Nat→GH→OL→Prop) (Jx:GH→OL→Prop) (fv:aj) (G:GH) (L:OL) (w:World),fv.cells=#[fv]→(∀ b o,Gi b=some o→G b=some o)→F4 J→Jc Jx→J 0 G L→fU G (B++L) w→LZ P fv G xs J Jx→(fin=false→∀ g l,¬ J xs.length g l) →
  qp P gv [fv] w (fJ w G (B++L) fun _ G' L'=>J xs.length G' L'∨Jx G' L')
theorem F3.mono {Gi CP:GH} {B:OL} {gv:aj} {xs:List AP} {fin:Bool} (h:F3 P Gi B gv xs fin) (hm:∀ b o,Gi b=some o→CP b=some o):F3 P CP B gv xs fin :=
 fun J Jx fv G L w h0 h1=>h J Jx fv G L w h0 fun b o hb=>h1 b o (hm b o hb)
theorem aeA {fin:Bool} {B:OL} {yX:Operand} {ps:List Nat} {assign body:Code} {gf:FuncId} {caps:List aj} {xs:List AP} {Gi:GH}
  (H:St N D w0 F G0 G (B++L) T a w) (hg:ev T yX=some (.func (.func gf) #[] caps.toArray)) (en:∀ args w,(callFunc gf args).run P w=.ok (.enter gf args) w) (hit:F3 P Gi B (.func (.func gf) #[] caps.toArray) xs fin) (hGi:∀ b o,Gi b=some o→G b=some o)
  (hps:ps.all (Nat.blt · N)=true) (hlen:∀ k args g,xD xs k args g→args.length=ps.length)
  (J:Nat→GH→OL→Prop) (Jx:Code→GH→OL→Prop) (hno:fin=false→∀ g l,¬ J xs.length g l) (Ao:F4 J) (hJx:∀ c,Jc (Jx c)) (h0:J 0 G L) (TH:Qh P N ps assign body T G J Jx xs)
  (hdone:∀ Dk G1 L1 a1 w1,(∀ b o,G b=some o→G1 b=some o)→J xs.length G1 L1→St N ({ target:=.collected Dk,args:=#[] } :: D) w0 F G0 G1 ((Dk,.deferred (some [])) :: L1) T a1 w1→Q .normal a1 w1)
  (hstop:∀ Dk c G1 L1 a1 w1,(∀ b o,G b=some o→G1 b=some o)→Jx c G1 L1→St N ({ target:=.collected Dk,args:=#[] } :: D) w0 F G0 G1 ((Dk,.deferred (some [])) :: L1) T a1 w1→WP none P c Q a1 w1) :
  WP none P (.rangeFunc yX ps.toArray assign body) Q a w:=by
 refine wpIn_rangeFunc ?_
 intro fn _
 have hev:=H.ev hg
 let q:Rec:=⟨fn,a.tmps,ps.toArray,assign,body,w.heap.size⟩
 obtain ⟨W1,hW1⟩:∃ W1,W1=(w.alloc (.deferred (some []))).alloc (q.at .ready none):=⟨_,rfl⟩
 have H1:Hp w0 F G0 G (B++((w.heap.size+1,q.at .ready none) :: (w.heap.size,.deferred (some [])) :: L)) W1:=by
  have:=(H.hp.alloc (.deferred (some []))).alloc (q.at .ready none)
  rw [World.size_alloc] at this
  rw [hW1]
  refine this.perm ?_
  have e:=uq (l₁:=[(w.heap.size+1,q.at .ready none),(w.heap.size,Obj.deferred (some []))]) (l₂:=B)
  have e2:=List.Perm.append_right L e
  rw [jd,jd] at e2
  exact e2
 refine ⟨w.heap.size+1,[{ target:=.collected w.heap.size,args:=#[] }],W1,{ target:=.fn (.func gf) caps.toArray,args:=#[.func (.yield (w.heap.size+1)) #[] #[]] },W1,gf,
  #[.func (.yield (w.heap.size+1)) #[] #[]]++caps.toArray,W1,by rw [hW1];exact run_enterLoop_outer fn a.tmps ps.toArray assign body,?_,fun _ _=>trivial,?_,Mc none,?_⟩
 ·simp only [resolve,rangeCall,hev]
  simp [Deferred.ofValue,Act.eval]
 ·simp [invoke,en]
 ·have hcv:=hit (fun k=>Jr (w.heap.size+1) q [(w.heap.size,.deferred (some []))] (J k)) (Mf (w.heap.size+1) q [(w.heap.size,.deferred (some []))] Jx) (.func (.yield (w.heap.size+1)) #[] #[]) G
   ((w.heap.size+1,q.at .ready none) :: (w.heap.size,.deferred (some [])) :: L) W1 rfl hGi (fun k G G' L hm ⟨Lu,e,h⟩=>⟨Lu,e,Ao k G G' Lu hm h⟩) (fun G G' L hm ⟨c,Lu,e,h⟩=>⟨c,Lu,e,hJx c G G' Lu hm h⟩) ⟨L,rfl,h0⟩ (Hp.owns (Li:=[]) H1) (Xj H.mO H.get hps hlen TH) (fun e g l ⟨Lu,_,h⟩=>hno e g Lu h)
  replace hcv:=hcv.go
  have e:(do let d ← Deferred.ofValue (.func (.func gf) #[] caps.toArray) [Value.func (.yield (w.heap.size+1)) #[] #[]].toArray;invoke d.target d.args:Sem Next).run P W1=.ok (.enter gf (#[.func (.yield (w.heap.size+1)) #[] #[]]++caps.toArray)) W1:=by
   simp [Deferred.ofValue,invoke,en]
  rw [e] at hcv
  refine (Qv hcv).mono ?_
  rintro e w2 ⟨v,G2,L2,rfl,hch,hJ⟩
  have H2:=Hp.change (Li:=[]) H1 hch
  rcases hJ with ⟨Lu,rfl,hJ⟩|⟨c,Lu,rfl,hJ⟩
  ·have hl:=H2.own _ (fM)
   have H3:=(H2.upd (i:=0) rfl (D6 (q.at .exhausted none) hl)).drop (Ac _ _)
   exact ⟨none,_,run_endLoop hl (by simp),hdone _ G2 Lu _ _ hch.gm hJ ⟨H.mO,H.get,by simp [H.rJ],H3⟩⟩
  ·have hl:=H2.own _ (fM)
   have H3:=(H2.upd (i:=0) rfl (D6 (q.at .exhausted (some c)) hl)).drop (Ac _ _)
   exact ⟨some c,_,run_endLoop hl (by simp),hstop _ c G2 Lu _ _ hch.gm hJ ⟨H.mO,H.get,by simp [H.rJ],H3⟩⟩
theorem aeC {fin:Bool} {B:OL} {ι κ:Type} {Lc:OL} {yX:Operand} {ps:List Nat} {assign body:Code} {gf:FuncId} {caps:List aj} {xs:List AP} {Gi:GH}
  (Lv:Nat→ι→OL) (Lt:Nat→ι→OL) (inv:Nat→ι→GH→Prop) (cx:κ→Code) (Lx Ef:κ→OL) (zH:κ→GH→Prop) (i0:ι)
  (H:St N D w0 F G0 G (B++(Lc++Lv 0 i0++Lt 0 i0)) T a w) (hg:ev T yX=some (.func (.func gf) #[] caps.toArray)) (en:∀ args w,(callFunc gf args).run P w=.ok (.enter gf args) w) (hit:F3 P Gi B (.func (.func gf) #[] caps.toArray) xs fin) (hGi:∀ b o,Gi b=some o→G b=some o)
  (hno:fin=false→∀ i g,¬ inv xs.length i g) (hps:ps.all (Nat.blt · N)=true) (hlen:∀ k args g,xD xs k args g→args.length=ps.length) (hinv:∀ k i (G G':GH),(∀ b o,G b=some o→G' b=some o)→inv k i G→inv k i G') (Tp:∀ x (G G':GH),(∀ b o,G b=some o→G' b=some o)→zH x G→zH x G') (h0:inv 0 i0 G)
  (round:∀ (l:Nat) (Fv Bv:Obj) (bk:OL) (k:Nat) (args:List aj) (i:ι) (G1:GH) (w1:World) (F1:Nat→Prop) (B1:Code→Exit→Act→World→Prop) (a1:Act),xD xs k args G1→(∀ b o,G b=some o→G1 b=some o)→inv k i G1 →
   (∀ T' G2 L2 a2 w2 c,St N [] w1 F1 G1 G2 ((l,Fv) :: L2) T' a2 w2→(∀ w3,St N [] w1 F1 G1 G2 ((l,Bv) :: L2) T' a2 w3→WP (some l) P c (B1 c) a2 w3)→Exit.then (fun a2 w2=>∃ w3,(Instr.beginRound l).run P w2=.ok () w3∧c.wpIn (FW (some l)) 0 P (B1 c) a2 w3) (fun _ _ _=>False) .normal a2 w2) →
   (∀ i' T' G2 a2 w2 c,St N [] w1 F1 G1 G2 ((l,Bv) :: (Lc++Lv (k+1) i'++(bk++Lt (k+1) i'))) T' a2 w2→inv (k+1) i' G2→B1 c .normal a2 w2) →
   (∀ x T' G2 a2 w2 c,St N [] w1 F1 G1 G2 ((l,Bv) :: (Lc++Lx x++(bk++Ef x))) T' a2 w2→zH x G2→(cx x=.ret→B1 c .ret a2 w2)∧∀ n,cx x=.exit n→B1 c (.exit n) a2 w2) →
   St N [] w1 F1 G1 G1 ((l,Fv) :: (Lc++Lv k i++(bk++Lt k i))) (Ae ps args T) a1 w1 →
   WP (some l) P assign (Exit.then (fun a2 w2=>∃ w3,(Instr.beginRound l).run P w2=.ok () w3∧body.wpIn (FW (some l)) 0 P (B1 body) a2 w3) (fun _ _ _=>False)) a1 w1)
  (hdone:∀ Dk i G1 a1 w1,(∀ b o,G b=some o→G1 b=some o)→inv xs.length i G1→St N ({ target:=.collected Dk,args:=#[] } :: D) w0 F G0 G1 ((Dk,.deferred (some [])) :: (Lc++Lv xs.length i++Lt xs.length i)) T a1 w1→Q .normal a1 w1)
  (hstop:∀ Dk x G1 a1 w1,(∀ b o,G b=some o→G1 b=some o)→zH x G1→St N ({ target:=.collected Dk,args:=#[] } :: D) w0 F G0 G1 ((Dk,.deferred (some [])) :: (Lc++Lx x++Ef x)) T a1 w1→WP none P (cx x) Q a1 w1) :
  WP none P (.rangeFunc yX ps.toArray assign body) Q a w:=by
 refine aeA (J:=fun k g L=>∃ i,L=Lc++Lv k i++Lt k i∧inv k i g) (Jx:=fun c g L=>∃ x,c=cx x∧L=Lc++Lx x++Ef x∧zH x g) H hg en hit hGi hps hlen (hno:=fun e g l ⟨i,_,h⟩=>hno e i g h) (fun k G G' L hm ⟨i,e,h⟩=>⟨i,e,hinv k i G G' hm h⟩) (fun c G G' L hm ⟨x,e1,e2,h⟩=>⟨x,e1,e2,Tp x G G' hm h⟩) ⟨i0,rfl,h0⟩ ?_ ?_ ?_
 ·rintro l q bk k args G1 L1 w1 a1 hk hm ⟨i,rfl,hi⟩ H1
  have pm:∀ A B:OL,(bk++(A++B)).Perm (A++(bk++B)):=fun A B=>by
   rw [← jd,← jd]
   exact List.Perm.append_right B uq
  refine round l (q.at .ready none) (q.at .busy none) bk k args i G1 w1 _ (fun _=>roundPost P l _) a1 hk hm hi ?_ ?_ ?_ (H1.perm (List.Perm.cons _ (pm _ _)))
  ·intro T' G2 L2 a2 w2 c H2 h
   exact Xe H2 h
  ·intro i' T' G2 a2 w2 c H2 h2
   exact Iu none (H2.perm (List.Perm.cons _ (pm _ _).symm)) ⟨_,rfl,i',rfl,h2⟩
  ·intro x T' G2 a2 w2 c H2 h2
   have H3:=H2.perm (List.Perm.cons _ (pm _ _).symm)
   refine ⟨fun e=>?_,fun n e=>?_⟩
   ·exact Iu (some .ret) H3 ⟨_,_,rfl,x,e.symm,rfl,h2⟩
   ·exact Iu (some (.exit n)) H3 ⟨_,_,rfl,x,e.symm,rfl,h2⟩
 ·rintro Dk G1 L1 a1 w1 hm ⟨i,rfl,hi⟩ H1
  exact hdone Dk i G1 a1 w1 hm hi H1
 ·rintro Dk c G1 L1 a1 w1 hm ⟨x,rfl,rfl,hx⟩ H1
  exact hstop Dk x G1 a1 w1 hm hx H1
end
end
section
open Go.RowKit
theorem DZ:prog.underlying 130=some (.map 3 3):=by kernel_rfl
instance:kg prog 130 (.map 3 3):=⟨DZ⟩
instance FH:Ty prog 31 1 24 [.slice none 0 0] false:=⟨by kernel_rfl,by kernel_rfl⟩
instance ajN:dS prog 192 3 3:=⟨by kernel_rfl⟩
theorem Yb:∀ args w,(callFunc 222 args).run prog w=.ok (.enter 222 args) w:=enters func222 rfl (by kernel_rfl)
theorem aax {x:Int}:∀ {l:List Int} {i n:Nat},uS x i l=some n→n < i+l.length
 | [],_,_,h=>by cases h
 | k :: r,i,n,h=>by
  rw [uS] at h;split at h
  ·cases h;simp
  have:=aax h;simp only [ku];omega
def xO (l:List bS):Nat→Int→List bS
 | 0,_=>[]
 | f+1,id=>if id=0 then [] else match uS id 0 (l.map bS.id) with|none=>[]|some i=>match l[i]? with|none=>[]|some s=>s :: xO l f s.base
def Gx (l:List bS) (id:Int):List bS:=xO l (l.length+1) id
theorem aeU {l:List bS} {f:Nat} {id:Int} (h:id=0):xO l f id=[]:=by
 cases f with
 | zero=>rfl
 | succ f=>rw [xO,av h]
theorem aeS {l:List bS} {f:Nat} {id:Int} (h0:¬ id=0) (h:uS id 0 (l.map bS.id)=none):xO l f id=[]:=by
 cases f with
 | zero=>rfl
 | succ f=>rw [xO,ah h0,h]
theorem aeT {l:List bS} {f i:Nat} {id:Int} (h0:¬ id=0) (h:uS id 0 (l.map bS.id)=some i) (hi:i < l.length):xO l (f+1) id=l[i] :: xO l f l[i].base:=by
 rw [xO,ah h0,h];dsimp only;rw [eO hi]
def stP (x:bS):AP:=fun args g=>∃ cs,args=[.agg cs.toArray]∧aW g x.dat cs
theorem acA {A:List bS} {k:Nat} {args:List aj} {g:GH} (h:xD (A.map stP) k args g):∃ (hk:k < A.length) (cs:List aj),args=[.agg cs.toArray]∧aW g A[k].dat cs:=by
 obtain ⟨p,hp,hargs⟩:=h;rw [qM] at hp;obtain ⟨q,hq,rfl⟩:=oP.1 hp;obtain ⟨hk,rfl⟩:=jA.1 hq;obtain ⟨cs,h1,h2⟩:=hargs;exact ⟨hk,cs,h1,h2⟩
abbrev bI (b:Nat) (n:Int):Nat × Obj:=(b,.cells #[vi n] 3 (0,0))
theorem aeV {G:GH} {bl bi:Nat} {l:List bS} {id:Int} {v:aj} (hb:aI G bl 0=some v) (hv:au G (.sl 6 (l.map bS.dat)) v) (hnd:∀ (k:Nat) (h:k < l.length),l[k].id∉(l.take k).map bS.id) :
  F3 prog G [bI bi id] (.func (.func 222) #[] #[(aG bl 0),(aG bi 0)]) ((Gx l id).map stP) (decide ((Gx l id).length≤l.length)):=by
 intro J Jx fv G1 L w0 hfv hGi Ao hJx hJ hO hcb hfin;refine iN (caps:=[(aG bl 0),(aG bi 0)]) Yb ?_;obtain ⟨A,c,rfl,hc1,hc2,-⟩:=hv.slice;have hml:maxLen=9223372036854775807:=rfl;rw [bM] at *;replace hb:=aH hGi hb;replace hv:=hv.mono hGi;refine jg (N:=46) (T:=[(0,_),(1,_),(2,_)]) func222 rfl ntmps222 rfl rfl hO ?_;intro a H;refine vJ (fun _ K1=>?_);refine Bw ?_;refine Fx H wn rfl ?_;clear H;intro bm a w hbm H;refine kH H (gu K1 rfl (SQ fun _ K2=>SQ fun _ K3=>SC (Rg FH rfl (by assumption) ?_)));clear H K1;intro a H;refine kH H (Rl uf rfl (Rm rfl (Kn K3 (SB ?_))));clear H K3;intro a H;skip;refine eH (ι:=Nat) (Tc:=[(0,_),(1,_),(2,_),(4,_),(10,_),(11,_)]) (Lc:=[(_,_)]) (fun gh=>[(12,vi gh)]) (fun gh=>[aeh bm ((l.take gh).map bS.id)]++L) (fun gh=>G1) (fun gh=>gh≤l.length) (fun gh=>l.length - gh) (0) (by exact (H.dY (Pl:=[_,_]) (dM:=[_,_]) [1,0] (by decide) rfl).sub ⟨rfl,rfl,rfl,rfl,rfl,rfl,rfl,aU⟩) ?_ ?_
 ·exact gW _
 clear H;intro k a w hI H;have hk:=hI;dsimp only [lca,bG] at H;refine kP H (SQ fun _ K4=>SC (Rc rfl (Kn K4 (SQ fun _ K5=>Cd rfl ?_ ?_)))) <;> clear H K4
 ·intro mU a H
  try have oJ:=dT mU
  have hk2:k < l.length:=by omega
  obtain ⟨b,o,pA,pc,rfl,hrow,hp,hrep⟩:=Cw hv hk2;have amv:=hnd k hk2
  have hlk:((l.take k).map bS.id).length=k:=by rw [bM,List.length_take];omega
  have hnx:(l.take k).map bS.id++[l[k].id]=(l.take (k+1)).map bS.id:=by rw [fQ hk2,kQ];rfl
  refine kP H (Kc K5 (SQ fun _ K6=>SB (SQ fun _ K7=>SC (Rm rfl (Ri uf jF rfl rfl ?_)))));clear H K5;intro a H;refine aS jF (cs:=[_,_,_,_,_,_]) H wn rfl rfl (fun j v hj=>H.hp.aI (hrow j v hj)) rfl ?_;clear H;intro a H;refine dz jF H wn rfl ?_;clear H;intro b6 a w hb6 H;refine kH H (Ra rfl ?_);clear H;intro a H;refine aV jF 0 (vs:=[_,_,_,_,_,_]) _ H wn rfl rfl rfl rfl rfl rfl rfl rfl ?_;clear H;intro w H;dsimp only [List.set,setRow] at H;refine kH H (Kn K7 (SC (Rm rfl (Jb Ah bR 0 rfl rfl (Rm rfl ?_)))));clear H K7;intro a H;refine acg (i:=2) (ky:=vi l[k].id) (v:=vi k) DZ kI H wn rfl rfl rfl rfl (by trivial) (by rw [List.toList_toArray,RP,aay amv];rfl) ?_;clear H;intro w H
  have hpush:((wX 0 ((l.take k).map bS.id)).toArray.push ⟨vi l[k].id,vi k,((l.take k).map bS.id).length⟩)=(wX 0 ((l.take (k+1)).map bS.id)).toArray:=by rw [← hnx,← aoi,hlk]
  rw [hpush,show ((l.take k).map bS.id).length+1=((l.take (k+1)).map bS.id).length by rw [← hnx];simp] at H;refine kH H (Kn K6 (SC (Rd rfl (Rm rfl ?_))));clear H K6;intro a H;refine aC ?_;refine cB ((k+1)) (by exact (H.dY (Pl:=[_,_,_]) (dM:=[_,_]) [1,2] (by decide) rfl).sub ⟨rfl,rfl,rfl,rfl,rfl,rfl,rfl,aU⟩) ?_ ?_
  ·exact by omega
  first|omega|(dsimp only;omega)
 intro mU a H
 try have oJ:=dF mU
 obtain rfl:k=l.length:=by omega
 rw [vE] at H;refine yS ?_;refine K2 _ _ ?_;clear K2;refine MI ?_;skip;refine eH (ι:=Int × Nat × Nat × OL × GH) (Tc:=[(0,_),(1,_),(2,_),(4,_)]) (Lc:=[(_,_)]) (fun gh=>[]) (fun gh=>[bI bi gh.1]++gh.2.2.2.1) (fun gh=>gh.2.2.2.2) (fun gh=>(∀ b o,G1 b=some o→gh.2.2.2.2 b=some o)∧Now ((Gx l id).map stP) stP J (Gx l id).length gh.2.2.1 (xO l gh.2.1 gh.1) gh.2.2.2.2 gh.2.2.2.1∧gh.2.2.1+gh.2.1=l.length+1) (fun gh=>gh.2.1) ((id,l.length+1,0,L,G1)) (by exact (H.dY (Pl:=[_,_]) (dM:=[_,_]) [1,0] (by decide) rfl).sub ⟨rfl,rfl,rfl,rfl,aU⟩) ?_ ?_
 ·exact ⟨fun _ _ h=>h,⟨hJ,fun i a h=>by rw [fV,qM];rw [show xO l (l.length+1) id=Gx l id from rfl] at h;rw [h];rfl,fV _⟩,fV _⟩
 clear H;rintro ⟨i,f,j1,Lt,g⟩ a w hI H;dsimp only at hI H;obtain ⟨hgm,iW,hjf⟩:=hI;have hbg:=aH hgm hb;dsimp only [lca,bG] at H;refine kP H (SQ fun _ K8=>SQ fun _ K9=>SC (Ro bR 1 rfl (Rc rfl (Kn K9 (Cd rfl ?_ ?_))))) <;> clear H K9
 ·intro h23 a H
  try have AO:=dT h23
  have h0:¬ i=0:=by simpa using h23
  obtain ⟨an,han⟩:∃ an,an=uS i 0 (l.map bS.id):=⟨_,rfl⟩;have hfn:=RP i 0 0 (l.map bS.id);rw [← han] at hfn;refine kP H (Kc K8 (SB (SQ fun _ vB=>SC (Rm rfl (Ro bR 1 rfl ?_)))));clear H K8;intro a H;refine aqA (i:=0) (zv:=vi 0) _ DZ kI (by kernel_rfl) H wn rfl rfl rfl (by trivial) (by simpa using hfn) rfl ?_;clear H;intro a H;refine kH H (Rm rfl ?_);clear H;intro a H;(iterate 2 refine jK H wn rfl rfl rfl ?_;clear H;intro a H);refine kH H (Ra rfl (gu vB rfl (SQ fun _ nJ=>SQ fun _ uh=>SC (Rm rfl (Rn rfl (Rm rfl (Sp 32 rfl ?_ ?_))))))) <;> clear H vB
  ·intro h32 a H
   try have p32:=dT h32
   obtain rfl:an=none:=by
    cases an with
    | none=>rfl
    | some n=>simp [Cg] at h32
   rw [aeS h0 han.symm] at iW;refine kH H (jR h32 rfl (nK h32 rfl (nK h32 rfl (Pt h32 rfl (Kn uh (Ct rfl rfl ?_))))));clear H uh;intro a H;refine bZ ?_;refine (leave0 H results222 ?_).1;refine H.hp.kE (L':=Lt) (by repeat (first|exact jT _|apply List.Sublist.cons)) (.inl ?_);have h:=iW.len
   simp only [List.length_nil,wG] at h
   rw [← h];exact iW.now
  intro h32 a H
  try have p32:=dF h32
  obtain ⟨n,rfl⟩:∃ n,an=some n:=by
   cases an with
   | none=>simp [Cg] at h32
   | some n=>exact ⟨n,rfl⟩
  have hnl:n < l.length:=by have:=aax han.symm;simpa using this
  obtain ⟨f',rfl⟩:∃ f',f=f'+1:=by
   cases f with
   | succ f'=>exact ⟨f',rfl⟩
   | zero =>
    exfalso
    have hl:=iW.len
    simp only [xO,List.length_nil,wG] at hl
    refine hfin (jc (by omega)) g Lt ?_;rw [← hl];exact iW.now
  rw [aeT h0 han.symm hnl] at iW;dsimp only [Cg,Option.map_some] at H;obtain ⟨b,o,pA,pc,rfl,hrow,hp,hrep⟩:=Cw (hv.mono hgm) hnl;refine kH H (YM h32 rfl (YR FH h32 rfl (by assumption) ?_));clear H;intro a H;refine kH H (YM h32 rfl (YI uf jF h32 rfl rfl ?_));clear H;intro a H;refine aS jF (cs:=[_,_,_,_,_,_]) H (wg H rfl rfl h32) rfl rfl (fun j v hj=>H.hp.aI (hrow j v hj)) rfl ?_;clear H;intro a H;refine Cq (Li:=[_,_]) (L:=Lt) H (wg H rfl rfl h32) rfl rfl (hcb j1 _ _ _ _ ⟨_,iW.head,_,rfl,hrep⟩ hgm iW.now (Hp.owns (Li:=[_,_]) H.hp)) rfl ?_;clear H;rintro v38 PY WE a w ⟨b38,rfl,hb1,hb2⟩ H7 H;have hbg:=aH H7 hbg;have r3:=aH H7 (hrow 3 _ rfl);refine kH H (YN h32 rfl (Pf h32 rfl (Kn uh (Cd rfl ?_ ?_)))) <;> clear H uh
  ·intro tC a H
   try have p40:=dT tC
   refine bZ ?_;refine (leave0 H results222 ?_).1;exact H.hp.kE (L':=WE) (by repeat (first|exact jT _|apply List.Sublist.cons)) (.inr (hb2 (by simpa using tC)))
  intro tC a H
  try have p40:=dF tC
  refine kP H (Kc nJ (SC (Rg FH rfl (by assumption) ?_)));clear H nJ;intro a H;refine kH H (Rm rfl (Ri uf jF rfl rfl (Rf ajN rfl (Rg bR rfl (by assumption) ?_))));clear H;intro a H;refine aV bR 1 (vs:=[_]) _ H wn rfl rfl rfl rfl rfl rfl rfl rfl ?_;clear H;intro w H;dsimp only [List.set,setRow] at H;refine aC ?_;refine cB ((l[n].base,f',j1+1,WE,PY)) (by exact (H).sub ⟨rfl,rfl,rfl,rfl,aU⟩) ?_ ?_
  ·(try dsimp only);exact ⟨fun b o h=>H7 b o (hgm b o h),iW.step (hb1 (by simpa using tC)),by omega⟩
  first|omega|(dsimp only;omega)
 intro h23 a H
 try have AO:=dF h23
 refine yS ?_;refine (leave0 H results222 ?_).2;rw [aeU (by simpa using h23)] at iW;refine H.hp.kE (L':=Lt) (by repeat (first|exact jT _|apply List.Sublist.cons)) (.inl ?_);have h:=iW.len
 simp only [List.length_nil,wG] at h
 rw [← h];exact iW.now
end
section
open Go.RowKit
theorem aho:∀ args w,(callFunc 182 args).run prog w=.ok (.enter 182 args) w:=enters func182 rfl (by kernel_rfl)
theorem ahn:∀ args w,(callFunc 180 args).run prog w=.ok (.enter 180 args) w:=enters func180 rfl (by kernel_rfl)
theorem Q0:∀ args w,(callFunc 181 args).run prog w=.ok (.enter 181 args) w:=enters func181 rfl (by kernel_rfl)
instance ajO:dS prog 192 4 4:=⟨by kernel_rfl⟩
theorem aeW {G:GH} {w0:World} (hO:fU G [] w0) (l:List bS) (id:Int) (v:aj) (hv:au G (.sl 6 (l.map bS.dat)) v) :
  Calls prog 182 #[v,vi id] w0 (fJ w0 G [] fun u G' L'=>∃ bl bi,u=.func (.func 222) #[] #[(aG bl 0),(aG bi 0)]∧L'=[bI bi id]∧aI G' bl 0=some v):=by
 obtain ⟨A,c,rfl,hc1,hc2,-⟩:=hv.slice;refine jg (N:=6) (T:=[(0,_),(1,_)]) func182 rfl ntmps182 rfl rfl hO ?_;refine ak 1 ?_;intro a H;refine dP (cs:=[_]) H wn rfl rfl rfl ?_;clear H;intro b2 a w hb2 H;refine dP (cs:=[_]) H wn rfl rfl rfl ?_;clear H;intro b3 a w hb3 H;refine aD 3 H ?_;clear H;intro a H;refine nS H wn rfl rfl ?_;clear H;refine ak 2 ?_;intro a H;refine lr H results182 rfl ?_;have H:=H.dY (Pl:=[_,_]) (dM:=[_,_]) [1,0] (by decide) rfl;obtain ⟨Ga,hma,hb2',H⟩:=H.dZ;exact H.hp.dJ ⟨b2,b3,rfl,rfl,by unfold aI;rw [hb2'];rfl⟩
def sZ (p:Nat→Int):Nat→Nat→Int
 | _,0=>0
 | k,n+1=>if p k=0 then sZ p (k+1) n else p k
theorem ajx {p:Nat→Int} {k m:Nat} (h:k < m):sZ p k (m - k)=if p k=0 then sZ p (k+1) (m - (k+1)) else p k:=by
 obtain ⟨n,hn⟩:∃ n,m - k=n+1:=⟨m - k - 1,by omega⟩;rw [hn,sZ,show m - (k+1)=n by omega]
theorem ajw {p:Nat→Int} {k m:Nat} (h:m≤k):sZ p k (m - k)=0:=by rw [show m - k=0 by omega];rfl
theorem Yq {p:Nat→Int}:∀ {n k:Nat},sZ p k n=0→∀ j,k≤j→j < k+n→p j=0
 | 0,k,_,j,h1,h2=>by omega
 | n+1,k,h,j,h1,h2=>by
  rw [sZ] at h;split at h
  ·rename_i hp
   by_cases e:j=k
   ·rw [e];exact hp
   exact Yq h j (by omega) (by omega)
  rename_i hp;exact absurd h hp
def zJ (l:List bS) (k:Nat):Int:=match l[k]? with|some s=>iX l k s|none=>0
theorem abt {l:List bS} {k:Nat} (h:k < l.length):zJ l k=iX l k l[k]:=by unfold zJ;rw [eO h]
def sU (l:List bS) (s:bS):Bool:=(decide (s.base≠0) && !EZ l s.kind s.base) || (decide (s.next≠0) && (decide (s.kind=2) || !EZ l 1 s.next))
def QK (l:List bS) (s:bS):Bool:=decide (l.length < (Gx l s.id).length)
def gL (l:List bS):Int:=if 128 < l.length then 9 else if sZ (zJ l) 0 l.length≠0 then sZ (zJ l) 0 l.length else if l.any (sU l)=true then 25 else if l.any (QK l)=true then 16 else 0
theorem aoS {l:List bS} (h:sZ (zJ l) 0 l.length=0) {k:Nat} (hk:k+1 < l.length):l[k].id < l[k+1].id:=by
 have h1:=Yq h (k+1) (gW _) (by omega);rw [abt hk,iX,lX] at h1
 have hp:xZ l (k+1)=some l[k].id:=by rw [xZ,ah (by omega),Nat.add_sub_cancel,eO (by omega)];rfl
 rw [hp] at h1
 split at h1
 ·cases h1
 split at h1
 ·cases h1
 split at h1
 ·cases h1
 rename_i _ h2 h3
 have h2':¬ l[k].id=l[k+1].id:=fun e=>h2 (by rw [e]);have h3':¬ l[k+1].id < l[k].id:=fun e=>h3 (aK e)
 omega
theorem abu {l:List bS} (h:sZ (zJ l) 0 l.length=0):∀ {k j:Nat} (hk:k < l.length) (hj:j < k),l[j].id < l[k].id
 | k+1,j,hk,hj=>by
  have h1:=aoS h hk
  by_cases e:j=k
  ·subst e;exact h1
  have:=abu h (k:=k) (j:=j) (by omega) (by omega)
  omega
theorem abv {l:List bS} (h:sZ (zJ l) 0 l.length=0) (k:Nat) (hk:k < l.length):l[k].id∉(l.take k).map bS.id:=by
 intro hm;obtain ⟨x,hx1,hx2⟩:=List.mem_map.1 hm;obtain ⟨j,hj,rfl⟩:=List.getElem_of_mem hx1;rw [List.getElem_take] at hx2;rw [List.length_take] at hj;have:=abu h hk (j:=j) (by omega)
 omega
theorem Jf {α:Type} {p:α→Bool} {l:List α} {k:Nat} (hk:k < l.length) (h:(l.take k).any p=false) (hp:p l[k]=false):(l.take (k+1)).any p=false:=by
 rw [fQ hk,List.any_append,h];simp [hp]
theorem vG {α:Type} {p:α→Bool} {l:List α} {k:Nat} (hk:k < l.length) (hp:p l[k]=true):l.any p=true:=List.any_eq_true.2 ⟨_,lD hk,hp⟩
theorem Ad {α:Type} {p:α→Bool} {l:List α} {k:Nat} (hk:l.length≤k) (h:(l.take k).any p=false):¬ l.any p=true:=by
 rw [fK hk] at h;rw [h];decide
theorem aff (G:GH) (w0:World) (hG:Hold G w0) (l:List bS) (v:aj) (hv:au G (.sl 6 (l.map bS.dat)) v) (hN:∀ s∈l,s.name.size≤4611686018427387904) :
  Calls prog 119 #[v] w0 (bB w0 G fun u G'=>u=vi (gL l)):=by
 obtain ⟨A,c,rfl,hc1,hc2,-⟩:=hv.slice;have hml:maxLen=9223372036854775807:=rfl;rw [bM] at *;refine eN [(0,_)] func119 rfl ntmps119 rfl rfl hG ?_;refine ak 1 ?_;intro a H;refine dP (cs:=[_]) H wn rfl rfl rfl ?_;clear H;intro b1 a w hb1 H;refine dz iA H wn rfl ?_;clear H;intro b2 a w hb2 H;refine gQ 7 H ?_ ?_ <;> clear H
 ·intro pI
  refine ak 1 ?_;intro a H;refine aV iA 0 (vs:=[_]) _ H wn rfl rfl rfl rfl rfl rfl rfl rfl ?_;clear H;intro w H;dsimp only [List.set,setRow] at H;refine aC ?_;refine dR ?_;refine bZ ?_;refine (leave1 H results119 (.cons (Co iA H rfl (H.hp.qI 0 rfl rfl)) .nil) ?_).1
  first
   | exact H.rt (aB vi (by rw [gL,av (by omega)]))
   | exact H.rt (aB vi (by rw [ah (by simpa using iY)] at heq;rw [gL,ah (by omega),← heq,av (by simpa using iY)]))
   | exact H.rt (aB vi (by rw [gL,ah (by omega),ah (by rw [hok];decide),av hbad]))
   | exact H.rt (aB vi (by rw [gL,ah (by omega),ah (by rw [hok];decide),ah hbad,av (vG hj2 hI)]))
   | exact H.rt (aB vi (by rw [gL,ah (by omega),ah (by rw [hok];decide),ah hbad,ah (Ad (by omega) hnc)]))
 intro pI
 refine ak 8 ?_;intro a H;refine eH (ι:=Nat × GH) (Tc:=[(1,_),(2,_),(14,_)]) (Lc:=[(_,_),(_,_)]) (fun gh=>[(15,vi gh.1)]) (fun gh=>[]) (fun gh=>gh.2) (fun gh=>gh.1≤l.length∧sZ (zJ l) gh.1 (l.length - gh.1)=sZ (zJ l) 0 l.length∧(∀ b o,G b=some o→gh.2 b=some o)) (fun gh=>l.length - gh.1) ((0,G)) sB ?_ ?_
 ·exact ⟨gW _,rfl,fun _ _ h=>h⟩
 clear H;rintro ⟨k,g⟩ a w hI H;dsimp only at hI H;obtain ⟨hk,heq,hgm⟩:=hI;dsimp only [lca,bG] at H;refine dQ 4 H ?_ ?_ <;> clear H
 ·intro p16
  have hk2:k < l.length:=by omega
  rw [ajx hk2,abt hk2] at heq;refine ak 10 ?_;intro a H;refine s_call ahn H wn rfl (aoT _ _ H.ro l k _ (hv.mono hgm) hk2 (hN _ (lD hk2))) rfl ?_;clear H;rintro v20 IX a w rfl qG H;refine gQ 6 H ?_ ?_ <;> clear H
  ·intro iY
   refine ak 2 ?_;intro a H;refine aV iA 0 (vs:=[_]) _ H wn rfl rfl rfl rfl rfl rfl rfl rfl ?_;clear H;intro w H;dsimp only [List.set,setRow] at H;refine aC ?_;refine dR ?_;refine bZ ?_;refine (leave1 H results119 (.cons (Co iA H rfl (H.hp.qI 0 rfl rfl)) .nil) ?_).1
   first
    | exact H.rt (aB vi (by rw [gL,av (by omega)]))
    | exact H.rt (aB vi (by rw [ah (by simpa using iY)] at heq;rw [gL,ah (by omega),← heq,av (by simpa using iY)]))
    | exact H.rt (aB vi (by rw [gL,ah (by omega),ah (by rw [hok];decide),av hbad]))
    | exact H.rt (aB vi (by rw [gL,ah (by omega),ah (by rw [hok];decide),ah hbad,av (vG hj2 hI)]))
    | exact H.rt (aB vi (by rw [gL,ah (by omega),ah (by rw [hok];decide),ah hbad,ah (Ad (by omega) hnc)]))
  intro iY
  refine ak 4 ?_;intro a H;refine aC ?_;refine cB ((k+1,IX)) sB ?_ ?_
  ·(try dsimp only);exact ⟨by omega,by rw [av (by simpa using iY)] at heq;exact heq,fun b o h=>qG b o (hgm b o h)⟩
  first|omega|(dsimp only;omega)
 intro p16
 have hok:sZ (zJ l) 0 l.length=0:=by rw [← heq];exact ajw (by omega)
 clear heq;have AA:=hv.mono hgm;refine ak 8 ?_;intro a H;refine eH (ι:=Nat × GH) (Tc:=[(1,_),(2,_),(25,_),(26,_)]) (Lc:=[(_,_),(_,_)]) (fun gh=>[(27,vi gh.1)]) (fun gh=>[]) (fun gh=>gh.2) (fun gh=>gh.1≤l.length∧(l.take gh.1).any (sU l)=false∧(∀ b o,g b=some o→gh.2 b=some o)) (fun gh=>l.length - gh.1) ((0,g)) sB ?_ ?_
 ·exact ⟨gW _,rfl,fun _ _ h=>h⟩
 clear H;rintro ⟨k,g2⟩ a w hI H;dsimp only at hI H;obtain ⟨hk3,hno,iV⟩:=hI;have zG:=AA.mono iV;dsimp only [lca,bG] at H;refine dQ 4 H ?_ ?_ <;> clear H
 ·intro p28
  have hk4:k < l.length:=by omega
  obtain ⟨b,o,pA,pc,rfl,hrow,hp,hrep⟩:=Cw zG hk4;refine ak 5 ?_;intro a H;refine aS jF (cs:=[_,_,_,_,_,_]) H wn rfl rfl (fun j v hj=>H.hp.aI (hrow j v hj)) rfl ?_;clear H;intro a H;refine dz jF H wn rfl ?_;clear H;intro b6 a w hb6 H;refine aV jF 0 (vs:=[_,_,_,_,_,_]) _ H wn rfl rfl rfl rfl rfl rfl rfl rfl ?_;clear H;intro w H;dsimp only [List.set,setRow] at H;refine kT 6 34 H ?_ ?_ <;> clear H
  ·intro kY
   try have p34:=dT kY
   refine ak 5 ?_;intro a H;refine s_call Q0 H (wg H rfl rfl kY) rfl (Ui _ _ H.ro l l[k].kind l[k].base _ zG) rfl ?_;clear H;rintro v40 g2 a w rfl EJ H;replace iV:=fun b o (h:g b=some o)=>EJ b o (iV b o h);replace zG:=zG.mono EJ;refine pW 3 43 H ?_ ?_ <;> clear H
   ·intro p43
    refine ak 18 ?_;have hbad:l.any (sU l)=true:=vG hk4 (by unfold sU;simp_all);refine ak 1 ?_;intro a H;refine aV iA 1 (vs:=[_]) _ H wn rfl rfl rfl rfl rfl rfl rfl rfl ?_;clear H;intro w H;dsimp only [List.set,setRow] at H;refine aC ?_;refine dR ?_;refine bZ ?_;refine (leave1 H results119 (.cons (Co iA H rfl (H.hp.qI 1 rfl rfl)) .nil) ?_).1
    first
     | exact H.rt (aB vi (by rw [gL,av (by omega)]))
     | exact H.rt (aB vi (by rw [ah (by simpa using iY)] at heq;rw [gL,ah (by omega),← heq,av (by simpa using iY)]))
     | exact H.rt (aB vi (by rw [gL,ah (by omega),ah (by rw [hok];decide),av hbad]))
     | exact H.rt (aB vi (by rw [gL,ah (by omega),ah (by rw [hok];decide),ah hbad,av (vG hj2 hI)]))
     | exact H.rt (aB vi (by rw [gL,ah (by omega),ah (by rw [hok];decide),ah hbad,ah (Ad (by omega) hnc)]))
   intro p43
   refine lT 4 47 ?_ ?_
   ·intro p47
    refine jV 4 51 ?_ ?_
    ·intro BF
     try have p51:=dT BF
     refine ak 10 ?_;have hbad:l.any (sU l)=true:=vG hk4 (by unfold sU;simp_all);refine ak 1 ?_;intro a H;refine aV iA 1 (vs:=[_]) _ H wn rfl rfl rfl rfl rfl rfl rfl rfl ?_;clear H;intro w H;dsimp only [List.set,setRow] at H;refine aC ?_;refine dR ?_;refine bZ ?_;refine (leave1 H results119 (.cons (Co iA H rfl (H.hp.qI 1 rfl rfl)) .nil) ?_).1
     first
      | exact H.rt (aB vi (by rw [gL,av (by omega)]))
      | exact H.rt (aB vi (by rw [ah (by simpa using iY)] at heq;rw [gL,ah (by omega),← heq,av (by simpa using iY)]))
      | exact H.rt (aB vi (by rw [gL,ah (by omega),ah (by rw [hok];decide),av hbad]))
      | exact H.rt (aB vi (by rw [gL,ah (by omega),ah (by rw [hok];decide),ah hbad,av (vG hj2 hI)]))
      | exact H.rt (aB vi (by rw [gL,ah (by omega),ah (by rw [hok];decide),ah hbad,ah (Ad (by omega) hnc)]))
    intro BF
    try have p51:=dF BF
    refine ak 3 ?_;intro a H;refine s_call Q0 H (wg H rfl rfl BF) rfl (Ui _ _ H.ro l 1 l[k].next _ zG) rfl ?_;clear H;rintro v55 g2 a w rfl uO H;replace iV:=fun b o (h:g b=some o)=>uO b o (iV b o h);replace zG:=zG.mono uO;refine gQ 5 H ?_ ?_ <;> clear H
    ·intro p59
     have hbad:l.any (sU l)=true:=vG hk4 (by unfold sU;simp_all);refine ak 1 ?_;intro a H;refine aV iA 1 (vs:=[_]) _ H wn rfl rfl rfl rfl rfl rfl rfl rfl ?_;clear H;intro w H;dsimp only [List.set,setRow] at H;refine aC ?_;refine dR ?_;refine bZ ?_;refine (leave1 H results119 (.cons (Co iA H rfl (H.hp.qI 1 rfl rfl)) .nil) ?_).1
     first
      | exact H.rt (aB vi (by rw [gL,av (by omega)]))
      | exact H.rt (aB vi (by rw [ah (by simpa using iY)] at heq;rw [gL,ah (by omega),← heq,av (by simpa using iY)]))
      | exact H.rt (aB vi (by rw [gL,ah (by omega),ah (by rw [hok];decide),av hbad]))
      | exact H.rt (aB vi (by rw [gL,ah (by omega),ah (by rw [hok];decide),ah hbad,av (vG hj2 hI)]))
      | exact H.rt (aB vi (by rw [gL,ah (by omega),ah (by rw [hok];decide),ah hbad,ah (Ad (by omega) hnc)]))
    intro p59
    refine ak 4 ?_;intro a H;refine aC ?_;refine cB ((k+1,g2)) (by exact (H.dY (Pl:=[_,_,_]) (dM:=[_,_]) [1,2] (by decide) rfl).sub ⟨rfl,rfl,rfl,rfl,rfl,aU⟩) ?_ ?_
    ·(try dsimp only);exact ⟨by omega,Jf hk4 hno (by unfold sU;simp_all),iV⟩
    first|omega|(dsimp only;omega)
   intro p47
   refine ak 18 ?_;intro a H;refine aC ?_;refine cB ((k+1,g2)) (by exact (H.dY (Pl:=[_,_,_]) (dM:=[_,_]) [1,2] (by decide) rfl).sub ⟨rfl,rfl,rfl,rfl,rfl,aU⟩) ?_ ?_
   ·(try dsimp only);exact ⟨by omega,Jf hk4 hno (by unfold sU;simp_all),iV⟩
   first|omega|(dsimp only;omega)
  intro kY
  try have p34:=dF kY
  refine ak 9 ?_;intro a H;refine Iz ajO H (wg H rfl rfl rfl) rfl rfl ?_;clear H;intro a H;refine iF bR H (wg H rfl rfl rfl) rfl (H.hp.qI 0 rfl rfl) rfl ?_;clear H;intro a H;refine Fw H (wg H rfl rfl rfl) rfl rfl rfl rfl ?_;clear H;intro a H;refine Fy H (wg H rfl rfl rfl) rfl rfl ?_;clear H;refine jV 0 47 ?_ ?_
  ·intro h47
   try have p47:=dT h47
   refine jV 4 51 ?_ ?_
   ·intro BF
    try have p51:=dT BF
    refine ak 6 ?_;intro a H;refine KW H (wg H rfl rfl rfl) rfl h47 rfl rfl ?_;clear H;refine ak 3 ?_;have hbad:l.any (sU l)=true:=vG hk4 (by unfold sU;simp_all);refine ak 1 ?_;intro a H;refine aV iA 1 (vs:=[_]) _ H wn rfl rfl rfl rfl rfl rfl rfl rfl ?_;clear H;intro w H;dsimp only [List.set,setRow] at H;refine aC ?_;refine dR ?_;refine bZ ?_;refine (leave1 H results119 (.cons (Co iA H rfl (H.hp.qI 1 rfl rfl)) .nil) ?_).1
    first
     | exact H.rt (aB vi (by rw [gL,av (by omega)]))
     | exact H.rt (aB vi (by rw [ah (by simpa using iY)] at heq;rw [gL,ah (by omega),← heq,av (by simpa using iY)]))
     | exact H.rt (aB vi (by rw [gL,ah (by omega),ah (by rw [hok];decide),av hbad]))
     | exact H.rt (aB vi (by rw [gL,ah (by omega),ah (by rw [hok];decide),ah hbad,av (vG hj2 hI)]))
     | exact H.rt (aB vi (by rw [gL,ah (by omega),ah (by rw [hok];decide),ah hbad,ah (Ad (by omega) hnc)]))
   intro BF
   try have p51:=dF BF
   refine ak 3 ?_;intro a H;refine s_call Q0 H (wg H rfl rfl BF) rfl (Ui _ _ H.ro l 1 l[k].next _ zG) rfl ?_;clear H;rintro v55 g2 a w rfl uO H;replace iV:=fun b o (h:g b=some o)=>uO b o (iV b o h);replace zG:=zG.mono uO;refine aD 2 H ?_;clear H;intro a H;refine KW H (wg H rfl rfl rfl) rfl h47 rfl rfl ?_;clear H;refine goB 2 ?_ ?_
   ·intro p59
    have hbad:l.any (sU l)=true:=vG hk4 (by unfold sU;simp_all);refine ak 1 ?_;intro a H;refine aV iA 1 (vs:=[_]) _ H wn rfl rfl rfl rfl rfl rfl rfl rfl ?_;clear H;intro w H;dsimp only [List.set,setRow] at H;refine aC ?_;refine dR ?_;refine bZ ?_;refine (leave1 H results119 (.cons (Co iA H rfl (H.hp.qI 1 rfl rfl)) .nil) ?_).1
    first
     | exact H.rt (aB vi (by rw [gL,av (by omega)]))
     | exact H.rt (aB vi (by rw [ah (by simpa using iY)] at heq;rw [gL,ah (by omega),← heq,av (by simpa using iY)]))
     | exact H.rt (aB vi (by rw [gL,ah (by omega),ah (by rw [hok];decide),av hbad]))
     | exact H.rt (aB vi (by rw [gL,ah (by omega),ah (by rw [hok];decide),ah hbad,av (vG hj2 hI)]))
     | exact H.rt (aB vi (by rw [gL,ah (by omega),ah (by rw [hok];decide),ah hbad,ah (Ad (by omega) hnc)]))
   intro p59
   refine ak 4 ?_;intro a H;refine aC ?_;refine cB ((k+1,g2)) (by exact (H.dY (Pl:=[_,_,_]) (dM:=[_,_]) [1,2] (by decide) rfl).sub ⟨rfl,rfl,rfl,rfl,rfl,aU⟩) ?_ ?_
   ·(try dsimp only);exact ⟨by omega,Jf hk4 hno (by unfold sU;simp_all),iV⟩
   first|omega|(dsimp only;omega)
  intro h47
  try have p47:=dF h47
  refine ak 10 ?_;intro a H;refine O5 H (wg H rfl rfl rfl) rfl h47 rfl rfl ?_;clear H;refine ak 7 ?_;intro a H;refine aC ?_;refine cB ((k+1,g2)) (by exact (H.dY (Pl:=[_,_,_]) (dM:=[_,_]) [1,2] (by decide) rfl).sub ⟨rfl,rfl,rfl,rfl,rfl,aU⟩) ?_ ?_
  ·(try dsimp only);exact ⟨by omega,Jf hk4 hno (by unfold sU;simp_all),iV⟩
  first|omega|(dsimp only;omega)
 intro p28
 have hbad:=Ad (by omega) hno;refine ak 8 ?_;intro a H;refine aey (ι:=Nat × GH × List Nat) (Tc:=[(1,_),(2,_),(61,_),(62,_)]) (Lc:=[(_,_),(_,_)]) (fun gh=>UD gh.2.2) (fun gh=>[(63,vi gh.1)]) (fun gh=>[]++(Fa gh.2.2++[])) (fun gh=>gh.2.1) (fun gh=>gh.1≤l.length∧(l.take gh.1).any (QK l)=false∧(∀ b o,g2 b=some o→gh.2.1 b=some o)) (fun gh=>l.length - gh.1) ((0,g2,[])) sB ?_ ?_
 ·exact ⟨gW _,rfl,fun _ _ h=>h⟩
 clear H;rintro ⟨j,g3,ds⟩ a w hI H;dsimp only at hI H;obtain ⟨hj,hnc,vV⟩:=hI;have T9:=zG.mono vV;dsimp only [lca,bG] at H;refine dQ 4 H ?_ ?_ <;> clear H
 ·intro p64
  have hj2:j < l.length:=by omega
  obtain ⟨b,o,pA,pc,rfl,hrow,hp,hrep⟩:=Cw T9 hj2;refine ak 5 ?_;intro a H;refine aS jF (cs:=[_,_,_,_,_,_]) H wn rfl rfl (fun j v hj=>H.hp.aI (hrow j v hj)) rfl ?_;clear H;intro a H;refine dz jF H wn rfl ?_;clear H;intro b8 a w Ar H;refine aV jF 0 (vs:=[_,_,_,_,_,_]) _ H wn rfl rfl rfl rfl rfl rfl rfl rfl ?_;clear H;intro w H;dsimp only [List.set,setRow] at H;refine aD 2 H ?_;clear H;intro a H;refine dz bR H wn rfl ?_;clear H;intro b9 a w rQ H;refine aV bR 0 (vs:=[_]) _ H wn rfl rfl rfl rfl rfl rfl rfl rfl ?_;clear H;intro w H;dsimp only [List.set,setRow] at H;refine aD 5 H ?_;clear H;intro a H;refine gF aho (Li:=[_,_,_,_]++Fa ds) (L:=[]) (St.un (A:=[_,_,_,_]) H) wn rfl (aeW (Hp.owns (Li:=[_,_,_,_]++Fa ds) (St.un (A:=[_,_,_,_]) H).hp) l l[j].id _ T9) rfl ?_;clear H;rintro v70 g4 L70 a w ⟨bl,bi,rfl,rfl,hbl⟩ ZK H;have H:=(St.Im (A:=[_,_,_,_,_]) (B:=Fa ds) (H.perm uq));dsimp only [lca,bG] at H;have hit:=aeV (l:=l) (id:=l[j].id) (bi:=bi) hbl (T9.mono ZK) (abv hok);refine aD 2 H ?_;clear H;intro a H;refine aeC (B:=[(_,_)]) (ι:=Unit) (κ:=Int) (Lc:=[(_,_),(_,_)]) (fun (k:Nat) (gh:Unit)=>[(b9,.cells #[vi k] 3 (0,0)),(b2,.cells #[vi 0] 49 (0,0))]) (fun (k:Nat) (gh:Unit)=>(Fa ds++[])) (fun (k:Nat) (gh:Unit) (g:GH)=>k≤l.length) (fun (gx:Int)=>Code.ret) (fun (gx:Int)=>[(b9,.cells #[vi gx] 3 (0,0)),(b2,.cells #[vi 16] 49 (0,0))]) (fun (gx:Int)=>(Fa ds++[])) (fun (gx:Int) (g:GH)=>QK l l[j]=true) (()) (by exact H.dY (Pl:=[_,_,_,_,_]) (dM:=[_,_,_,_,_]) [0,2,4,1,3] (by decide) rfl) rfl Yb (hit) (fun _ _ h=>h) (fun e i g h=>absurd (of_decide_eq_false e) (by rw [bM] at h;omega)) rfl (fun k args g h=>by obtain ⟨_,_,rfl,_⟩:=acA h;rfl) (fun _ _ _ _ _ h=>h) (fun _ _ _ _ h=>h) (gW _) ?_ ?_ ?_
  ·clear H;intro l21 Fv Bv bk k args gh IY w21 F21 B21 a Zz pY hI aly amu amY H;obtain ⟨Zz,atn,rfl,aub⟩:=acA Zz;dsimp only [Ae,List.cons_append,List.nil_append] at H;refine jB ?_;refine aly _ _ _ _ _ _ (by exact H) ?_;clear H;intro w H;refine fO 4 H ?_;clear H;intro a H;refine aV bR 3 (vs:=[_]) _ H wn rfl rfl rfl rfl rfl rfl rfl rfl ?_;clear H;intro w H;dsimp only [List.set,setRow] at H;refine gQ 7 H ?_ ?_ <;> clear H
   ·intro Ip
    refine ak 1 ?_;intro a H;refine aV iA 4 (vs:=[_]) _ H wn rfl rfl rfl rfl rfl rfl rfl rfl ?_;clear H;intro w H;dsimp only [List.set,setRow] at H;refine aC ?_;refine dR ?_;refine bZ ?_;refine (amY ((k:Int)+1) _ _ _ _ _ (by exact H) ?_).1 rfl;exact iT (by omega)
   intro Ip
   intro a H;refine jB ?_;refine amu (()) _ _ _ _ _ (by exact H) ?_
   omega
  ·clear H;intro VZ gh Wp a w pY hI H;dsimp only [lca,bG] at H;refine dR ?_;refine fO 3 H ?_;clear H;intro a H;refine aC ?_;refine aob ((j+1,Wp,VZ :: ds)) (by exact (H.dY (Pl:=[_,_,_,_,_]) (dM:=[_,_,_]) [4,2,0] (by decide) rfl).sub ⟨rfl,rfl,rfl,rfl,rfl,aU⟩) ?_ ?_
   ·(try dsimp only);exact ⟨by omega,Jf hj2 hnc (jc (by rw [bM] at hI;omega)),fun b o h=>pY b o (ZK b o (vV b o h))⟩
   first|omega|(dsimp only;omega)
  clear H;intro VZ x Wp a w pY hI H;dsimp only [lca,bG] at H;refine bZ ?_;refine (Uq H 0 rfl ?_).1;clear H;intro a w H;dsimp only [List.eraseIdx_cons_succ,List.eraseIdx_cons_zero] at H;refine (Ur (Lh:=[_,_,_,_]) _ H ?_).1;clear H;intro a w H;dsimp only [lca,bG] at H;refine (leave1 H results119 (.cons (Co iA H rfl (H.hp.qI 3 rfl rfl)) .nil) ?_).1
  first
   | exact H.rt (aB vi (by rw [gL,av (by omega)]))
   | exact H.rt (aB vi (by rw [ah (by simpa using iY)] at heq;rw [gL,ah (by omega),← heq,av (by simpa using iY)]))
   | exact H.rt (aB vi (by rw [gL,ah (by omega),ah (by rw [hok];decide),av hbad]))
   | exact H.rt (aB vi (by rw [gL,ah (by omega),ah (by rw [hok];decide),ah hbad,av (vG hj2 hI)]))
   | exact H.rt (aB vi (by rw [gL,ah (by omega),ah (by rw [hok];decide),ah hbad,ah (Ad (by omega) hnc)]))
 intro p64
 refine ak 2 ?_;intro a H;refine aV iA 0 (vs:=[_]) _ H wn rfl rfl rfl rfl rfl rfl rfl rfl ?_;clear H;intro w H;dsimp only [List.set,setRow] at H;refine aC ?_;refine dR ?_;refine bZ ?_;refine (Ur (Lh:=[_,_]) _ H ?_).1;clear H;intro a w H;dsimp only [lca,bG] at H;refine (leave1 H results119 (.cons (Co iA H rfl (H.hp.qI 0 rfl rfl)) .nil) ?_).1
 first
  | exact H.rt (aB vi (by rw [gL,av (by omega)]))
  | exact H.rt (aB vi (by rw [ah (by simpa using iY)] at heq;rw [gL,ah (by omega),← heq,av (by simpa using iY)]))
  | exact H.rt (aB vi (by rw [gL,ah (by omega),ah (by rw [hok];decide),av hbad]))
  | exact H.rt (aB vi (by rw [gL,ah (by omega),ah (by rw [hok];decide),ah hbad,av (vG hj2 hI)]))
  | exact H.rt (aB vi (by rw [gL,ah (by omega),ah (by rw [hok];decide),ah hbad,ah (Ad (by omega) hnc)]))
end
section
open Go.RowKit
instance yE:Ty prog 34 1 24 [.slice none 0 0] false:=⟨by kernel_rfl,by kernel_rfl⟩
theorem sM:prog.underlying 34=some (.slice 110):=by kernel_rfl
instance:kg prog 34 (.slice 110):=⟨sM⟩
instance uZ:Ty prog 110 2 32 [.string ⟨#[]⟩,.string ⟨#[]⟩] true:=⟨by kernel_rfl,by kernel_rfl⟩
instance GU:dS prog 110 0 0:=⟨by kernel_rfl⟩
theorem Q6:∀ args w,(callFunc 192 args).run prog w=.ok (.enter 192 args) w:=enters func192 rfl (by kernel_rfl)
instance Yw:dS prog 110 1 1:=⟨by kernel_rfl⟩
instance RG:dS prog 36 0 0:=⟨by kernel_rfl⟩
theorem agA:∀ args w,(callFunc 119 args).run prog w=.ok (.enter 119 args) w:=enters func119 rfl (by kernel_rfl)
instance RH:dS prog 36 1 1:=⟨by kernel_rfl⟩
theorem agB:∀ args w,(callFunc 120 args).run prog w=.ok (.enter 120 args) w:=enters func120 rfl (by kernel_rfl)
instance ajS:dS prog 36 2 2:=⟨by kernel_rfl⟩
theorem agC:∀ args w,(callFunc 121 args).run prog w=.ok (.enter 121 args) w:=enters func121 rfl (by kernel_rfl)
instance ajT:dS prog 36 3 3:=⟨by kernel_rfl⟩
theorem agD:∀ args w,(callFunc 122 args).run prog w=.ok (.enter 122 args) w:=enters func122 rfl (by kernel_rfl)
theorem ahw:∀ args w,(callFunc 191 args).run prog w=.ok (.enter 191 args) w:=enters func191 rfl (by kernel_rfl)
theorem adf {G:GH} {l:List iB} {A:Option Addr} {n c k:Nat} (hv:au G (.sl 2 (l.map iB.dat)) (.slice A n c)) (hk:k < l.length):∃ b o,A=some ⟨b,o,none⟩∧(∀ j u,l[k].cells[j]?=some u→aI G b (o+k*2+j)=some u):=by
 obtain ⟨A',c',he,_,_,hg⟩:=hv.slice
 injection he with e1 e2 e3
 subst e1;obtain ⟨b,o,cs,h1,h2,h3,h4⟩:=hg k l[k].dat (by simp [hk]);have:=VH h4;subst this;exact ⟨b,o,h1,h3⟩
def ade (k:Nat) (x:iB) (pn:ByteArray):Int:=cO [dx (!qP x.name) 13,dx (decide (0 < (k:Int)) && (x.name.toList == pn.toList)) 7,dx (decide (0 < (k:Int)) && Op.bytesLess x.name.toList pn.toList) 6,Cy x.value]
def IK (l:List iB) (k:Nat):Int:=match l[k]? with|some x=>ade k x ((l[k - 1]?.map iB.name).getD ⟨#[]⟩)|none=>0
theorem asE {G:GH} {bl:Nat} {l:List iB} {A:Option Addr} {n c:Nat} (hb:aI G bl 0=some (.slice A n c)) (hv:au G (.sl 2 (l.map iB.dat)) (.slice A n c)) (hl:l.length≤4294967296) (ht:∀ x∈l,x.name.size < 4611686018427387904∧x.value.size < 4611686018427387904):sO (.func (.func 191) #[] #[(aG bl 0)]) G l.length (IK l):=by
 intro k hk G1 w0 hm hG;refine iN (caps:=[(aG bl 0)]) ahw ?_;replace hb:=aH hm hb;replace hv:=hv.mono hm
 obtain rfl:n=l.length:=by have:=hv.len;simpa using this
 obtain ⟨b,o,rfl,hrow⟩:=adf hv hk
 have hk1:k - 1 < l.length:=by omega
 obtain ⟨b',o',he',hrow'⟩:=adf hv hk1
 injection he' with he'
 injection he' with e1 e2
 subst e1;subst e2;have hte:=ht _ (lD hk)
 have he:IK l k=ade k l[k] l[k - 1].name:=by unfold IK;rw [eO hk,eO hk1];rfl
 obtain ⟨x,hx⟩:∃ x,x=l[k]:=⟨_,rfl⟩;obtain ⟨y,hy⟩:∃ y,y=l[k - 1]:=⟨_,rfl⟩;rw [← hx] at hrow hte he;rw [← hy] at hrow' he;refine eN [(0,_),(1,_)] func191 rfl ntmps191 rfl rfl hG ?_;refine ak 4 ?_;intro a H;have H:=H.sub (T':=[(0,_),(1,_)]) ⟨rfl,rfl,aU⟩
 by_cases c0:0 < (k:Int)
 ·refine dI hmx [[],[],[0,1],[0,1,2],(ra 0 4),(ra 0 5),(ra 0 6),(ra 0 7),[],[8],(ra 0 10),(ra 0 11),(ra 0 11),(ra 0 13),(ra 0 14),(ra 0 15),(ra 0 11),(ra 0 11),(ra 0 11++[17]),(ra 0 11++[17,18]),(ra 0 11++ra 16 4),(ra 0 11++ra 16 5),(ra 0 11++ra 16 6),(ra 0 23),(ra 0 24),(ra 0 25),[],[26],(ra 0 28),(ra 0 29),(ra 0 29),(ra 0 31),(ra 0 32),(ra 0 33),(ra 0 29),(ra 0 29),(ra 0 29++[35]),(ra 0 29++[35,36]),(ra 0 29++ra 34 4),(ra 0 29++ra 34 5),(ra 0 29++ra 34 6),(ra 0 41),(ra 0 42),(ra 0 43),[],[],[44,45],[44,45,46],(ra 44 4),(ra 0 49),(ra 0 50),(ra 0 51),(ra 0 52)] [50,51,52] (by kernel_rfl) [_,_,_,_,_,.bool (qP x.name),_,vi (dx (!qP x.name) 13),_,_,_,_,_,_,_,_,_,_,vi ((max k 1:Nat):Int),vi ((k - 1:Nat):Int),_,_,_,.bool (x.name.toList == y.name.toList),.bool (decide (0 < (k:Int)) && (x.name.toList == y.name.toList)),vi (dx (decide (0 < (k:Int)) && (x.name.toList == y.name.toList)) 7),_,_,_,_,_,_,_,_,_,_,vi ((max k 1:Nat):Int),vi ((k - 1:Nat):Int),_,_,_,.bool (Op.bytesLess x.name.toList y.name.toList),.bool (decide (0 < (k:Int)) && Op.bytesLess x.name.toList y.name.toList),vi (dx (decide (0 < (k:Int)) && Op.bytesLess x.name.toList y.name.toList) 6),_,_,_,_,_,vi (Cy x.value)] H (aF (X0 rfl fun hG=>Rg yE rfl (aH hG hb)) (Z0 rfl (Rm rfl)) (Z2 0 4 1 5 rfl (Ri sM uZ rfl rfl)) (Z1 2 6 rfl (Rf GU rfl)) (aF (X1 3 7 rfl fun hG=>Rg mg rfl (aH hG (hrow 0 _ rfl))) ?_ (Z1 5 9 rfl (Rn rfl)) ?_ (aF (Z0 rfl (Rm rfl)) (Z1 8 12 rfl (Rc rfl)) (Z1 9 13 rfl (Rm rfl)) (X1 10 14 rfl fun hG=>YR yE (aK c0) rfl (aH hG hb)) (aF (Z1 10 14 rfl (YM (aK c0) rfl)) (Z3 11 15 12 16 10 14 rfl (YI sM uZ (aK c0) rfl rfl)) (Z2 13 17 10 14 rfl (YF GU (aK c0) rfl)) (X2 14 18 10 14 rfl fun hG=>YR mg (aK c0) rfl (aH hG (hrow 0 _ rfl))) (aF (X1 10 14 rfl fun hG=>YR yE (aK c0) rfl (aH hG hb)) (Z1 10 14 rfl (YM (aK c0) rfl)) ?_ ?_ (aF (Z3 16 20 19 23 10 14 rfl (YI sM uZ (aK c0) rfl rfl)) (Z2 20 24 10 14 rfl (YF GU (aK c0) rfl)) (X2 21 25 10 14 rfl fun hG=>YR mg (aK c0) rfl (aH hG (hrow' 0 _ rfl))) ?_ (aF ?_ ?_ (Z0 rfl (Rm rfl)) (Z1 26 30 rfl (Rc rfl)) (aF (Z1 27 31 rfl (Rm rfl)) (X1 28 32 rfl fun hG=>YR yE (aK c0) rfl (aH hG hb)) (Z1 28 32 rfl (YM (aK c0) rfl)) (Z3 29 33 30 34 28 32 rfl (YI sM uZ (aK c0) rfl rfl)) (aF (Z2 31 35 28 32 rfl (YF GU (aK c0) rfl)) (X2 32 36 28 32 rfl fun hG=>YR mg (aK c0) rfl (aH hG (hrow 0 _ rfl))) (X1 28 32 rfl fun hG=>YR yE (aK c0) rfl (aH hG hb)) (Z1 28 32 rfl (YM (aK c0) rfl)) (aF ?_ ?_ (Z3 34 38 37 41 28 32 rfl (YI sM uZ (aK c0) rfl rfl)) (Z2 38 42 28 32 rfl (YF GU (aK c0) rfl)) (aF (X2 39 43 28 32 rfl fun hG=>YR mg (aK c0) rfl (aH hG (hrow' 0 _ rfl))) ?_ ?_ ?_ (aF (X0 rfl fun hG=>Rg yE rfl (aH hG hb)) (Z0 rfl (Rm rfl)) (Z2 44 48 45 49 rfl (Ri sM uZ rfl rfl)) (Z1 46 50 rfl (Rf Yw rfl)) (aF (X1 47 51 rfl fun hG=>Rg mg rfl (aH hG (hrow 1 _ rfl))) ?_ (bQ rfl) (bQ rfl) (bH (bQ rfl) cZ)))))))))))))) ?_
  ·refine eu 4 8 rfl rfl fun _ a w G1 hG HT H fin=>?_;refine s_call Q6 H wn rfl (QH _ _ H.ro x.name hte.1) rfl ?_;clear H;rintro v9 G9 a w ⟨rfl,-⟩ Ny H;exact fin H Ny (rfl)
  ·refine eu 6 10 rfl rfl fun _ a w G1 hG HT H fin=>?_;refine s_call jC H wn rfl (jH _ _ H.ro _ 13) rfl ?_;clear H;rintro v11 ru a w ⟨rfl,-⟩ kZ H;exact fin H kZ (rfl)
  ·refine dH 17 21 10 14 rfl rfl fun _ a w G1 hG HT H fin=>?_;refine OZ H (wg H rfl rfl (aK c0)) rfl rfl rfl ?_;clear H;intro a H;exact fin H iJ (by show _=_;first|rfl|exact aB vi (by omega))
  ·refine dH 18 22 10 14 rfl rfl fun _ a w G1 hG HT H fin=>?_;refine lK _ H (wg H rfl rfl (aK c0)) rfl rfl rfl (by omega) (by omega) rfl ?_;clear H;intro a H;exact fin H iJ (by show _=_;first|rfl|exact aB vi (by omega))
  ·refine xI 15 19 22 26 10 14 rfl rfl fun _ a w G1 hG HT H fin=>?_;refine AY H (wg H rfl rfl (aK c0)) rfl rfl rfl ?_;clear H;intro a H;exact fin H iJ rfl
  ·refine dH 10 14 23 27 rfl rfl fun _ a w G1 hG HT H fin=>?_;refine aD 1 H ?_;clear H;intro a H;exact fin H iJ (dD (by first|(rw [iT c0,CW];done)|(rw [jc c0,wH];done)))
  ·refine eu 24 28 rfl rfl fun _ a w G1 hG HT H fin=>?_;refine s_call jC H wn rfl (jH _ _ H.ro _ 7) rfl ?_;clear H;rintro v29 xG a w ⟨rfl,-⟩ Sg H;exact fin H Sg (rfl)
  ·refine dH 35 39 28 32 rfl rfl fun _ a w G1 hG HT H fin=>?_;refine OZ H (wg H rfl rfl (aK c0)) rfl rfl rfl ?_;clear H;intro a H;exact fin H iJ (by show _=_;first|rfl|exact aB vi (by omega))
  ·refine dH 36 40 28 32 rfl rfl fun _ a w G1 hG HT H fin=>?_;refine lK _ H (wg H rfl rfl (aK c0)) rfl rfl rfl (by omega) (by omega) rfl ?_;clear H;intro a H;exact fin H iJ (by show _=_;first|rfl|exact aB vi (by omega))
  ·refine xI 33 37 40 44 28 32 rfl rfl fun _ a w G1 hG HT H fin=>?_;refine aqB H (wg H rfl rfl (aK c0)) rfl rfl rfl ?_;clear H;intro a H;exact fin H iJ rfl
  ·refine dH 28 32 41 45 rfl rfl fun _ a w G1 hG HT H fin=>?_;refine aD 1 H ?_;clear H;intro a H;exact fin H iJ (dD (by first|(rw [iT c0,CW];done)|(rw [jc c0,wH];done)))
  ·refine eu 42 46 rfl rfl fun _ a w G1 hG HT H fin=>?_;refine s_call jC H wn rfl (jH _ _ H.ro _ 6) rfl ?_;clear H;rintro v47 Wi a w ⟨rfl,-⟩ Sl H;exact fin H Sl (rfl)
  ·refine eu 48 52 rfl rfl fun _ a w G1 hG HT H fin=>?_;refine s_call Q5 H wn rfl (Vu _ _ H.ro x.value hte.2) rfl ?_;clear H;rintro v53 P6 a w rfl JK H;exact fin H JK (rfl)
  clear H;intro a w G iP H hv;have H:=H.aN (hv 7 11 rfl rfl) rfl;have H:=H.aN (hv 25 29 rfl rfl) rfl;have H:=H.aN (hv 43 47 rfl rfl) rfl;have H:=H.aN (hv 49 53 rfl rfl) rfl;clear hv;refine gJ qm iA [_,_,_,_] [_,_,_,_] H wn rfl rfl rfl rfl rfl (by intro i q h;match i,h with|0,h=>exact h|1,h=>exact h|2,h=>exact h|3,h=>exact h|n+4,h=>simp at h) rfl rfl ?_;clear H;intro Af a w Zh H;obtain ⟨G54,aml,SL,H⟩:=H.dZ;refine s_call qC H wn rfl (qD _ _ H.ro _ _ (EY [dx (!qP x.name) 13,dx (decide (0 < (k:Int)) && (x.name.toList == y.name.toList)) 7,dx (decide (0 < (k:Int)) && Op.bytesLess x.name.toList y.name.toList) 6,Cy x.value] SL (show 4≤maxLen by decide))) rfl ?_;clear H;rintro v55 _ a w ⟨rfl,rfl⟩ - H;refine kH H (Ra rfl ?_);clear H;intro a H;refine aC ⟨rfl,?_⟩;refine dR ?_;refine uH 0 H ?_;rw [he];rfl
 refine dI hmx [[],[],[0,1],[0,1,2],(ra 0 4),(ra 0 5),(ra 0 6),(ra 0 7),[],[8],(ra 0 10),(ra 0 11),(ra 0 11),(ra 0 13),(ra 0 14),(ra 0 15),(ra 0 11),(ra 0 11),(ra 0 11++[17]),(ra 0 11++[17,18]),(ra 0 11++ra 16 4),(ra 0 11++ra 16 5),(ra 0 11++ra 16 6),(ra 0 23),(ra 0 24),(ra 0 25),[],[26],(ra 0 28),(ra 0 29),(ra 0 29),(ra 0 31),(ra 0 32),(ra 0 33),(ra 0 29),(ra 0 29),(ra 0 29++[35]),(ra 0 29++[35,36]),(ra 0 29++ra 34 4),(ra 0 29++ra 34 5),(ra 0 29++ra 34 6),(ra 0 41),(ra 0 42),(ra 0 43),[],[],[44,45],[44,45,46],(ra 44 4),(ra 0 49),(ra 0 50),(ra 0 51),(ra 0 52)] [50,51,52] (by kernel_rfl) [_,_,_,_,_,.bool (qP x.name),_,vi (dx (!qP x.name) 13),_,_,_,undef,undef,undef,undef,undef,undef,undef,undef,undef,undef,undef,undef,undef,.bool (decide (0 < (k:Int)) && (x.name.toList == y.name.toList)),vi (dx (decide (0 < (k:Int)) && (x.name.toList == y.name.toList)) 7),_,_,_,undef,undef,undef,undef,undef,undef,undef,undef,undef,undef,undef,undef,undef,.bool (decide (0 < (k:Int)) && Op.bytesLess x.name.toList y.name.toList),vi (dx (decide (0 < (k:Int)) && Op.bytesLess x.name.toList y.name.toList) 6),_,_,_,_,_,vi (Cy x.value)] H (aF (X0 rfl fun hG=>Rg yE rfl (aH hG hb)) (Z0 rfl (Rm rfl)) (Z2 0 4 1 5 rfl (Ri sM uZ rfl rfl)) (Z1 2 6 rfl (Rf GU rfl)) (aF (X1 3 7 rfl fun hG=>Rg mg rfl (aH hG (hrow 0 _ rfl))) ?_ (Z1 5 9 rfl (Rn rfl)) ?_ (aF (Z0 rfl (Rm rfl)) (Z1 8 12 rfl (Rc rfl)) (Z1 9 13 rfl (Rm rfl)) (aZ 10 (bD c0) rfl rfl) (aF (aZ 10 (bD c0) rfl rfl) (aZ 10 (bD c0) rfl rfl) (aZ 10 (bD c0) rfl rfl) (aZ 10 (bD c0) rfl rfl) (aF (aZ 10 (bD c0) rfl rfl) (aZ 10 (bD c0) rfl rfl) (aZ 10 (bD c0) rfl rfl) (aZ 10 (bD c0) rfl rfl) (aF (aZ 10 (bD c0) rfl rfl) (aZ 10 (bD c0) rfl rfl) (aZ 10 (bD c0) rfl rfl) (aZ 10 (bD c0) rfl rfl) (aF ?_ ?_ (Z0 rfl (Rm rfl)) (Z1 26 30 rfl (Rc rfl)) (aF (Z1 27 31 rfl (Rm rfl)) (aZ 28 (bD c0) rfl rfl) (aZ 28 (bD c0) rfl rfl) (aZ 28 (bD c0) rfl rfl) (aF (aZ 28 (bD c0) rfl rfl) (aZ 28 (bD c0) rfl rfl) (aZ 28 (bD c0) rfl rfl) (aZ 28 (bD c0) rfl rfl) (aF (aZ 28 (bD c0) rfl rfl) (aZ 28 (bD c0) rfl rfl) (aZ 28 (bD c0) rfl rfl) (aZ 28 (bD c0) rfl rfl) (aF (aZ 28 (bD c0) rfl rfl) (aZ 28 (bD c0) rfl rfl) ?_ ?_ (aF (X0 rfl fun hG=>Rg yE rfl (aH hG hb)) (Z0 rfl (Rm rfl)) (Z2 44 48 45 49 rfl (Ri sM uZ rfl rfl)) (Z1 46 50 rfl (Rf Yw rfl)) (aF (X1 47 51 rfl fun hG=>Rg mg rfl (aH hG (hrow 1 _ rfl))) ?_ (bQ rfl) (bQ rfl) (bH (bQ rfl) cZ)))))))))))))) ?_
 ·refine eu 4 8 rfl rfl fun _ a w G1 hG HT H fin=>?_;refine s_call Q6 H wn rfl (QH _ _ H.ro x.name hte.1) rfl ?_;clear H;rintro v9 G9 a w ⟨rfl,-⟩ Ny H;exact fin H Ny (rfl)
 ·refine eu 6 10 rfl rfl fun _ a w G1 hG HT H fin=>?_;refine s_call jC H wn rfl (jH _ _ H.ro _ 13) rfl ?_;clear H;rintro v11 ru a w ⟨rfl,-⟩ kZ H;exact fin H kZ (rfl)
 ·refine dH 10 14 23 27 rfl rfl fun _ a w G1 hG HT H fin=>?_;refine aD 1 H ?_;clear H;intro a H;exact fin H iJ (dD (by first|(rw [iT c0,CW];done)|(rw [jc c0,wH];done)))
 ·refine eu 24 28 rfl rfl fun _ a w G1 hG HT H fin=>?_;refine s_call jC H wn rfl (jH _ _ H.ro _ 7) rfl ?_;clear H;rintro v29 xG a w ⟨rfl,-⟩ Sg H;exact fin H Sg (rfl)
 ·refine dH 28 32 41 45 rfl rfl fun _ a w G1 hG HT H fin=>?_;refine aD 1 H ?_;clear H;intro a H;exact fin H iJ (dD (by first|(rw [iT c0,CW];done)|(rw [jc c0,wH];done)))
 ·refine eu 42 46 rfl rfl fun _ a w G1 hG HT H fin=>?_;refine s_call jC H wn rfl (jH _ _ H.ro _ 6) rfl ?_;clear H;rintro v47 Wi a w ⟨rfl,-⟩ Sl H;exact fin H Sl (rfl)
 ·refine eu 48 52 rfl rfl fun _ a w G1 hG HT H fin=>?_;refine s_call Q5 H wn rfl (Vu _ _ H.ro x.value hte.2) rfl ?_;clear H;rintro v53 P6 a w rfl JK H;exact fin H JK (rfl)
 clear H;intro a w G iP H hv;have H:=H.aN (hv 7 11 rfl rfl) rfl;have H:=H.aN (hv 25 29 rfl rfl) rfl;have H:=H.aN (hv 43 47 rfl rfl) rfl;have H:=H.aN (hv 49 53 rfl rfl) rfl;clear hv;refine gJ qm iA [_,_,_,_] [_,_,_,_] H wn rfl rfl rfl rfl rfl (by intro i q h;match i,h with|0,h=>exact h|1,h=>exact h|2,h=>exact h|3,h=>exact h|n+4,h=>simp at h) rfl rfl ?_;clear H;intro Af a w Zh H;obtain ⟨G54,aml,SL,H⟩:=H.dZ;refine s_call qC H wn rfl (qD _ _ H.ro _ _ (EY [dx (!qP x.name) 13,dx (decide (0 < (k:Int)) && (x.name.toList == y.name.toList)) 7,dx (decide (0 < (k:Int)) && Op.bytesLess x.name.toList y.name.toList) 6,Cy x.value] SL (show 4≤maxLen by decide))) rfl ?_;clear H;rintro v55 _ a w ⟨rfl,rfl⟩ - H;refine kH H (Ra rfl ?_);clear H;intro a H;refine aC ⟨rfl,?_⟩;refine dR ?_;refine uH 0 H ?_;rw [he];rfl
def MO (l:List iB):Int:=cO [dx (decide (128 < (l.length:Int))) 9,iH (IK l) (min l.length 128)]
theorem afd (G:GH) (w0:World) (hG:Hold G w0) (l:List iB) (v:aj) (hv:au G (.sl 2 (l.map iB.dat)) v) (hl:l.length≤4294967296) (ht:∀ x∈l,x.name.size < 4611686018427387904∧x.value.size < 4611686018427387904) :
  Calls prog 122 #[v] w0 (bB w0 G fun u G'=>u=vi (MO l)):=by
 obtain ⟨A,c,rfl,hc1,hc2,-⟩:=hv.slice;rw [bM] at *;refine eN [(0,_)] func122 rfl ntmps122 rfl rfl hG ?_;refine ak 1 ?_;intro a H;refine dP (cs:=[_]) H wn rfl rfl rfl ?_;clear H;intro b1 a w hb1 H;refine aD 3 H ?_;clear H;intro a H;have H:=H.sub (T':=[(1,_)]) ⟨rfl,aU⟩;obtain ⟨Ga,hma,hb1',H⟩:=H.dZ
 have hbl:aI Ga b1 0=some (.slice A l.length c):=by unfold aI;rw [hb1'];rfl
 have hcb:=asE hbl (hv.mono hma) hl ht;refine dI hmx [[],[0],[0,1],[0,1,2],[],[4],[4,5],[],(ra 0 8),(ra 0 9),(ra 0 10),(ra 0 11)] [9,10,11] (by kernel_rfl) [_,_,_,vi (dx (decide (128 < (l.length:Int))) 9),_,_,vi ((min l.length 128:Nat):Int),.func (.func 191) #[] #[(aG b1 0)],vi (iH (IK l) (min l.length 128))] H (aF (X0 rfl fun hG=>Rg yE rfl (aH hG hbl)) (Z1 0 3 rfl (Rl sM rfl)) (Z1 1 4 rfl (Rc rfl)) ?_ (aF (X0 rfl fun hG=>Rg yE rfl (aH hG hbl)) (Z1 4 7 rfl (Rl sM rfl)) ?_ ?_ (aF ?_ (bQ rfl) (bQ rfl) (bQ rfl) cZ))) ?_
 ·refine eu 2 5 rfl rfl fun _ a w G1 hG HT H fin=>?_;refine s_call jC H wn rfl (jH _ _ H.ro _ 9) rfl ?_;clear H;rintro v6 G6 a w ⟨rfl,-⟩ gI H;exact fin H gI (rfl)
 ·refine eu 5 8 rfl rfl fun _ a w G1 hG HT H fin=>?_;refine O1 H wn rfl rfl rfl ?_;clear H;intro a H;exact fin H iJ (aB vi (by omega))
 ·refine Bo rfl fun _ a w G1 hG HT H fin=>?_;refine nS H wn rfl rfl ?_;clear H;intro a H;exact fin H iJ rfl
 ·refine dH 6 9 7 10 rfl rfl fun _ a w G1 hG HT H fin=>?_;refine s_call GJ H wn rfl (Je _ _ H.ro (min l.length 128) (IK l) _ (by omega) ((hcb.mono hG).le (Nat.min_le_left _ _))) rfl ?_;clear H;rintro v11 ru a w rfl kZ H;exact fin H kZ (rfl)
 clear H;intro a w G iP H hv;have H:=H.aN (hv 3 6 rfl rfl) rfl;have H:=H.aN (hv 8 11 rfl rfl) rfl;clear hv;refine gJ qm iA [_,_] [_,_] H wn rfl rfl rfl rfl rfl (by intro i q h;match i,h with|0,h=>exact h|1,h=>exact h|n+2,h=>simp at h) rfl rfl ?_;clear H;intro b12 a w EB H;obtain ⟨zT,vX,EC,H⟩:=H.dZ;refine s_call qC H wn rfl (qD _ _ H.ro _ _ (yC EC)) rfl ?_;clear H;rintro v13 _ a w ⟨rfl,rfl⟩ - H;refine kH H (Ra rfl ?_);clear H;intro a H;refine aC ⟨rfl,?_⟩;refine dR ?_;refine uH 0 H ?_;exact rfl
structure zZ where
 styles:List bS
 lists:List eD
 comments:List fD
 vars:List iB
structure xK (G:GH) (s:zZ) (a b c d:aj):Prop where
 st:au G (.sl 6 (s.styles.map bS.dat)) a
 li:au G (.sl 2 (s.lists.map eD.dat)) b
 cm:au G (.sl 6 (s.comments.map fD.dat)) c
 va:au G (.sl 2 (s.vars.map iB.dat)) d
structure Ql (s:zZ):Prop where
 sn:∀ x∈s.styles,x.name.size≤4611686018427387904
 ln:s.lists.length≤4294967296
 lt:∀ x∈s.lists,∀ y∈x.levels,y.xu.size < 4611686018427387904
 cn:s.comments.length≤4294967296
 ct:∀ x∈s.comments,x.author.size < 4611686018427387904∧x.text.size < 4611686018427387904
 vn:s.vars.length≤4294967296
 vt:∀ x∈s.vars,x.name.size < 4611686018427387904∧x.value.size < 4611686018427387904
 pl:∀ x∈s.styles,x.props.length≤4294967296
 ll:∀ x∈s.lists,x.levels.length≤4294967296
def Ji (s:zZ):Int:=cO [gL s.styles,Jh s.lists,MN s.comments,MO s.vars]
theorem afc (G:GH) (w0:World) (hG:Hold G w0) (s:zZ) (a b c d:aj) (hR:xK G s a b c d) (hz:Ql s) :
  Calls prog 67 #[.agg #[a,b,c,d]] w0 (bB w0 G fun u G'=>u=vi (Ji s)):=by
 obtain ⟨sA,sn,sc,rfl⟩:=hR.st.form;obtain ⟨lA,ln,lc,rfl⟩:=hR.li.form;obtain ⟨cA,cn,cc,rfl⟩:=hR.cm.form;obtain ⟨vA,vn,vc,rfl⟩:=hR.va.form;refine eN [(0,_)] func67 rfl ntmps67 rfl rfl hG ?_;refine ak 1 ?_;intro a H;refine dP (cs:=[_,_,_,_]) H wn rfl rfl rfl ?_;clear H;intro b1 a w hb1 H;refine aD 3 H ?_;clear H;intro a H;have H:=H.sub (T':=[(1,_)]) ⟨rfl,aU⟩;obtain ⟨Ga,hma,hb1',H⟩:=H.dZ
 have hc0:aI Ga b1 0=some (.slice sA sn sc):=by unfold aI;rw [hb1'];rfl
 have hc1:aI Ga b1 1=some (.slice lA ln lc):=by unfold aI;rw [hb1'];rfl
 have hc2:aI Ga b1 2=some (.slice cA cn cc):=by unfold aI;rw [hb1'];rfl
 have hc3:aI Ga b1 3=some (.slice vA vn vc):=by unfold aI;rw [hb1'];rfl
 refine dI hmx [[],[0],[0,1],[],[3],(ra 0 5),[],[6],(ra 0 8),[],[9],(ra 0 11),(ra 0 12),(ra 0 13),(ra 0 14)] [12,13,14] (by kernel_rfl) [_,_,vi (gL s.styles),_,_,vi (Jh s.lists),_,_,vi (MN s.comments),_,_,vi (MO s.vars)] H (aF (Z0 rfl (Rf RG rfl)) (X1 0 3 rfl fun hG=>Rg FH rfl (aH hG hc0)) ?_ (Z0 rfl (Rf RH rfl)) (aF (X1 3 6 rfl fun hG=>Rg FI rfl (aH hG hc1)) ?_ (Z0 rfl (Rf ajS rfl)) (X1 6 9 rfl fun hG=>Rg Pq rfl (aH hG hc2)) (aF ?_ (Z0 rfl (Rf ajT rfl)) (X1 9 12 rfl fun hG=>Rg yE rfl (aH hG hc3)) ?_ (bH (bQ rfl) (bH (bQ rfl) (bH (bQ rfl) cZ)))))) ?_
 ·refine eu 1 4 rfl rfl fun _ a w G1 hG HT H fin=>?_;refine s_call agA H wn rfl (aff _ _ H.ro s.styles _ ((hR.st.mono hma).mono hG) hz.sn) rfl ?_;clear H;rintro v5 G5 a w rfl kU H;exact fin H kU (rfl)
 ·refine eu 4 7 rfl rfl fun _ a w G1 hG HT H fin=>?_;refine s_call agB H wn rfl (afa _ _ H.ro s.lists _ ((hR.li.mono hma).mono hG) hz.ln hz.lt) rfl ?_;clear H;rintro v8 G8 a w rfl nO H;exact fin H nO (rfl)
 ·refine eu 7 10 rfl rfl fun _ a w G1 hG HT H fin=>?_;refine s_call agC H wn rfl (aeY _ _ H.ro s.comments _ ((hR.cm.mono hma).mono hG) hz.cn hz.ct) rfl ?_;clear H;rintro v11 ru a w rfl kZ H;exact fin H kZ (rfl)
 ·refine eu 10 13 rfl rfl fun _ a w G1 hG HT H fin=>?_;refine s_call agD H wn rfl (afd _ _ H.ro s.vars _ ((hR.va.mono hma).mono hG) hz.vn hz.vt) rfl ?_;clear H;rintro v14 zU a w rfl wP H;exact fin H wP (rfl)
 clear H;intro a w G iP H hv;have H:=H.aN (hv 2 5 rfl rfl) rfl;have H:=H.aN (hv 5 8 rfl rfl) rfl;have H:=H.aN (hv 8 11 rfl rfl) rfl;have H:=H.aN (hv 11 14 rfl rfl) rfl;clear hv;refine gJ qm iA [_,_,_,_] [_,_,_,_] H wn rfl rfl rfl rfl rfl (by intro i q h;match i,h with|0,h=>exact h|1,h=>exact h|2,h=>exact h|3,h=>exact h|n+4,h=>simp at h) rfl rfl ?_;clear H;intro b15 a w alg H;obtain ⟨Bn,zq,alh,H⟩:=H.dZ;refine s_call qC H wn rfl (qD _ _ H.ro _ _ (EY [gL s.styles,Jh s.lists,MN s.comments,MO s.vars] alh (show 4≤maxLen by decide))) rfl ?_;clear H;rintro v16 _ a w ⟨rfl,rfl⟩ - H;refine kH H (Ra rfl ?_);clear H;intro a H;refine aC ⟨rfl,?_⟩;refine dR ?_;refine uH 0 H ?_;exact rfl
end
section
open Go.RowKit
def iI:Nat→List (Int × aj)→List MapEntry
 | _,[]=>[]
 | i,(k,v) :: r=>⟨.int .i64 k,v,i⟩ :: iI (i+1) r
theorem aaS (x:Int × aj):∀ (i:Nat) (l:List (Int × aj)),iI i (l++[x])=iI i l++[⟨.int .i64 x.1,x.2,i+l.length⟩]
 | _,[]=>rfl
 | i,k :: r=>by
  rw [nu,iI,aaS x (i+1) r,iI,nu,ku,show i+1+r.length=i+(r.length+1) by omega]
def tO (x:Int):List (Int × aj)→Option aj
 | []=>none
 | (k,v) :: r=>if k=x then some v else tO x r
theorem KI {x:Int}:∀ {l:List (Int × aj)},x∉l.map (·.1)→tO x l=none
 | [],_=>rfl
 | (k,v) :: r,h=>by
  rw [tO,ah (fun e=>h (by simp [e])),KI (fun hm=>h (gH _ hm))]
theorem RQ (x:Int):∀ (i j:Nat) (l:List (Int × aj)),∃ an,Instr.findNow (.int .i64) (.int .i64 x) (iI i l) j=some an∧an.map (·.2)=tO x l
 | _,_,[]=>⟨none,rfl,rfl⟩
 | i,j,(k,v) :: r=>by
  obtain ⟨an,h1,h2⟩:=RQ x (i+1) (j+1) r
  by_cases e:k=x
  ·subst e
   exact ⟨some (j,v),by simp only [iI,Instr.findNow,Instr.sameNow,av,beq_self_eq_true],by rw [tO,av rfl];rfl⟩
  ·have hb:(x == k)=false:=by simp;exact fun h=>e h.symm
   exact ⟨an,by simpa only [iI,Instr.findNow,Instr.sameNow,av,hb] using h1,by rw [tO,ah e];exact h2⟩
abbrev eU (l:List (Int × aj)):Obj:=.map (iI 0 l).toArray l.length
section
variable {N:Nat} {D:List Deferred} {w0:World} {F:Nat→Prop} {G0 G:GH} {L:OL} {T:List (Nat × aj)}
variable {r:Option Nat} {P:Program} {ops:Array Oper} {Q:Exit→Act→World→Prop} {rest:List Oper} {a:Act} {w:World}
variable {d:Nat} {ty:TypeId} {pos:String} {aO:Array Edge} {g:Option (Nat × Bool)}
theorem zN {t kt et:TypeId} {x y:Operand} {b:Nat} {l:List (Int × aj)} {ky:Int} {zv:aj} (hm:P.underlying t=some (.map kt et)) (hk:P.underlying kt=some (.int .i64)) (hz:(P.info? et).map (fun i=>i.zero)=some (some zv)) (H:St N D w0 F G0 G L T a w)
  (hw:Region.wanted ⟨some d,.lookup t x y false,ty,pos,aO,g⟩ (yielded ops a.tmps)=true) (hx:ev T x=some (.map (some b))) (hy:ev T y=some (.int .i64 ky)) (hb:w.heap[b]?=some (eU l)) (hd:Nat.blt d N=true)
  (k:∀ a',St N D w0 F G0 G L ((d,(tO ky l).getD zv) :: T) a' w→WL r P ops Q rest a' w):WL r P ops Q (⟨some d,.lookup t x y false,ty,pos,aO,g⟩ :: rest) a w:=by
 obtain ⟨an,hf,han⟩:=RQ ky 0 0 l
 obtain ⟨inf,hi1,hi2⟩:=oP.1 hz
 refine eZ (v:=(tO ky l).getD zv) (w':=w) hw rfl ?_ (k _ (H.put hd _ H.hp))
 have hkey:MapKept.IsKey (.int .i64) (.int .i64 ky):=by trivial
 have hf2:Instr.findNow (.int .i64) (.int .i64 ky) (iI 0 l).toArray.toList 0=some an:=by simpa using hf
 replace hb:w.heap[b]?=some (.map (iI 0 l).toArray l.length):=hb
 generalize (iI 0 l).toArray=es at hb hf2
 have h1:=MapKept.run_checkKey (P:=P) (w:=w) hk hkey es.isEmpty 9999
 have h2:=MapKept.run_findKey (P:=P) (w:=w) hk hf2
 rw [← han]
 cases an with
 | none=>simp [execOp,Instr.lookup,H.ev hx,H.ev hy,dU,lZ hm,MapKept.run_getObj_map hb,h1,h2,Result.andThen,zeroValue,DR hi1,hi2]
 | some q=>simp [execOp,Instr.lookup,H.ev hx,H.ev hy,dU,lZ hm,MapKept.run_getObj_map hb,h1,h2,Result.andThen]
theorem KX {t kt et:TypeId} {x y z:Operand} {b i:Nat} {l:List (Int × aj)} {ky:Int} {v:aj} (hm:P.underlying t=some (.map kt et)) (hk:P.underlying kt=some (.int .i64)) (H:St N D w0 F G0 G L T a w)
  (hw:Region.wanted ⟨none,.mapUpdate t x y z,ty,pos,aO,g⟩ (yielded ops a.tmps)=true) (hx:ev T x=some (.map (some b))) (hy:ev T y=some (.int .i64 ky)) (hzv:ev T z=some v) (hi:L[i]?=some (b,eU l)) (hn:tO ky l=none)
  (k:∀ w',St N D w0 F G0 G (L.set i (b,eU (l++[(ky,v)]))) T a w'→WL r P ops Q rest a w'):WL r P ops Q (⟨none,.mapUpdate t x y z,ty,pos,aO,g⟩ :: rest) a w:=by
 obtain ⟨an,hf,han⟩:=RQ ky 0 0 l
 have hnone:an=none:=by
  rw [hn] at han
  cases an with
  | none=>rfl
  | some q=>cases han
 subst hnone
 refine acg (i:=i) hm hk H hw hx hy hzv hi (by trivial) (by simpa using hf) ?_
 intro w' H'
 have e:(iI 0 l).toArray.push ⟨.int .i64 ky,v,l.length⟩=(iI 0 (l++[(ky,v)])).toArray:=by
  rw [aaS,List.push_toArray,fV]
 refine k w' ?_
 rw [e] at H'
 rw [eU,iC]
 exact H'
end
end
section
open Go.RowKit
theorem vg:prog.underlying 131=some (.map 3 4):=by kernel_rfl
instance:kg prog 131 (.map 3 4):=⟨vg⟩
instance ow:Ty prog 102 3 32 [.int .i64 0,.string ⟨#[]⟩,.int .i64 0] true:=⟨by kernel_rfl,by kernel_rfl⟩
theorem arN:oO prog 133 [(0,1),(1,1),(2,1),(3,1),(4,1),(5,1)] [.map none,.map none,.map none,.map none,.map none,.int .i64 0]:=⟨by kernel_rfl,by kernel_rfl⟩
instance ajU:dS prog 38 3 7:=⟨by kernel_rfl⟩
instance ajJ:dS prog 133 0 0:=⟨by kernel_rfl⟩
instance asa:Ty prog 130 1 8 [.map none] false:=⟨by kernel_rfl,by kernel_rfl⟩
instance ajK:dS prog 133 1 1:=⟨by kernel_rfl⟩
instance DY:Ty prog 131 1 8 [.map none] false:=⟨by kernel_rfl,by kernel_rfl⟩
instance RJ:dS prog 38 2 6:=⟨by kernel_rfl⟩
instance zO:Ty prog 30 1 24 [.slice none 0 0] false:=⟨by kernel_rfl,by kernel_rfl⟩
theorem sK:prog.underlying 30=some (.slice 102):=by kernel_rfl
instance:kg prog 30 (.slice 102):=⟨sK⟩
instance Jw:dS prog 133 2 2:=⟨by kernel_rfl⟩
instance ajD:dS prog 102 0 0:=⟨by kernel_rfl⟩
structure bX where
 id:Int
 author:ByteArray
 time:Int
def bX.dat (x:bX):List Dat:=[li x.id,.lf (.string x.author),li x.time]
abbrev bX.cells (x:bX):List aj:=[vi x.id,.string x.author,vi x.time]
theorem KT {G:GH} {x:bX} {cs:List aj} (h:aW G x.dat cs):cs=x.cells:=by
 simp only [bX.dat,aW,au] at h
 obtain ⟨_,_,rfl,⟨rfl,_⟩,_,_,rfl,⟨rfl,_⟩,_,_,rfl,⟨rfl,_⟩,rfl⟩:=h
 rfl
theorem Vf {G:GH} {l:List bX} {A:Option Addr} {n c k:Nat} (hv:au G (.sl 3 (l.map bX.dat)) (.slice A n c)) (hk:k < l.length):∃ b o,A=some ⟨b,o,none⟩∧(∀ j u,l[k].cells[j]?=some u→aI G b (o+k*3+j)=some u):=by
 obtain ⟨A',c',he,_,_,hg⟩:=hv.slice
 injection he with e1 e2 e3
 subst e1;obtain ⟨b,o,cs,h1,h2,h3,h4⟩:=hg k l[k].dat (by simp [hk]);have:=KT h4;subst this;exact ⟨b,o,h1,h3⟩
abbrev fP (b ms ml mr mb mu:Nat) (n:Int):Nat × Obj:=(b,.cells #[.map (some ms),.map (some ml),.map (some mr),.map (some mb),.map (some mu),vi n] 133 (0,0))
def zI (l:List bS):List (Int × aj):=l.map fun s=>(s.id,vi s.kind)
def fG (l:List Int):List (Int × aj):=l.map fun k=>(k,.bool true)
structure vw (us:List Int) (G:GH) (st:List bS) (li:List eD) (rv:List bX) (ms ml mr mu:Nat):Prop where
 sty:G ms=some (eU (zI st))
 uT:G ml=some (eU (fG (li.map eD.id)))
 rev:G mr=some (eU (fG (rv.map bX.id)))
 use:G mu=some (eU (fG us))
theorem vw.mono {us:List Int} {G G':GH} {st:List bS} {li:List eD} {rv:List bX} {ms ml mr mu:Nat} (h:vw us G st li rv ms ml mr mu) (hm:∀ b o,G b=some o→G' b=some o):vw us G' st li rv ms ml mr mu:=⟨hm _ _ h.sty,hm _ _ h.uT,hm _ _ h.rev,hm _ _ h.use⟩
structure PU (G:GH) (st:List bS) (li:List eD) (rv:List bX) (ms ml mr:Nat):Prop where
 sty:G ms=some (eU (zI st))
 uT:G ml=some (eU (fG (li.map eD.id)))
 rev:G mr=some (eU (fG (rv.map bX.id)))
theorem PU.with {us:List Int} {G G':GH} {st:List bS} {li:List eD} {rv:List bX} {ms ml mr mu:Nat} (h:PU G st li rv ms ml mr) (hm:∀ b o,G b=some o→G' b=some o) (hu:G' mu=some (eU (fG us))):vw us G' st li rv ms ml mr mu:=⟨hm _ _ h.sty,hm _ _ h.uT,hm _ _ h.rev,hu⟩
def Bl (l:List Int):Prop:=∀ (k:Nat) (h:k < l.length),l[k]∉l.take k
theorem aoh {l:List bS} {k:Nat} (h:k < l.length):zI (l.take (k+1))=zI (l.take k)++[(l[k].id,vi l[k].kind)]:=by rw [zI,fQ h,kQ];rfl
theorem aaP {l:List Int} {k:Nat} (h:k < l.length):fG (l.take (k+1))=fG (l.take k)++[(l[k],.bool true)]:=by rw [fG,fQ h,kQ];rfl
theorem aog {l:List bS} {k:Nat} (f:Bl (l.map bS.id)) (h:k < l.length):tO l[k].id (zI (l.take k))=none:=by
 refine KI ?_;have:=f k (by simpa using h)
 simpa [zI,List.map_take,List.map_map,Function.comp_def] using this
theorem aaO {l:List Int} {k:Nat} (f:Bl l) (h:k < l.length):tO l[k] (fG (l.take k))=none:=by
 refine KI ?_;have:=f k h
 simpa [fG,List.map_map,Function.comp_def] using this
theorem aoA (G:GH) (w0:World) (hO:fU G [] w0) (D:gy) (st:List bS) (li:List eD) (rv:List bX) (hst:au G (.sl 6 (st.map bS.dat)) (aM D.s1)) (J4:au G (.sl 2 (li.map eD.dat)) (aM D.s2)) (om:au G (.sl 3 (rv.map bX.dat)) (aM D.r))
  (f1:Bl (st.map bS.id)) (f2:Bl (li.map eD.id)) (f3:Bl (rv.map bX.id)) (z1:st.length≤4294967296) (z2:li.length≤4294967296) (z3:rv.length≤4294967296) :
  Calls prog 69 #[D.val] w0 (fJ w0 G [] fun u G' L'=>∃ b ms ml mr mb mu,u=(aG b 0)∧L'=[fP b ms ml mr mb mu 0,(mb,eU []),(mu,eU [])]∧PU G' st li rv ms ml mr):=by
 obtain ⟨df,dp,dd,dy,⟨rA,rn,rc⟩,⟨sA,sn,sc⟩,⟨lA,ln,lc⟩,d3,d4,ins,mv⟩:=D;dsimp only at hst J4 om
 obtain rfl:sn=st.length:=by have:=hst.len;simpa using this
 obtain rfl:ln=li.length:=by have:=J4.len;simpa using this
 obtain rfl:rn=rv.length:=by have:=om.len;simpa using this
 have hml:maxLen=9223372036854775807:=rfl;refine jg (N:=64) (T:=[(0,_)]) func69 rfl ntmps69 rfl rfl hO ?_;refine ak 1 ?_;intro a H;refine dP (cs:=[_,_,_,_,_,_,_,_,_,_,_]) H wn rfl rfl rfl ?_;clear H;intro b1 a w hb1 H;refine aD 2 H ?_;clear H;intro a H;obtain ⟨Ga,hma,hb1',H⟩:=H.dZ
 have hc7:aI Ga b1 7=some (.slice sA st.length sc):=by unfold aI;rw [hb1'];rfl
 have hc8:aI Ga b1 8=some (.slice lA li.length lc):=by unfold aI;rw [hb1'];rfl
 have hc6:aI Ga b1 6=some (.slice rA rv.length rc):=by unfold aI;rw [hb1'];rfl
 replace hst:=hst.mono hma;replace J4:=J4.mono hma;replace om:=om.mono hma;refine Am ?_;refine Fx H wn rfl ?_;clear H;intro b10 a w ald H;refine Fx H wn rfl ?_;clear H;intro b11 a w EA H;refine Fx H wn rfl ?_;clear H;intro b12 a w EB H;refine Fx H wn rfl ?_;clear H;intro b13 a w NA H;refine Fx H wn rfl ?_;clear H;intro b14 a w Ze H;refine iy arN [_,_,_,_,_,_] H wn rfl rfl rfl rfl ?_;clear H;intro a H;refine dP (cs:=[_,_,_,_,_,_]) H wn rfl rfl rfl ?_;clear H;intro b16 a w Zf H;refine aD 11 H ?_;clear H;intro a H;refine eH (ι:=Nat × GH) (Tc:=[(1,_),(3,_),(19,_),(20,_)]) (Lc:=[(_,_),(_,_),(_,_),(_,_),(_,_)]) (fun gh=>[(21,vi gh.1)]) (fun gh=>[(b10,eU (zI (st.take gh.1)))]) (fun gh=>gh.2) (fun gh=>gh.1≤st.length∧(∀ b o,Ga b=some o→gh.2 b=some o)) (fun gh=>st.length - gh.1) ((0,Ga)) sB ?_ ?_
 ·exact ⟨gW _,fun _ _ h=>h⟩
 clear H;rintro ⟨k,g1⟩ a w hI H;dsimp only at hI H;obtain ⟨hk,Ib⟩:=hI;dsimp only [lca,bG] at H;refine dQ 4 H ?_ ?_ <;> clear H
 ·intro iY
  have hk2:k < st.length:=by omega
  obtain ⟨xb,xo,pA,pc,rfl,hrow,-,-⟩:=Cw (hst.mono Ib) hk2;have hnew:=aog f1 hk2;refine ak 5 ?_;intro a H;refine aS jF (cs:=_) H wn rfl rfl (fun j v hj=>H.hp.aI (hrow j v hj)) rfl ?_;clear H;intro a H;refine dz jF H wn rfl ?_;clear H;intro b5 a w hb5 H;refine aV jF 0 (vs:=[_,_,_,_,_,_]) _ H wn rfl rfl rfl rfl rfl rfl rfl rfl ?_;clear H;intro w H;dsimp only [List.set,setRow] at H;refine aC ?_;refine dR ?_;refine dI hmx [[],[0],[0,1],[0,1,2],[],[4],[],[6],(ra 0 8)] [8] (by kernel_rfl) [_,_,_,.map (some b10),_,vi st[k].id,_,vi st[k].kind] H (aF (Z0 rfl (Rm rfl)) (Z1 0 25 rfl (Rk rfl)) (Z1 1 26 rfl (Rf ajJ rfl)) (Z1 2 27 rfl (Ro asa 1 rfl)) (aF (Z0 rfl (Rf Ah rfl)) (Z1 4 29 rfl (Ro bR 0 rfl)) (Z0 rfl (Rf RB rfl)) (Z1 6 31 rfl (Ro bR 0 rfl)) (bH (bQ rfl) cZ))) ?_
  clear H;intro a w G kU H hv;have H:=H.aN (hv 3 28 rfl rfl) rfl;have H:=H.aN (hv 5 30 rfl rfl) rfl;have H:=H.aN (hv 7 32 rfl rfl) rfl;clear hv;refine KX (i:=6) DZ kI H wn rfl rfl rfl rfl hnew ?_;clear H;intro w H;dsimp only [List.set,List.append,lca,bG] at H;rw [← aoh hk2] at H;refine aC ⟨rfl,?_⟩;refine dR ?_;refine fO 3 H ?_;clear H;intro a H;refine aC ?_;refine cB ((k+1,G)) (by exact (H.dY (Pl:=[_,_,_,_,_,_,_]) (dM:=[_,_,_,_,_,_]) [1,2,3,4,5,6] (by decide) rfl).sub ⟨rfl,rfl,rfl,rfl,rfl,aU⟩) ?_ ?_
  ·(try dsimp only);exact ⟨by omega,fun b o h=>kU b o (Ib b o h)⟩
  first|omega|(dsimp only;omega)
 intro iY
 obtain rfl:k=st.length:=by omega
 intro a H;rw [vE] at H;have atK:=aH Ib hc8;refine fO 10 H ?_;clear H;intro a H;refine eH (ι:=Nat × GH) (Tc:=[(1,_),(3,_),(36,_),(37,_)]) (Lc:=[(_,_),(_,_),(_,_),(_,_),(_,_)]) (fun gh=>[(38,vi gh.1)]) (fun gh=>[(b11,eU (fG ((li.map eD.id).take gh.1)))]) (fun gh=>gh.2) (fun gh=>gh.1≤li.length∧(∀ b o,g1 b=some o→gh.2 b=some o)) (fun gh=>li.length - gh.1) ((0,g1)) (by exact (H.dY (Pl:=[_,_,_,_,_,_]) (dM:=[_,_,_,_,_,_]) [0,1,2,3,5,4] (by decide) rfl).sub ⟨rfl,rfl,rfl,rfl,rfl,aU⟩) ?_ ?_
 ·exact ⟨gW _,fun _ _ h=>h⟩
 clear H;rintro ⟨k,g2⟩ a w hI H;dsimp only at hI H;obtain ⟨hk,NU⟩:=hI;dsimp only [lca,bG] at H;refine dQ 4 H ?_ ?_ <;> clear H
 ·intro p39
  have hk2:k < li.length:=by omega
  obtain ⟨xb,xo,B,d,rfl,hrow,-⟩:=Uu ((J4.mono Ib).mono NU) hk2
  have hk3:k < (li.map eD.id).length:=by simpa using hk2
  have hnew:=aaO f2 hk3
  have lg:(li.map eD.id)[k]=li[k].id:=by simp
  rw [lg] at hnew;refine ak 5 ?_;intro a H;refine aS sJ (cs:=_) H wn rfl rfl (fun j v hj=>H.hp.aI (hrow j v hj)) rfl ?_;clear H;intro a H;refine dz sJ H wn rfl ?_;clear H;intro b7 a w uM H;refine aV sJ 0 (vs:=[_,_]) _ H wn rfl rfl rfl rfl rfl rfl rfl rfl ?_;clear H;intro w H;dsimp only [List.set,setRow] at H;refine aC ?_;refine dR ?_;refine dI hmx [[],[0],[0,1],[0,1,2],[],[4],(ra 0 6)] [6] (by kernel_rfl) [_,_,_,.map (some b11),_,vi li[k].id] H (aF (Z0 rfl (Rm rfl)) (Z1 0 42 rfl (Rk rfl)) (Z1 1 43 rfl (Rf ajK rfl)) (Z1 2 44 rfl (Ro DY 1 rfl)) (bH (Z0 rfl (Rf ajV rfl)) (bH (Z1 4 46 rfl (Ro bR 0 rfl)) (bH (bQ rfl) cZ)))) ?_
  clear H;intro a w G pX H hv;have H:=H.aN (hv 3 45 rfl rfl) rfl;have H:=H.aN (hv 5 47 rfl rfl) rfl;clear hv;refine KX (i:=6) vg kI H wn rfl rfl rfl rfl hnew ?_;clear H;intro w H;dsimp only [List.set,List.append,lca,bG] at H;rw [← lg,← aaP hk3] at H;refine aC ⟨rfl,?_⟩;refine dR ?_;refine fO 3 H ?_;clear H;intro a H;refine aC ?_;refine cB ((k+1,G)) (by exact (H.dY (Pl:=[_,_,_,_,_,_,_]) (dM:=[_,_,_,_,_,_]) [1,2,3,4,5,6] (by decide) rfl).sub ⟨rfl,rfl,rfl,rfl,rfl,aU⟩) ?_ ?_
  ·(try dsimp only);exact ⟨by omega,fun b o h=>pX b o (NU b o h)⟩
  first|omega|(dsimp only;omega)
 intro p39
 obtain rfl:k=li.length:=by omega
 intro a H;rw [fK (by simp)] at H;have atJ:=aH NU (aH Ib hc6);refine fO 9 H ?_;clear H;intro a H;refine eH (ι:=Nat × GH) (Tc:=[(3,_),(50,_),(51,_)]) (Lc:=[(_,_),(_,_),(_,_),(_,_),(_,_)]) (fun gh=>[(52,vi gh.1)]) (fun gh=>[(b12,eU (fG ((rv.map bX.id).take gh.1)))]) (fun gh=>gh.2) (fun gh=>gh.1≤rv.length∧(∀ b o,g2 b=some o→gh.2 b=some o)) (fun gh=>rv.length - gh.1) ((0,g2)) (by exact (H.dY (Pl:=[_,_,_,_,_,_]) (dM:=[_,_,_,_,_,_]) [0,1,2,4,5,3] (by decide) rfl).sub ⟨rfl,rfl,rfl,rfl,aU⟩) ?_ ?_
 ·exact ⟨gW _,fun _ _ h=>h⟩
 clear H;rintro ⟨k,g3⟩ a w hI H;dsimp only at hI H;obtain ⟨hk,ZN⟩:=hI;dsimp only [lca,bG] at H;refine dQ 4 H ?_ ?_ <;> clear H
 ·intro p53
  have hk2:k < rv.length:=by omega
  obtain ⟨xb,xo,rfl,hrow⟩:=Vf (((om.mono Ib).mono NU).mono ZN) hk2
  have hk3:k < (rv.map bX.id).length:=by simpa using hk2
  have hnew:=aaO f3 hk3
  have lg:(rv.map bX.id)[k]=rv[k].id:=by simp
  rw [lg] at hnew;refine ak 5 ?_;intro a H;refine aS ow (cs:=_) H wn rfl rfl (fun j v hj=>H.hp.aI (hrow j v hj)) rfl ?_;clear H;intro a H;refine dz ow H wn rfl ?_;clear H;intro b9 a w rQ H;refine aV ow 0 (vs:=[_,_,_]) _ H wn rfl rfl rfl rfl rfl rfl rfl rfl ?_;clear H;intro w H;dsimp only [List.set,setRow] at H;refine aC ?_;refine dR ?_;refine dI hmx [[],[0],[0,1],[0,1,2],[],[4],(ra 0 6)] [6] (by kernel_rfl) [_,_,_,.map (some b12),_,vi rv[k].id] H (aF (Z0 rfl (Rm rfl)) (Z1 0 56 rfl (Rk rfl)) (Z1 1 57 rfl (Rf Jw rfl)) (Z1 2 58 rfl (Ro DY 1 rfl)) (bH (Z0 rfl (Rf ajD rfl)) (bH (Z1 4 60 rfl (Ro bR 0 rfl)) (bH (bQ rfl) cZ)))) ?_
  clear H;intro a w G BI H hv;have H:=H.aN (hv 3 59 rfl rfl) rfl;have H:=H.aN (hv 5 61 rfl rfl) rfl;clear hv;refine KX (i:=6) vg kI H wn rfl rfl rfl rfl hnew ?_;clear H;intro w H;dsimp only [List.set,List.append,lca,bG] at H;rw [← lg,← aaP hk3] at H;refine aC ⟨rfl,?_⟩;refine dR ?_;refine fO 3 H ?_;clear H;intro a H;refine aC ?_;refine cB ((k+1,G)) (by exact (H.dY (Pl:=[_,_,_,_,_,_,_]) (dM:=[_,_,_,_,_,_]) [1,2,3,4,5,6] (by decide) rfl).sub ⟨rfl,rfl,rfl,rfl,aU⟩) ?_ ?_
  ·(try dsimp only);exact ⟨by omega,fun b o h=>BI b o (ZN b o h)⟩
  first|omega|(dsimp only;omega)
 intro p53
 obtain rfl:k=rv.length:=by omega
 intro a H;rw [fK (by simp)] at H;refine fO 5 H ?_;clear H;intro a H;refine bZ ?_;have H:=H.dY (Pl:=[_,_,_,_,_,_]) (dM:=[_,_,_,_,_,_]) [3,4,5,0,2,1] (by decide) rfl;obtain ⟨Gs,hms,hs,H⟩:=H.dZ;obtain ⟨Gl,EM,hl,H⟩:=H.dZ;obtain ⟨Gr,hmr,hr,H⟩:=H.dZ;refine lv H results69 rfl ?_;exact H.hp.dJ ⟨b16,b10,b11,b12,b13,b14,rfl,rfl,⟨hmr _ _ (EM _ _ hs),hmr _ _ hl,hr⟩⟩
end
section
open Go.RowKit
instance:dS prog 133 4 4:=⟨by kernel_rfl⟩
instance:dS prog 133 3 3:=⟨by kernel_rfl⟩
variable {us:List Int}
theorem Dz (x:Int):∀ l:List Int,(tO x (fG l)).getD (.bool false)=.bool (decide (x∈l))
 | []=>rfl
 | k :: r=>by
  have ih:=Dz x r;rw [fG,fq,tO]
  by_cases e:k=x
  ·subst e;simp
  rw [ah e,show (r.map fun k=>(k,Value.bool true))=fG r from rfl,ih]
  simp [show x≠k from fun h=>e h.symm]
def Pg (st:List bS) (v:Int):Int:=((st.find? fun s=>decide (s.id=v)).map bS.kind).getD 0
theorem KJ (x:Int):∀ l:List bS,(tO x (zI l)).getD (vi 0)=vi (Pg l x)
 | []=>rfl
 | s :: r=>by
  have ih:=KJ x r;rw [zI,fq,tO]
  by_cases e:s.id=x
  ·subst e;simp [Pg]
  rw [ah e,show (r.map fun s=>(s.id,vi s.kind))=zI r from rfl,ih]
  simp [Pg,e]
def pG (us bK:List Int) (x:Int):Int:=if ¬ (1≤x∧x≤1073741824)∨x∈us then 18 else if x∈bK then 7 else 0
def jY (us bK:List Int) (x:Int):List Int:=if pG us bK x=0 then bK++[x] else bK
theorem aof (l:List Int) (x:Int):fG (l++[x])=fG l++[(x,.bool true)]:=by simp [fG]
theorem QA (G:GH) (L:OL) (w0:World) (st:List bS) (li:List eD) (rv:List bX) (b ms ml mr mb mu:Nat) (n:Int) (bK:List Int) (x:Int) (hck:vw us G st li rv ms ml mr mu) (hO:fU G (fP b ms ml mr mb mu n :: (mb,eU (fG bK)) :: L) w0) :
  Calls prog 198 #[(aG b 0),vi x] w0 (fJ w0 G (fP b ms ml mr mb mu n :: (mb,eU (fG bK)) :: L) fun u G' L'=>u=vi (pG us bK x)∧L'=fP b ms ml mr mb mu n :: (mb,eU (fG (jY us bK x))) :: L∧G=G'):=by
 refine jg (N:=29) (T:=[(0,_),(1,_)]) func198 rfl ntmps198 rfl rfl hO ?_;refine ak 7 ?_;intro a H;refine s_call wL H wn rfl (wW _ _ H.ro x 1 1073741824) rfl ?_;clear H;rintro v7 _ a w ⟨rfl,rfl⟩ - H;refine kT 2 9 H ?_ ?_ <;> clear H
 ·intro h9
  try have p9:=dT h9
  refine ak 10 ?_
  have e:pG us bK x=18:=by rw [pG,av (by first|(simp_all;done)|(simp_all;omega))]
  refine ak 3 ?_;intro a H;refine lr H results198 rfl ?_
  first
   | exact H.hp.dJ ⟨by rw [e],by rw [jY,av e],rfl⟩
   | exact H.hp.dJ ⟨by rw [e],by rw [jY,ah (by rw [e];decide)],rfl⟩
 intro h9
 try have p9:=dF h9
 refine ak 1 ?_;intro a H;refine tY H (wg H rfl rfl h9) rfl rfl ?_;clear H;refine ak 3 ?_;intro a H;refine zN (zv:=.bool false) vg kI (by kernel_rfl) H (wg H rfl rfl h9) rfl rfl (H.ro _ _ hck.use) rfl ?_;clear H;intro a H;rw [Dz] at H;refine gQ 3 H ?_ ?_ <;> clear H
 ·intro p5
  have e:pG us bK x=18:=by rw [pG,av (by first|(simp_all;done)|(simp_all;omega))]
  refine ak 3 ?_;intro a H;refine lr H results198 rfl ?_
  first
   | exact H.hp.dJ ⟨by rw [e],by rw [jY,av e],rfl⟩
   | exact H.hp.dJ ⟨by rw [e],by rw [jY,ah (by rw [e];decide)],rfl⟩
 intro p5
 have hin:¬ (¬ (1≤x∧x≤1073741824)∨x∈us):=by first|(simp_all;done)|(simp_all;omega)
 refine ak 6 ?_;intro a H;refine zN (zv:=.bool false) vg kI (by kernel_rfl) H wn rfl rfl (H.hp.own _ (gH _ fM)) rfl ?_;clear H;intro a H;rw [Dz] at H;refine iU 2 H ?_ ?_ <;> clear H
 ·intro jr
  have e:pG us bK x=7:=by rw [pG,ah hin,av (mD jr)]
  refine ak 3 ?_;intro a H;refine lr H results198 rfl ?_
  first
   | exact H.hp.dJ ⟨by rw [e],by rw [jY,av e],rfl⟩
   | exact H.hp.dJ ⟨by rw [e],by rw [jY,ah (by rw [e];decide)],rfl⟩
 intro jr
 have hx:x∉bK:=of_decide_eq_false jr;have hnew:tO x (fG bK)=none:=KI (by simpa [fG,List.map_map,Function.comp_def] using hx)
 have e:pG us bK x=0:=by rw [pG,ah hin,ah hx]
 refine ak 7 ?_;intro a H;refine KX (i:=1) vg kI H wn rfl rfl rfl rfl hnew ?_;clear H;intro w H;dsimp only [List.set] at H;rw [← aof] at H;refine aD 4 H ?_;clear H;intro a H;refine lr H results198 rfl ?_
 first
  | exact H.hp.dJ ⟨by rw [e],by rw [jY,av e],rfl⟩
  | exact H.hp.dJ ⟨by rw [e],by rw [jY,ah (by rw [e];decide)],rfl⟩
def nQ (st:List bS) (uT:List Int) (key v:Int):Int :=
 if key=20∨key=1 then dx (decide (v≠0∧Pg st v≠(if key=1 then 2 else 1))) 25 else if key=33 then dx (decide (v≠0∧v∉uT)) 26 else 0
theorem QB (G:GH) (w0:World) (hG:Hold G w0) (st:List bS) (li:List eD) (rv:List bX) (b ms ml mr mb mu:Nat) (n:Int) (key v:Int) (hck:vw us G st li rv ms ml mr mu) (hb:G b=some (fP b ms ml mr mb mu n).2) :
  Calls prog 130 #[(aG b 0),vi key,vi v] w0 (bB w0 G fun u G'=>u=vi (nQ st (li.map eD.id) key v)∧G=G'):=by
 have hc0:aI G b 0=some (.map (some ms)):=by unfold aI;rw [hb];rfl
 have hc1:aI G b 1=some (.map (some ml)):=by unfold aI;rw [hb];rfl
 refine eN [(0,_),(1,_),(2,_)] func130 rfl ntmps130 rfl rfl hG ?_;refine goC 13 ?_ ?_
 ·intro h9
  try have p9:=dT h9
  refine goB 10 ?_ ?_
  ·intro oJ
   refine jV 7 16 ?_ ?_
   ·intro h16
    try have p16:=dT h16
    refine ak 1 ?_;intro a H;refine tY H (wg H rfl rfl h16) rfl rfl ?_;clear H;refine ak 3 ?_;intro a H;refine zN (zv:=vi 0) DZ kI (by kernel_rfl) H (wg H rfl rfl h16) rfl rfl (H.ro _ _ hck.sty) rfl ?_;clear H;intro a H;rw [KJ] at H;refine aD 3 H ?_;clear H;intro a H;refine s_call jC H wn rfl (jH _ _ H.ro _ 25) rfl ?_;clear H;rintro v26 _ a w ⟨rfl,rfl⟩ - H;refine fH 2 H ?_;exact ⟨aB vi (by unfold nQ;(repeat' split) <;> first|rfl|(simp_all;done)|(exfalso;simp_all;done)|(congr 1;rw [mE];simp only [uw,mM,lQ];exact ⟨fun h=>⟨p31,h⟩,fun h=>h.2⟩)),rfl⟩
   intro h16
   try have p16:=dF h16
   refine ak 9 ?_;intro a H;refine s_call jC H wn rfl (jH _ _ H.ro _ 25) rfl ?_;clear H;rintro v26 _ a w ⟨rfl,rfl⟩ - H;refine fH 2 H ?_;exact ⟨aB vi (by unfold nQ;(repeat' split) <;> first|rfl|(simp_all;done)|(exfalso;simp_all;done)|(congr 1;rw [mE];simp only [uw,mM,lQ];exact ⟨fun h=>⟨p31,h⟩,fun h=>h.2⟩)),rfl⟩
  intro oJ
  refine jV 5 16 ?_ ?_
  ·intro h16
   try have p16:=dT h16
   refine ak 1 ?_;intro a H;refine tY H (wg H rfl rfl h16) rfl rfl ?_;clear H;refine ak 3 ?_;intro a H;refine zN (zv:=vi 0) DZ kI (by kernel_rfl) H (wg H rfl rfl h16) rfl rfl (H.ro _ _ hck.sty) rfl ?_;clear H;intro a H;rw [KJ] at H;refine aD 3 H ?_;clear H;intro a H;refine s_call jC H wn rfl (jH _ _ H.ro _ 25) rfl ?_;clear H;rintro v26 _ a w ⟨rfl,rfl⟩ - H;refine fH 2 H ?_;exact ⟨aB vi (by unfold nQ;(repeat' split) <;> first|rfl|(simp_all;done)|(exfalso;simp_all;done)|(congr 1;rw [mE];simp only [uw,mM,lQ];exact ⟨fun h=>⟨p31,h⟩,fun h=>h.2⟩)),rfl⟩
  intro h16
  try have p16:=dF h16
  refine ak 9 ?_;intro a H;refine s_call jC H wn rfl (jH _ _ H.ro _ 25) rfl ?_;clear H;rintro v26 _ a w ⟨rfl,rfl⟩ - H;refine fH 2 H ?_;exact ⟨aB vi (by unfold nQ;(repeat' split) <;> first|rfl|(simp_all;done)|(exfalso;simp_all;done)|(congr 1;rw [mE];simp only [uw,mM,lQ];exact ⟨fun h=>⟨p31,h⟩,fun h=>h.2⟩)),rfl⟩
 intro h9
 try have p9:=dF h9
 refine goB 4 ?_ ?_
 ·intro p9
  refine goB 8 ?_ ?_
  ·intro oJ
   refine jV 7 16 ?_ ?_
   ·intro h16
    try have p16:=dT h16
    refine ak 1 ?_;intro a H;refine tY H (wg H rfl rfl h16) rfl rfl ?_;clear H;refine ak 3 ?_;intro a H;refine zN (zv:=vi 0) DZ kI (by kernel_rfl) H (wg H rfl rfl h16) rfl rfl (H.ro _ _ hck.sty) rfl ?_;clear H;intro a H;rw [KJ] at H;refine aD 3 H ?_;clear H;intro a H;refine s_call jC H wn rfl (jH _ _ H.ro _ 25) rfl ?_;clear H;rintro v26 _ a w ⟨rfl,rfl⟩ - H;refine fH 2 H ?_;exact ⟨aB vi (by unfold nQ;(repeat' split) <;> first|rfl|(simp_all;done)|(exfalso;simp_all;done)|(congr 1;rw [mE];simp only [uw,mM,lQ];exact ⟨fun h=>⟨p31,h⟩,fun h=>h.2⟩)),rfl⟩
   intro h16
   try have p16:=dF h16
   refine ak 9 ?_;intro a H;refine s_call jC H wn rfl (jH _ _ H.ro _ 25) rfl ?_;clear H;rintro v26 _ a w ⟨rfl,rfl⟩ - H;refine fH 2 H ?_;exact ⟨aB vi (by unfold nQ;(repeat' split) <;> first|rfl|(simp_all;done)|(exfalso;simp_all;done)|(congr 1;rw [mE];simp only [uw,mM,lQ];exact ⟨fun h=>⟨p31,h⟩,fun h=>h.2⟩)),rfl⟩
  intro oJ
  refine jV 5 16 ?_ ?_
  ·intro h16
   try have p16:=dT h16
   refine ak 1 ?_;intro a H;refine tY H (wg H rfl rfl h16) rfl rfl ?_;clear H;refine ak 3 ?_;intro a H;refine zN (zv:=vi 0) DZ kI (by kernel_rfl) H (wg H rfl rfl h16) rfl rfl (H.ro _ _ hck.sty) rfl ?_;clear H;intro a H;rw [KJ] at H;refine aD 3 H ?_;clear H;intro a H;refine s_call jC H wn rfl (jH _ _ H.ro _ 25) rfl ?_;clear H;rintro v26 _ a w ⟨rfl,rfl⟩ - H;refine fH 2 H ?_;exact ⟨aB vi (by unfold nQ;(repeat' split) <;> first|rfl|(simp_all;done)|(exfalso;simp_all;done)|(congr 1;rw [mE];simp only [uw,mM,lQ];exact ⟨fun h=>⟨p31,h⟩,fun h=>h.2⟩)),rfl⟩
  intro h16
  try have p16:=dF h16
  refine ak 9 ?_;intro a H;refine s_call jC H wn rfl (jH _ _ H.ro _ 25) rfl ?_;clear H;rintro v26 _ a w ⟨rfl,rfl⟩ - H;refine fH 2 H ?_;exact ⟨aB vi (by unfold nQ;(repeat' split) <;> first|rfl|(simp_all;done)|(exfalso;simp_all;done)|(congr 1;rw [mE];simp only [uw,mM,lQ];exact ⟨fun h=>⟨p31,h⟩,fun h=>h.2⟩)),rfl⟩
 intro p9
 refine goB 4 ?_ ?_
 ·intro p27
  refine jV 4 31 ?_ ?_
  ·intro h31
   try have p31:=dT h31
   refine ak 1 ?_;intro a H;refine tY H (wg H rfl rfl h31) rfl rfl ?_;clear H;refine ak 3 ?_;intro a H;refine zN (zv:=.bool false) vg kI (by kernel_rfl) H (wg H rfl rfl h31) rfl rfl (H.ro _ _ hck.uT) rfl ?_;clear H;intro a H;rw [Dz] at H;refine aD 2 H ?_;clear H;intro a H;refine s_call jC H wn rfl (jH _ _ H.ro _ 26) rfl ?_;clear H;rintro v40 _ a w ⟨rfl,rfl⟩ - H;refine fH 2 H ?_;exact ⟨aB vi (by unfold nQ;(repeat' split) <;> first|rfl|(simp_all;done)|(exfalso;simp_all;done)|(congr 1;rw [mE];simp only [uw,mM,lQ];exact ⟨fun h=>⟨p31,h⟩,fun h=>h.2⟩)),rfl⟩
  intro h31
  try have p31:=dF h31
  refine ak 8 ?_;intro a H;refine s_call jC H wn rfl (jH _ _ H.ro _ 26) rfl ?_;clear H;rintro v40 _ a w ⟨rfl,rfl⟩ - H;refine fH 2 H ?_;exact ⟨aB vi (by unfold nQ;(repeat' split) <;> first|rfl|(simp_all;done)|(exfalso;simp_all;done)|(congr 1;rw [mE];simp only [uw,mM,lQ];exact ⟨fun h=>⟨p31,h⟩,fun h=>h.2⟩)),rfl⟩
 intro p27
 refine aQ 4 ?_;exact ⟨aB vi (by unfold nQ;(repeat' split) <;> first|rfl|(simp_all;done)|(exfalso;simp_all;done)|(congr 1;rw [mE];simp only [uw,mM,lQ];exact ⟨fun h=>⟨p31,h⟩,fun h=>h.2⟩)),rfl⟩
end
section
open Go.RowKit
section
variable {N:Nat} {D:List Deferred} {w0:World} {F:Nat→Prop} {G0 G G':GH} {L L':OL} {T:List (Nat × aj)}
variable {r:Option Nat} {P:Program} {ops:Array Oper} {Q:Exit→Act→World→Prop} {rest:List Oper} {a:Act} {w w':World}
theorem CG {ι:Type} {Tc:List (Nat × aj)} {l:List Oper} (k:Nat) (Tv:ι→List (Nat × aj)) (Pr:ι→Prop) (_:St N D w0 F G0 G L Tc a w)
  (h1:(∀ i a w,Pr i→St N D w0 F G0 G L (Tv i++Tc) a w→WL r P ops Q (l.drop k) a w)→WL r P ops Q l a w)
  (h2:∀ i a w,Pr i→St N D w0 F G0 G L (Tv i++Tc) a w→WL r P ops Q (l.drop k) a w):WL r P ops Q l a w:=h1 h2
theorem Change.back (h:Change w w' G G' L L'):Change w w' G G L L' :=
 ⟨h.os,h.tape,h.output,h.size,h.fr,fun _ _ h=>h,fun _ _ h=>.inl h,⟨fun k o hk=>h.owns.ro k o (h.gm k o hk),h.owns.own,fun p hp=>(by
  have hs:=h.owns.sep p hp
  cases hg:G p.1 with
  | none=>rfl
  | some o=>have:=h.gm _ _ hg;rw [hs] at this;cases this),h.owns.nd⟩,h.lx⟩
theorem fJ.back {R:aj→GH→OL→Prop} {R':aj→OL→Prop} (hR:∀ v G' L',R v G' L'→R' v L') {e:Ending} (h:fJ w G L R e w'):fJ w G L (fun v G' L'=>G=G'∧R' v L') e w':=by
 obtain ⟨v,G',L',rfl,hc,hr⟩:=h
 exact ⟨v,G,L',rfl,hc.back,rfl,hR _ _ _ hr⟩
theorem Calls.aei {f:FuncId} {args:Array aj} {R:aj→GH→OL→Prop} {R':aj→OL→Prop} (h:Calls P f args w (fJ w G L R)) (hR:∀ v G' L',R v G' L'→R' v L'):Calls P f args w (fJ w G L fun v G' L'=>G=G'∧R' v L') :=
 h.mono fun _ _=>fJ.back hR
theorem bB.back {R:aj→GH→Prop} {e:Ending} (h:bB w G R e w'):bB w G (fun v G'=>(∃ g,R v g)∧G=G') e w':=by
 obtain ⟨v,G',rfl,hb,hX,hr⟩:=h
 exact ⟨v,G,rfl,hb,⟨fun _ _ h=>h,fun _ _ h=>.inl h,fun k o hk=>hX.2.2 k o (hX.1 k o hk)⟩,⟨G',hr⟩,rfl⟩
theorem WZ {f:FuncId} {args:Array aj} {R:aj→GH→Prop} (h:Calls P f args w (bB w G R)):Calls P f args w (bB w G fun v G'=>(∃ g,R v g)∧G=G'):=h.mono fun _ _=>bB.back
theorem fU.add {b:Nat} {o:Obj} (h:fU G ((b,o) :: L) w):Hold (G.add b o) w:=fun k o' hk=>by
 unfold GH.add at hk
 split at hk
 ·next e=>cases hk;subst e;exact h.own _ fM
 ·exact h.ro k o' hk
theorem apQ {b:Nat} {o:Obj} {R:aj→GH→Prop} {R':aj→Prop} (hO:fU G ((b,o) :: L) w) (hR:∀ v G',R v G'→R' v) {e:Ending} (h:bB w (G.add b o) R e w'):fJ w G ((b,o) :: L) (fun v G' L'=>G=G'∧L'=(b,o) :: L∧R' v) e w':=by
 obtain ⟨v,G',rfl,hb,hX,hr⟩:=h
 exact ⟨v,G,_,rfl,(hO.hp.below hb).acG,rfl,rfl,hR _ _ hr⟩
end
end
end Go.Proofs.YtdiflmikikiedaaGreat
