/-
  What the claim stands on, part 3: Aln Sol Sol2 Bmt Bsm Mtk Vc Run Cht Bld Cu Bln Rtx Dvs Cl Rc Ct Rst Bst2 Kb.
-/
import Derived.Test.YtomebajfpcjoeaaDoorWab
namespace Go.Proofs.YtomebajfpcjoeaaDoor
set_option linter.all false
open Go.Proofs.Tryd
open Go.RowKit
theorem bV:prog.underlying 53=some (.slice 60):=by kernel_rfl
theorem cK:Ty prog 60 2 16 [.int .i64 0,.int .i64 0] true:=⟨Z,Z⟩
theorem Ba:fu prog 60 1 1:=⟨Z⟩
theorem Qt:bD 54:=bH func54 O
theorem YK:bD 55:=bH func55 O
theorem Cr:prog.underlying 127=some (.slice 53):=by kernel_rfl
theorem Co:Ty prog 53 1 24 [.slice none 0 0] false:=⟨Z,Z⟩
structure bJ where
 key:Int
 weight:Int
def bJ.dat (x:bJ):List Dat:=[li x.key,li x.weight]
theorem afe (G:GH) (x:bJ):aT G x.dat [vi x.key,vi x.weight]:=by
 simp only [bJ.dat,aT]
 exact ⟨_,_,O,by simp [ay,Value.oneCell'],_,_,O,by simp [ay,Value.oneCell'],O⟩
theorem afd {G:GH} {x:bJ} {cs:List aj} (h:aT G x.dat cs):cs=[vi x.key,vi x.weight]:=by
 simp only [bJ.dat,aT,ay] at h
 obtain ⟨v1,_,rfl,⟨rfl,-⟩,v2,_,rfl,⟨rfl,-⟩,rfl⟩:=h
 rfl
theorem xk {G:GH} {l:List bJ} {A:Option Addr} {n c k:Nat} (hv:ay G (.sl 2 (l.map bJ.dat)) (.slice A n c)) (hk:k < l.length):∃ b o,A=some ⟨b,o,none⟩∧(∀ j u,[vi l[k].key,vi l[k].weight][j]?=some u->aQ G b (o+k*2+j)=some u):=by
 obtain ⟨A',c',he,_,_,hg⟩:=hv.slice
 injection he with e1 e2 e3
 subst e1;obtain ⟨b,o,cs,h1,h2,h3,h4⟩:=hg k l[k].dat (by simp [hk]);obtain rfl:=afd h4;exact Ap
def zw (x:bJ):Bool:=decide (1<=x.weight) && decide (x.weight<=1000)
def tq (l:List bJ):Int:=if 2048 < l.length then 9 else if l.all zw then 0 else 5
theorem Mr {p:Prop} (h:p:=by
 exact ⟨V,fun q hq=>absurd hq (Nat.not_lt_zero _)⟩):p:=h
theorem F4 {p:Prop} (h:p:=by
 first
  | (have hr:¬ l.all zw=true:=fun h=>by
      have:=fM.1 h _ (dK hk2)
      simp only [zw,gq,gG] at this
      omega
     exact H.rt ⟨by rw [tq,dh,aL hr],O⟩)
  | exact H.rt ⟨by rw [tq,dh,aM (fM.2 fun x hx=>by
        obtain ⟨q,hq,rfl⟩:=List.getElem_of_mem hx
        exact Bt q V hq)],O⟩):p:=h
theorem PL (G:GH) (w0:World) (hG:Hold G w0) (l:List bJ) (v:aj) (hv:ay G (.sl 2 (l.map bJ.dat)) v) :
    Calls prog 54 #[v] w0 (bK w0 G fun u G'=>u=vi (tq l)∧G=G'):=by
  obtain ⟨A,c,rfl,hc1,hc2,-⟩:=hv.slice;have hml:maxLen=9223372036854775807:=rfl;rw [bG] at *;refine eN [(0,_)] func54 O ntmps54 O O hG ?_;intro a H;refine kP H (SR fun _ K1=>au K1 O (SQ fun _ K2=>SR fun _ K3=>Rm O (Rl bV O (Rc O (Kz K3 (Cd O ?_ ?_)))))) <;> clear H K1 K3
  · intro h7 a H
    try have p7:=dT h7
    exact kP H (SR fun _ K1=>au K1 O (LR results54 O fun H=>H.rt ⟨by rw [tq,iw],O⟩))
  intro h7 a H
  try have p7:=dF h7
  refine kP H (Kc K2 (SQ fun _ K1=>SR fun _ K3=>Rm O (Rl bV O (Rm O (Kz K3 (SB ?_))))));clear H K2 K3;intro a H;skip;refine dz (ι:=Nat) (Tc:=[(8,_),(9,_)]) (Lc:=[]) (fun gh=>[(10,vi gh)]) (fun gh=>[]) (fun gh=>G) (fun gh=>gh<=l.length∧∀ q (hq:q < gh) (hq2:q < l.length),zw l[q]=true) (fun gh=>l.length - gh) (0) (by exact H.sub ⟨O,O,O,aH⟩) ?_ ?_
  · exact Mr
  clear H;intro k a w hI H;obtain ⟨hk,Bt⟩:=hI;dsimp only [lca,bR] at H;refine kP H (SR fun _ K2=>Rc O (Kz K2 (SQ fun _ K3=>Cd O ?_ ?_))) <;> clear H K2
  · intro h11 a H
    try have oO:=dT h11
    have hk2:k < l.length:=by omega
    obtain ⟨b,o,rfl,hrow⟩:=xk hv hk2;refine kP H (Kc K3 (SQ fun _ K2=>SB (SR fun _ K4=>Ri bV cK O O ?_)));clear H K3;intro a H;refine dL cK (cs:=[_,_]) H wn O O (fun j v hj=>H.hp.aQ (hrow j v hj)) O ?_;clear H;intro a H;refine jv cK H wn O ?_;clear H;intro b4 a w hb4 H;refine eZ cK 0 (vs:=[_,_]) H wn O ?_;clear H;intro w H;refine K4 _ _ ?_;clear K4;refine kP H (SR fun _ K3=>fJ Ba aG 0 O O (Rc O (Rm O (Sp 17 O ?_ ?_)))) <;> clear H
    · intro dH a H
      try have jY:=dT dH
      refine kH H (aU dH O (Pt dH O (Kz K3 (Ct O O (SR fun _ K4=>au K4 O ?_)))));clear H K3 K4;intro a H;refine lr H results54 O ?_
      exact F4
    intro dH a H
    try have jY:=dF dH
    refine kH H (YF Ba dH O (YO aG 0 dH O (YC dH O (Pf dH O (Kz K3 (Cd O ?_ ?_)))))) <;> clear H K3
    · intro h21 a H
      try have kN:=dT h21
      refine kP H (SR fun _ K3=>au K3 O ?_);clear H K3;intro a H;refine lr H results54 O ?_
      exact F4
    intro h21 a H
    try have kN:=dF h21
    refine kP H (Kc K2 (SC (Rd O (Rm O ?_))));clear H K2;intro a H;refine aB ?_;refine aX ((k+1)) (by exact (H.dB (Pl:=[_]) (bS:=[]) [] Y O).sub ⟨O,O,O,aH⟩) ?_
    exact ⟨V,fun q hq hq2=>by
        by_cases e:q=k
        · subst e;simp only [zw,gq,gG];omega
        exact Bt q V hq2⟩
  intro h11 a H
  try have oO:=dF h11
  refine bQ ?_;refine K1 _ _ ?_;clear K1;refine kP H (SR fun _ K1=>au K1 O ?_);clear H K1;intro a H;refine lr H results54 O ?_
  exact F4
def AJ (a b:List bJ):Int:=if tq a=0 then tq b else tq a
theorem WW (G:GH) (w0:World) (hG:Hold G w0) (la lb:List bJ) (v u:aj) (hv:ay G (.sl 2 (la.map bJ.dat)) v) (hu:ay G (.sl 2 (lb.map bJ.dat)) u) :
  Calls prog 42 #[v,u] w0 (bK w0 G fun r G'=>r=vi (AJ la lb)∧G=G'):=by
 refine eN [(0,_),(1,_)] func42 O ntmps42 O O hG ?_;intro a H;refine kP H (SR fun _ K1=>au K1 O (SQ fun _ K2=>SR fun _ K3=>Rm O ?_));clear H K1;intro a H;refine s_call Qt H wn O (PL _ _ H.ro la v hv) O ?_;clear H;rintro v7 _ a w ⟨rfl,rfl⟩ - H;refine kH H (au K3 O (SR fun _ K1=>Rm O (Rc O (Kz K1 (Cd O ?_ ?_))))) <;> clear H K3 K1
 ·intro h9 a H
  try have p9:=dT h9
  exact kP H (SR fun _ K1=>Rm O (au K1 O (LR results42 O fun H=>H.rt ⟨by rw [AJ,aL p9],O⟩)))
 intro h9 a H
 try have p9:=dF h9
 refine kP H (Kc K2 (SR fun _ K1=>Rm O ?_));clear H K2;intro a H;refine s_call Qt H wn O (PL _ _ H.ro lb u hu) O ?_;clear H;rintro v12 _ a w ⟨rfl,rfl⟩ - H;exact kH H (au K1 O (LR results42 O fun H=>H.rt ⟨by rw [AJ,aM (xO.1 p9)],O⟩))
def iR (a b:bJ):Int:=min a.weight b.weight
theorem afJ (G:GH) (w0:World) (hG:Hold G w0) (a b:bJ):Calls prog 57 #[.agg #[vi a.key,vi a.weight],.agg #[vi b.key,vi b.weight]] w0 (bK w0 G fun u G'=>u=vi (iR a b)∧G=G'):=by
 refine eN [(0,_),(1,_)] func57 O ntmps57 O O hG ?_;intro a H;refine iV (fun _ K1=>?_);refine lV (cs:=[_,_]) H wn O O O ?_;clear H;intro b2 a w hb2 H;refine lV (cs:=[_,_]) H wn O O O ?_;clear H;intro b3 a w hb3 H;refine kH H (au K1 O (SR fun _ K2=>fJ Ba aG 1 O O (fJ Ba aG 0 O O ?_)));clear H K1;intro a H;refine EO H wn O O O ?_;clear H;intro a H;exact kH H (au K2 O (LR results57 O fun H=>H.rt ⟨O,O⟩))
theorem ZR (G:GH) (w0:World) (n:Nat) (hO:jc G [] w0) (hn:n<=4294967296):Calls prog 55 #[.slice none 0 0,vi n] w0 (jd w0 G [] fun u G' L'=>G=G'∧aZ 60 2 u 0 [] L'):=by
 have hml:4294967297<=maxLen:=by decide
 refine lS (N:=27) (T:=[(0,_),(1,_)]) func55 O ntmps55 O O hO ?_;intro a H;refine kP H (SR fun _ K1=>au K1 O (SQ fun _ K2=>SR fun _ K3=>Rm O (Rc O (Kz K3 (Cd O ?_ ?_))))) <;> clear H K1 K3
 ·intro h6 a H
  try have p6:=dT h6
  exact absurd p6 V
 intro h6 a H
 try have p6:=dF h6
 refine kP H (Kc K2 (SQ fun _ K1=>SR fun _ K3=>Rm O (Rm O ?_)));clear H K2;intro a H;refine TS bV H wn O O ?_;clear H;intro a H;refine kH H (Rm O (Rl bV O (Rs O (Rs O ?_))));clear H;intro a H;rw [show ((n:Int) - (((0:Nat):Int) - ((0:Nat):Int)))=(n:Int) by omega] at H;refine kH H (au K3 O (SR fun _ K2=>Rm O (Rc O (Kz K2 (Cd O ?_ ?_))))) <;> clear H K3 K2
 ·intro h16 a H
  try have p16:=dT h16
  refine kP H (SC (Rm O (Rm O ?_)));clear H;intro a H;refine TS bV H wn O O ?_;clear H;intro a H;refine Ua bV cK 0 H wn O O O (aV _) O ?_;clear H;intro a H;refine kH H (Rm O ?_);clear H;intro a H;refine adA bV um cK O O H wn O O V V V O ?_;clear H;intro mD Xo XT a w Iz hc22 aaJ aaK H;refine kH H (Rm O (Rl bV O ?_));clear H;intro a H;refine Ua bV cK 0 H wn O O O (dO _) O ?_;clear H;intro a H;exact kH H (cO K1 O (SR fun _ K2=>Rm O (au K2 O (LR results55 O fun H=>H.hp.kY ⟨O,by simp,.inr ⟨mD,Xo,XT,O,O,dO _,aaJ,aaK,by simp⟩⟩))))
 intro h16 a H
 exact kP H (Kc K1 (SR fun _ K2=>Rm O (au K2 O (LR results55 O fun H=>H.hp.kY ⟨O,aZ.nil⟩))))
def zN (l:List bJ):List Dat:=[.sl 2 (l.map bJ.dat)]
theorem UO {G:GH} {S:List (List bJ)} {A:Option Addr} {n c i:Nat} (hv:ay G (.sl 1 (S.map zN)) (.slice A n c)) (hi:i < S.length):∃ b o bA bc,A=some ⟨b,o,none⟩∧aQ G b (o+i*1)=some (.slice bA S[i].length bc)∧ay G (.sl 2 (S[i].map bJ.dat)) (.slice bA S[i].length bc):=by
 obtain ⟨A',c',he,_,_,hg⟩:=hv.slice
 injection he with e1 e2 e3
 subst e1;obtain ⟨b,o,cs,h1,h2,h3,h4⟩:=hg i (zN S[i]) (by simp [hi])
 simp only [zN,aT] at h4
 obtain ⟨v,_,rfl,h5,rfl⟩:=h4;obtain ⟨bA,bn,bc,rfl⟩:=h5.form;obtain ⟨_,_,IL,-⟩:=h5.slice;obtain ⟨-,hn,-⟩:=Value.slice.inj IL;rw [bG] at hn;subst hn;exact ⟨b,o,bA,bc,h1,h3 0 _ O,h5⟩
theorem H7 {α:Type} {S:List (List α)} {k:Nat} (h:k < S.length):(S.take (k+1)).flatten=(S.take k).flatten++S[k]:=by rw [kg h,List.flatten_append,List.flatten_cons,List.flatten_nil,kr]
theorem QI {α:Type} (S:List (List α)) (k:Nat):(S.take k).flatten.length<=S.flatten.length:=by
 have e:=ko List.length (ko List.flatten (List.take_append_drop k S));rw [List.flatten_append,gW] at e;omega
theorem Gx {p:Prop} (h:p:=by
 intro h20 a H
 try have qK:=dT h20
 exact absurd qK V):p:=h
theorem XK (G:GH) (w0:World) (hG:Hold G w0) (S:List (List bJ)) (v:aj) (hv:ay G (.sl 1 (S.map zN)) v) (hz:S.flatten.length<=1073741824) :
  Calls prog 43 #[v] w0 (bK w0 G fun u G'=>ay G' (.sl 2 (S.flatten.map bJ.dat)) u):=by
 obtain ⟨A,c,rfl,hc1,hc2,-⟩:=hv.slice;have hml:maxLen=9223372036854775807:=rfl;rw [bG] at *;refine eN [(0,_)] func43 O ntmps43 O O hG ?_;intro a H;refine kP H (SR fun _ K1=>au K1 O (SR fun _ K2=>au K2 O (SQ fun _ K3=>SR fun _ K4=>Rm O (Rl Cr O (Rm O (Kz K4 (SB ?_)))))));clear H K1 K2 K4;intro a H;skip;refine dz (ι:=Nat) (Tc:=[(0,_),(9,_),(10,_)]) (Lc:=[]) (fun gh=>[(3,vi ((S.take gh).flatten.length:Nat)),(11,vi gh)]) (fun gh=>[]) (fun gh=>G) (fun gh=>gh<=S.length) (fun gh=>S.length - gh) (0) (by exact H.sub ⟨O,O,O,O,O,aH⟩) ?_ ?_
 ·exact dO _
 clear H;intro k a w hI H;have hk:k<=S.length:=hI;dsimp only [lca,bR] at H;refine kP H (SR fun _ K1=>Rc O (Kz K1 (SQ fun _ K2=>Cd O ?_ ?_))) <;> clear H K1
 ·intro h12 a H
  try have rR:=dT h12
  have hk2:k < S.length:=by omega
  obtain ⟨b,o,bA,bc,rfl,g1,g2⟩:=UO hv hk2;have hft:=QI S (k+1);have hfs:=ko List.length (H7 hk2);rw [gW] at hfs;refine kP H (Kc K2 (SQ fun _ K1=>SB (SR fun _ K4=>Ri Cr Co O O (Rg Co O (by assumption) ?_))));clear H K2;intro a H;refine kH H (au K4 O (SR fun _ K2=>Rm O (Rm O (Rl bV O (Rd O ?_)))));clear H K4;intro a H;rw [show (((S.take k).flatten.length:Nat):Int)+(S[k].length:Int)=(((S.take (k+1)).flatten.length:Nat):Int) by omega] at H;refine kH H (au K2 O (SR fun _ K4=>Rm O (Rc O (Kz K4 (Cd O ?_ ?_))))) <;> clear H K2 K4
  ·exact Gx
  intro h20 a H
  try have qK:=dF h20
  refine kP H (Kc K1 (SC (Rd O (Rm O ?_))));clear H K1;intro a H;refine aB ?_;refine aX ((k+1)) (by exact H.sub ⟨O,O,O,O,O,aH⟩) ?_
  exact hk2
 intro h12 a H
 try have rR:=dF h12
 refine bQ ?_;refine K3 _ _ ?_;clear K3;refine fT (fun _ K1=>?_);rw [show S.take k=S from gX V] at H;refine kP H (SC (Rm O ?_));clear H;intro a H;refine jR YK (Li:=[]) (L:=[]) H wn O (ZR _ _ S.flatten.length (Hp.owns (Li:=[]) H.hp) V) O ?_;clear H;rintro v24 _ LK a w ⟨rfl,wM⟩ ahf H;dsimp only [List.nil_append] at H;refine kH H (cO K1 O (SQ fun _ K3=>SR fun _ K4=>Rm O (Rl Cr O (Rm O (Kz K4 (SB ?_))))));clear H K1 K4;intro a H;skip;refine dz (ι:=Nat × aj × List aj × OL) (Tc:=[(25,_),(26,_)]) (Lc:=[]) (fun gh=>[(6,gh.2.1),(27,vi gh.1)]) (fun gh=>[]++gh.2.2.2) (fun gh=>G) (fun gh=>gh.1<=S.length∧aZ 60 2 gh.2.1 (S.take gh.1).flatten.length gh.2.2.1 gh.2.2.2∧bU G 2 ((S.take gh.1).flatten.map bJ.dat) gh.2.2.1) (fun gh=>S.length - gh.1) ((0,v24,[],LK)) (by exact (H:St _ _ _ _ _ _ ([]++LK) _ _ _).sub ⟨O,O,O,O,aH⟩) ?_ ?_
 ·exact ⟨dO _,wM,bU.nil⟩
 clear H;rintro ⟨j,v,xs,Lo⟩ a w hI H;dsimp only at hI H;obtain ⟨hj,hrw,lU⟩:=hI;dsimp only [lca,bR] at H;refine kP H (SR fun _ K1=>Rc O (Kz K1 (SQ fun _ K4=>Cd O ?_ ?_))) <;> clear H K1
 ·intro gy a H
  try have p28:=dT gy
  have hj2:j < S.length:=by omega
  obtain ⟨b,o,bA,bc,rfl,g1,g2⟩:=UO hv hj2;have hft:=QI S (j+1);have hfs:=ko List.length (H7 hj2);rw [gW] at hfs;refine kP H (Kc K4 (SQ fun _ K1=>SB (SR fun _ K5=>Ri Cr Co O O (Rg Co O (by assumption) ?_))));clear H K4;intro a H;refine kH H (au K5 O (SC (Rm O (Rm O ?_))));clear H K5;intro a H;refine TQ (Li:=[]) (Lo:=Lo) bV cK O O H wn O O hrw g2 V V O ?_;clear H;intro v33 VL acG a w abx aaG H;dsimp only [List.nil_append] at H;refine kH H (cO K1 O (SC (Rd O (Rm O ?_))));clear H K1;intro a H;refine aB ?_;refine aX ((j+1,v33,xs++acG,VL)) (by exact H.sub ⟨O,O,O,O,aH⟩) ?_
  (try dsimp only);exact ⟨V,by rw [hfs];exact abx,by rw [H7 hj2,ku];exact lU.append aaG⟩
 intro gy a H
 try have p28:=dF gy
 refine bQ ?_;refine K3 _ _ ?_;clear K3;refine fT (fun _ K1=>?_);obtain ⟨Gr,hmr,hrep,H⟩:=St.kU (Li:=[]) H hrw (rows:=(S.take j).flatten.map bJ.dat) (by rw [bG]) lU;rw [show S.take j=S from gX V] at hrep;exact kP H (SC (Rm O (cO K1 O (LR results43 O fun H=>H.rt hrep))))
theorem U4:prog.underlying 107=some (.array 2 85):=by kernel_rfl
theorem rZ:Ty prog 85 1 24 [.slice none 0 0] false:=⟨Z,Z⟩
theorem QC:fu prog 109 1 1:=⟨Z⟩
theorem Hr:fu prog 109 2 3:=⟨Z⟩
def dJ (a b:List bJ) (i k:Nat):Int :=
 if hi:i < a.length then
  if hk:k < b.length then
   (if a[i].key=b[k].key∧max (dJ a b (i+1) k) (dJ a b i (k+1))<=dJ a b (i+1) (k+1)+iR a[i] b[k] then dJ a b (i+1) (k+1)+iR a[i] b[k] else max (dJ a b (i+1) k) (dJ a b i (k+1)))
  else dJ a b (i+1) k
 else 0
termination_by (a.length - i)+(b.length - k)
theorem mU {a b:List bJ} {i k:Nat} (h:¬ i < a.length):dJ a b i k=0:=by rw [dJ,dif_neg h]
theorem Kg {a b:List bJ} {i k:Nat} (h:i < a.length) (hk:¬ k < b.length):dJ a b i k=dJ a b (i+1) k:=by rw [dJ,dif_pos h,dif_neg hk]
theorem uf {a b:List bJ} {i k:Nat} (h:i < a.length) (hk:k < b.length):dJ a b i k=if a[i].key=b[k].key∧max (dJ a b (i+1) k) (dJ a b i (k+1))<=dJ a b (i+1) (k+1)+iR a[i] b[k] then dJ a b (i+1) (k+1)+iR a[i] b[k] else max (dJ a b (i+1) k) (dJ a b i (k+1)):=by rw [dJ,dif_pos h,dif_pos hk]
theorem zK {a b:List bJ} (ha:∀ x∈a,1<=x.weight∧x.weight<=1000) (hb:∀ x∈b,1<=x.weight∧x.weight<=1000):∀ (q i k:Nat),(a.length - i)+(b.length - k)<=q->0<=dJ a b i k∧dJ a b i k<=1000*((a.length - i:Nat):Int)
 | 0,i,k,h=>by rw [mU V];omega
 | q+1,i,k,h=>by
  by_cases hi:i < a.length
  ·have h1:=zK ha hb q (i+1) k V
   by_cases hk:k < b.length
   ·rw [uf hi hk];have h2:=zK ha hb q i (k+1) V;have h3:=zK ha hb q (i+1) (k+1) V;have h4:=ha _ (dK hi);have h5:=hb _ (dK hk)
    have h6:1<=iR a[i] b[k]∧iR a[i] b[k]<=1000:=by unfold iR;omega
    split <;> omega
   rw [Kg hi hk];omega
  rw [mU hi];omega
abbrev bT (b:Nat) (x y z v:aj):Nat × Obj:=(b,.cells #[x,y,z,v] 109 (0,0))
abbrev bY (b:Nat) (X:List aj):Nat × Obj:=(b,.cells X.toArray 5 (0,0))
theorem wX {G:GH} {w0:World} {bt cb rb W M s i k:Nat} {x y z:aj} {R:List Int} {X:List aj} (c score:Int) (hO:jc G [bT bt x y z (vi W),bY cb X,bF rb R] w0) (hs:s < 2) (hc:[x,y,z,vi W][1+s*1]?=some (.slice (some ⟨cb,0,none⟩) M M)) (hk:k < W) (hR:R.length=W) (hX:X.length=M) (hi:i*W+k < M) (hM:M<=10000000) (hW:W<=10000) (hi2:i<=10000) :
  Calls prog 56 #[(aD bt 0),.slice (some ⟨rb,0,none⟩) W W,vi s,vi i,vi k,vi score,.int .u8 c] w0 (jd w0 G [bT bt x y z (vi W),bY cb X,bF rb R] fun u G' L'=>L'=[bT bt x y z (vi W),bY cb (X.set (i*W+k) (.int .u8 c)),bF rb (R.set k score)]):=by
 have hiw:(i:Int)*(W:Int)=((i*W:Nat):Int):=by push_cast;rfl
 refine lS (N:=34) (T:=[(0,_),(1,_),(2,_),(3,_),(4,_),(5,_),(6,_)]) func56 O ntmps56 O O hO ?_;intro a H;refine kP H (SR fun _ K1=>Rm O (Rm O (Rm O ?_)));clear H;intro a H;refine bO bP aG k H wn O O O hk O ?_;clear H;intro a H;refine nI aG 2 (c:=R.map vi) (vs:=[_]) ((R.set k score).map vi) H wn O O O O O O (Eq.mpr Nat.ble_eq (by rw [bG,hR];simp only [List.length_singleton];omega)) (by rw [eP,Nat.mul_one,List.map_set];rfl) ?_;clear H;intro w H;dsimp only [List.set] at H;refine K1 _ _ ?_;clear K1;refine dI fF [[],[],[0],[0,2],ra 0 4,ra 0 5,[],[],[7],[7,8],[7,8,9],ra 6 5,[],ra 6 7,[],ra 0 15,ra 0 16] [16] Z [(aD bt 0),vi s,(aD bt 0),(aD bt 1),(aD bt (0+1+s*1)),.slice (some ⟨cb,0,none⟩) M M,vi i,(aD bt 0),(aD bt 0),(aD bt 3),vi W,vi ((i*W:Nat):Int),vi k,vi (((i*W:Nat):Int)+k),.int .u8 c,(aD cb (0+(i*W+k)*1))] H (aF ?_ ?_ ?_ ?_ (aF ?_ ?_ ?_ ?_ (aF ?_ ?_ ?_ ?_ (aF ?_ ?_ ?_ ?_ (gN (gB O) fB))))) ?_
 ·exact aO
 ·exact aO
 ·intro av a w G1 _ ah hc hG HT hv;have H:=HT;clear ah;have H:=H.ak (hv 0 18 (hc 0 Y) O) O;have Hb:=H.full;have H:=Hb;clear hc;refine kH H (Rk O ?_);exact aI
 ·intro av a w G1 _ ah hc hG HT hv;have H:=HT;clear ah;have H:=H.ak (hv 2 20 (hc 2 Y) O) O;have Hb:=H.full;have H:=Hb;clear hc;refine kH H (Rf QC O ?_);exact aI
 ·intro av a w G1 _ ah hc hG HT hv;have H:=HT;clear ah;have H:=H.ak (hv 3 21 (hc 3 Y) O) O;have H:=H.ak (hv 1 19 (hc 1 Y) O) O;have Hb:=H.full;have H:=Hb;clear hc;refine mQ U4 rZ s H wn O O O hs O ?_;exact aI
 ·intro av a w G1 _ ah hc hG HT hv;have H:=HT;clear ah;have H:=H.ak (hv 4 22 (hc 4 Y) O) O;have Hb:=H.full;have H:=Hb;clear hc;refine iF rZ H wn O (H.hp.jh 0 O (by rw [eP];simpa using hc)) O ?_;exact aI
 ·exact aO
 ·exact aO
 ·intro av a w G1 _ ah hc hG HT hv;have H:=HT;clear ah;have H:=H.ak (hv 7 25 (hc 7 Y) O) O;have Hb:=H.full;have H:=Hb;clear hc;refine kH H (Rk O ?_);exact aI
 ·intro av a w G1 _ ah hc hG HT hv;have H:=HT;clear ah;have H:=H.ak (hv 8 26 (hc 8 Y) O) O;have Hb:=H.full;have H:=Hb;clear hc;refine kH H (Rf Hr O ?_);exact aI
 ·intro av a w G1 _ ah hc hG HT hv;have H:=HT;clear ah;have H:=H.ak (hv 9 27 (hc 9 Y) O) O;have Hb:=H.full;have H:=Hb;clear hc;refine kH H (Ro aG 0 O ?_);exact aI
 ·intro av a w G1 _ ah hc hG HT hv;have H:=HT;clear ah;have H:=H.ak (hv 6 24 (hc 6 Y) O) O;have H:=H.ak (hv 10 28 (hc 10 Y) O) O;have Hb:=H.full;have H:=Hb;clear hc;refine wV ((i*W:Nat):Int) H wn O O hiw V V O ?_;exact aI
 ·exact aO
 ·intro av a w G1 _ ah hc hG HT hv;have H:=HT;clear ah;have H:=H.ak (hv 11 29 (hc 11 Y) O) O;have H:=H.ak (hv 12 30 (hc 12 Y) O) O;exact lQ
 ·exact aO
 ·intro av a w G1 _ ah hc hG HT hv;have H:=HT;clear ah;have H:=H.ak (hv 5 23 (hc 5 Y) O) O;have H:=H.ak (hv 13 31 (hc 13 Y) O) O;have Hb:=H.full;have H:=Hb;clear hc;refine bO uo Cq (i*W+k) H wn O O V V O ?_;exact aI
 clear H;intro a w G Ir H hv;have H:=H.ak (hv 14 32 O O) O;have H:=H.ak (hv 15 33 O O) O;clear hv;refine nI Cq 1 (c:=X) (vs:=[_]) (X.set (i*W+k) (.int .u8 c)) H wn O O O O O O (Eq.mpr Nat.ble_eq (by rw [hX];simp only [List.length_singleton];omega)) (by rw [eP,Nat.mul_one];rfl) ?_;clear H;intro w H;dsimp only [List.set] at H;refine aB ⟨O,?_⟩;refine (leave0 H results56 ?_).2;exact H.hp.kY O
section
theorem oQ:prog.underlying 129=some (.array 2 46):=by kernel_rfl
theorem vW:bD 56:=bH func56 O
theorem zQ:Ty prog 109 4 64 [.int .i64 0,.slice none 0 0,.slice none 0 0,.int .i64 0] true:=⟨Z,Z⟩
theorem aeB:ow prog 109 [(0,1),(1,2),(3,1)] [.int .i64 0,.slice none 0 0,.slice none 0 0,.int .i64 0]:=⟨Z,Z⟩
theorem zS:Ty prog 129 2 48 [.slice none 0 0,.slice none 0 0] true:=⟨Z,Z⟩
theorem YP:bD 57:=bH func57 O
theorem HY:fu prog 60 0 0:=⟨Z⟩
theorem Zv:fu prog 109 0 0:=⟨Z⟩
def slc (o:Option Nat) (M:Nat):aj:=match o with|some b=>.slice (some ⟨b,0,none⟩) M M|none=>.slice none 0 0
abbrev zB (b M:Nat):Nat × Obj:=bY b (List.replicate M (.int .u8 0))
abbrev zR (b W:Nat):Nat × Obj:=(b,.cells (List.replicate W (.int .i64 0)).toArray 3 (0,0))
def BU (M W:Nat) (bs:List (Nat × Nat × Nat)):OL:=bs.flatMap fun x=>[zB x.1 M,zR x.2.1 W,zR x.2.2 W]
abbrev bA (b:Nat) (x y:aj):Nat × Obj:=(b,.cells #[x,y] 129 (0,0))
abbrev fc (b W:Nat):aj:=.slice (some ⟨b,0,none⟩) W W
def upd {α:Type} (f:Nat->α) (s:Nat) (v:α):Nat->α:=fun t=>if t=s then v else f t
def wk (C rN qN:Nat->Nat) (X:Nat->List aj) (R Q:Nat->List Int):OL:=[bY (C 0) (X 0),bF (rN 0) (R 0),bF (qN 0) (Q 0),bY (C 1) (X 1),bF (rN 1) (R 1),bF (qN 1) (Q 1)]
def mo (C rN qN:Nat->Nat) (X:Nat->List aj) (R Q:Nat->List Int) (s:Nat):OL:=[bF (qN s) (Q s),bY (C (1 - s)) (X (1 - s)),bF (rN (1 - s)) (R (1 - s)),bF (qN (1 - s)) (Q (1 - s))]
section
variable {N:Nat} {D:List Deferred} {w0:World} {F:Nat->Prop} {G0 G:GH} {T:List (Nat × aj)} {a:Act} {w:World}
variable {C rN qN:Nat->Nat} {X:Nat->List aj} {R Q:Nat->List Int} {o p q r:Nat × Obj} {s:Nat}
theorem St.xB (hs:s < 2) (H:St N D w0 F G0 G ([o,p,q,r]++wk C rN qN X R Q) T a w):St N D w0 F G0 G (([o,q,r]++mo C rN qN X R Q s)++[p,bY (C s) (X s),bF (rN s) (R s)]) T a w:=by
 match s,hs with
 | 0,_=>exact H.dB (Pl:=[_,_,_,_,_,_,_,_,_,_]) (bS:=[_,_,_,_,_,_,_,_,_,_]) (Lo:=[]) [0,2,3,6,7,8,9,1,4,5] Y rfl
 | 1,_=>exact H.dB (Pl:=[_,_,_,_,_,_,_,_,_,_]) (bS:=[_,_,_,_,_,_,_,_,_,_]) (Lo:=[]) [0,2,3,9,4,5,6,1,7,8] Y O
theorem St.afK {x:List aj} {y:List Int} (hs:s < 2) (H:St N D w0 F G0 G (([o,q,r]++mo C rN qN X R Q s)++[p,bY (C s) x,bF (rN s) y]) T a w):St N D w0 F G0 G ([o,p,q,r]++wk C rN qN (upd X s x) (upd R s y) Q) T a w:=by
 match s,hs with
 | 0,_=>exact H.dB (Pl:=[_,_,_,_,_,_,_,_,_,_]) (bS:=[_,_,_,_,_,_,_,_,_,_]) (Lo:=[]) [0,7,1,2,8,9,3,4,5,6] Y rfl
 | 1,_=>exact H.dB (Pl:=[_,_,_,_,_,_,_,_,_,_]) (bS:=[_,_,_,_,_,_,_,_,_,_]) (Lo:=[]) [0,7,1,2,4,5,6,8,9,3] Y O
theorem St.afL (H:St N D w0 F G0 G ([o,p,q,r]++wk C rN qN X R Q) T a w):St N D w0 F G0 G ([o,p,q,r]++wk C qN rN X Q R) T a w :=
 H.dB (Pl:=[_,_,_,_,_,_,_,_,_,_]) (bS:=[_,_,_,_,_,_,_,_,_,_]) (Lo:=[]) [0,1,2,3,4,6,5,7,9,8] Y O
end
def Af (f:Nat->Int) (W k:Nat) (R:Nat->List Int):Prop:=∀ t,t < 2->(R t).length=W∧∀ k',k<=k'->k' < W->(R t)[k']?=some (f k')
def ql (f:Nat->Int) (W k s:Nat) (R:Nat->List Int):Prop:=Af f W (k+1) R∧∀ t,t < s->t < 2->(R t)[k]?=some (f k)
theorem ql.open {f:Nat->Int} {W k:Nat} {R:Nat->List Int} (h:Af f W (k+1) R):ql f W k 0 R:=⟨h,fun t ht=>absurd ht (Nat.not_lt_zero _)⟩
theorem ql.step {f:Nat->Int} {W k s:Nat} {R:Nat->List Int} {y:Int} (h:ql f W k s R) (hk:k < W) (hy:y=f k):ql f W k (s+1) (upd R s ((R s).set k y)):=by
 refine ⟨fun t ht=>⟨?_,fun k' h1 h2=>?_⟩,fun t ht ht2=>?_⟩
 ·by_cases e:t=s
  ·subst e;simp only [upd,aM];rw [List.length_set];exact (h.1 t ht).1
  simp only [upd,aL e];exact (h.1 t ht).1
 ·by_cases e:t=s
  ·subst e;simp only [upd,aM];rw [List.getElem?_set_ne V];exact (h.1 t ht).2 k' h1 h2
  simp only [upd,aL e];exact (h.1 t ht).2 k' h1 h2
 by_cases e:t=s
 ·subst e;simp only [upd,aM];rw [List.getElem?_set_self (by rw [(h.1 t ht2).1];exact hk),hy]
 simp only [upd,aL e];exact h.2 t V ht2
theorem ql.close {f:Nat->Int} {W k:Nat} {R:Nat->List Int} (h:ql f W k 2 R):Af f W k R:=fun t ht=>⟨(h.1 t ht).1,fun k' h1 h2=>by
 by_cases e:k'=k
 ·subst e;exact h.2 t ht ht
 exact (h.1 t ht).2 k' V h2⟩
theorem St.xC {N:Nat} {D:List Deferred} {w0:World} {F:Nat->Prop} {G0 G:GH} {T:List (Nat × aj)} {a:Act} {w:World} {C rN qN:Nat->Nat} {X:Nat->List aj} {R Q:Nat->List Int} {o p q r:Nat × Obj} {s k W M:Nat} {f:Nat->Int} {x:List aj} {y:Int} (hs:s < 2) (hm:ql f W k s R) (hk:k < W) (hX:∀ t,t < 2->(X t).length=M) (hy:y=f k) (hx:x.length=M) (H:St N D w0 F G0 G (([o,q,r]++mo C rN qN X R Q s)++[p,bY (C s) x,bF (rN s) ((R s).set k y)]) T a w) :
  ∃ X4 R4,(∀ t,t < 2->(X4 t).length=M)∧ql f W k (s+1) R4∧St N D w0 F G0 G ([o,p,q,r]++wk C rN qN X4 R4 Q) T a w:=by
 refine ⟨_,_,?_,hm.step hk hy,H.afK hs⟩;intro t ht
 by_cases e:t=s
 ·subst e;simp only [upd,aM];exact hx
 simp only [upd,aL e];exact hX t ht
def pair (x y:Nat):Nat->Nat:=fun t=>if t=0 then x else y
theorem acn {c0 r0 q0 c1 r1 q1 M W:Nat}:BU M W [(c0,r0,q0),(c1,r1,q1)]=wk (pair c0 c1) (pair r0 r1) (pair q0 q1) (fun _=>List.replicate M (.int .u8 0)) (fun _=>List.replicate W 0) (fun _=>List.replicate W 0):=by
 simp [BU,wk,pair,List.map_replicate]
theorem xq {x:Nat->aj} {s:Nat} (hs:s < 2):#[x 0,x 1][0+s*1]?=some (x s):=by
 match s,hs with
 | 0,_=>rfl
 | 1,_=>rfl
theorem vS {u:aj} {v:aj} {x:Nat->aj} {s:Nat} (hs:s < 2):[u,x 0,x 1,v][1+s*1]?=some (x s):=by
 match s,hs with
 | 0,_=>rfl
 | 1,_=>rfl
def nD (fO b7 b8 b9 M W:Nat) (x6:Nat × Obj) (bs:List (Nat × Nat × Nat)) (s4 s7 s9 s11:Bool) (E:Nat × Nat):OL :=
 [zB fO M,x6,bT b7 (vi 0) (slc ((bs++[(fO,0,0)])[0]?.map (·.1)) M) (slc ((bs++[(fO,0,0)])[1]?.map (·.1)) M) (vi W),bA b8 (slc ((if s9 then bs++[(fO,E.1,0)] else bs)[0]?.map (·.2.1)) W) (slc ((if s9 then bs++[(fO,E.1,0)] else bs)[1]?.map (·.2.1)) W),bA b9 (slc ((if s11 then bs++[(fO,0,E.2)] else bs)[0]?.map (·.2.2)) W) (slc ((if s11 then bs++[(fO,0,E.2)] else bs)[1]?.map (·.2.2)) W)]++((if s4 then [zR E.1 W] else [])++((if s7 then [zR E.2 W] else [])++BU M W bs))
theorem Ms {p:Prop} (h:p:=by
 exact (List.perm_middle (a:=zR x W) (l₁:=[_,_,_,_,_])).symm):p:=h
theorem ace {fO b7 b8 b9 M W x:Nat} {x6:Nat × Obj} {bs:List (Nat × Nat × Nat)} {s7:Bool} {E:Nat × Nat}:(zR x W :: nD fO b7 b8 b9 M W x6 bs false s7 false false E).Perm (nD fO b7 b8 b9 M W x6 bs true s7 false false (x,E.2)):=by
 exact Ms
theorem acf {fO b7 b8 b9 M W x:Nat} {x6:Nat × Obj} {bs:List (Nat × Nat × Nat)} {s4 s9:Bool} {E:Nat × Nat}:(zR x W :: nD fO b7 b8 b9 M W x6 bs s4 false s9 false E).Perm (nD fO b7 b8 b9 M W x6 bs s4 true s9 false (E.1,x)):=by
 cases s4
 ·exact Ms
 exact (List.perm_middle (a:=zR x W) (l₁:=[_,_,_,_,_,_])).symm
theorem aeo {bs:List (Nat × Nat × Nat)} {b M W:Nat} (h:bs.length < 2):[vi 0,slc (bs[0]?.map (·.1)) M,slc (bs[1]?.map (·.1)) M,vi W].set (1+bs.length) (fc b M)=[vi 0,slc ((bs++[(b,0,0)])[0]?.map (·.1)) M,slc ((bs++[(b,0,0)])[1]?.map (·.1)) M,vi W]:=by
 match bs,h with
 | [],_=>rfl
 | [_],_=>rfl
theorem aep {bs:List (Nat × Nat × Nat)} {b x W:Nat} (h:bs.length < 2):[slc (bs[0]?.map (·.2.1)) W,slc (bs[1]?.map (·.2.1)) W].set bs.length (fc x W)=[slc ((bs++[(b,x,0)])[0]?.map (·.2.1)) W,slc ((bs++[(b,x,0)])[1]?.map (·.2.1)) W]:=by
 match bs,h with
 | [],_=>rfl
 | [_],_=>rfl
theorem aer {bs:List (Nat × Nat × Nat)} {b x W:Nat} (h:bs.length < 2):[slc (bs[0]?.map (·.2.2)) W,slc (bs[1]?.map (·.2.2)) W].set bs.length (fc x W)=[slc ((bs++[(b,0,x)])[0]?.map (·.2.2)) W,slc ((bs++[(b,0,x)])[1]?.map (·.2.2)) W]:=by
 match bs,h with
 | [],_=>rfl
 | [_],_=>rfl
theorem St.acg {N:Nat} {D:List Deferred} {w0:World} {F:Nat->Prop} {G0 G:GH} {T:List (Nat × aj)} {a:Act} {w:World} {fO b7 b8 b9 M W x y:Nat} {x6:Nat × Obj} {bs:List (Nat × Nat × Nat)} (h:bs.length < 2) (H:St N D w0 F G0 G (nD fO b7 b8 b9 M W x6 bs true true true true (x,y)) T a w) :
  St N D w0 F G0 G ([x6,bT b7 (vi 0) (slc ((bs++[(fO,x,y)])[0]?.map (·.1)) M) (slc ((bs++[(fO,x,y)])[1]?.map (·.1)) M) (vi W),bA b8 (slc ((bs++[(fO,x,y)])[0]?.map (·.2.1)) W) (slc ((bs++[(fO,x,y)])[1]?.map (·.2.1)) W),bA b9 (slc ((bs++[(fO,x,y)])[0]?.map (·.2.2)) W) (slc ((bs++[(fO,x,y)])[1]?.map (·.2.2)) W)]++BU M W (bs++[(fO,x,y)])) T a w:=by
 match bs,h with
 | [],_=>exact H.dB (Pl:=[_,_,_,_,_,_,_]) (bS:=[_,_,_,_,_,_,_]) (Lo:=[]) [1,2,3,4,0,5,6] Y rfl
 | [_],_=>exact H.dB (Pl:=[_,_,_,_,_,_,_,_,_,_]) (bS:=[_,_,_,_,_,_,_,_,_,_]) (Lo:=[]) [1,2,3,4,7,8,9,0,5,6] Y O
theorem Mt {p:Prop} (h:p:=by
 exact aB ⟨O,E,_,H,hV.put Z O O (fun _ _ _ h=>h)⟩):p:=h
theorem vO {p:Prop} (h:p:=by
 exact ⟨V,wo,wm,wB⟩):p:=h
theorem Wu {p:Prop} (h:p:=by
 exact iN Z (fun _ _ _ _ _ h=>h) O O HT Hb hG hv Z5 (rfl) H):p:=h
theorem Al {p:Prop} (h:p:=by
 first|(have yT:=fun b o h=>Eb b o (Rh b o h))|(have yT:=nC)):p:=h
theorem WH {p:Prop} (h:p:=by
 clear H;intro a w G Eb H hv;have H:=H.ak (hv 15 145 O O) O;clear hv;refine aB ⟨O,?_⟩;refine K7 _ _ ?_;clear K7;refine GK H O (iM c1) ?_;refine kP H (SC (Rm O (Ra O (cO K8 O ?_))));clear H K8;intro a H
 exact Al
 refine kP H (SC (Rm O ?_));clear H;intro a H;refine mQ oQ bI s H wn O O O hs2 O ?_;clear H;intro a H;refine iF bI H wn O (H.hp.jh 2 O (xq (x:=fun t=>fc (rN t) W) hs2)) O ?_;clear H;intro a H;refine kH H (Rm O (Rm O (Rm O (Rm O (Rm O ?_)))));clear H;intro a H;have H:=H.xB hs2;refine jR vW (Li:=[_,_,_]++mo C rN qN X3 R3 Q s) (L:=[_,_,_]) H wn O (wX _ _ (Hp.owns (Li:=[_,_,_]++mo C rN qN X3 R3 Q s) H.hp) hs2 (vS (x:=fun t=>fc (C t) M) hs2) hkW (hmid.1 s hs2).1 (jV s hs2) wC V V V) O ?_;clear H;rintro Fv G4 CG a w rfl tN H;have wB:=fun b o h=>tN b o (yT b o h)
 obtain ⟨X4,R4,wo,wm,H⟩:=St.xC hs2 hmid hkW jV (by first|omega|(rw [uf hi2 hk3];split <;> omega)) (by rw [List.length_set];exact jV s hs2) H
 refine kH H (Kn K2 (SC (Rd O (Rm O ?_))));clear H K2;intro a H;refine aB ?_;refine aX ((s+1,X4,R4,G4)) (by exact H.sub ⟨O,O,O,O,O,O,O,O,O,O,aH⟩) ?_
 (try dsimp only);exact vO):p:=h
theorem WI {p:Prop} (h:p:=by
 clear H;intro a w G Eb H hv;have H:=H.ak (hv 15 145 O O) O;clear hv;refine aB ⟨O,?_⟩;refine K7 _ _ ?_;clear K7;refine rD H O (dU c1) ?_;refine kI ?_;refine K8 _ _ ?_;clear K8
 exact Al
 refine kP H (SC (Rm O ?_));clear H;intro a H;refine mQ oQ bI s H wn O O O hs2 O ?_;clear H;intro a H;refine iF bI H wn O (H.hp.jh 2 O (xq (x:=fun t=>fc (rN t) W) hs2)) O ?_;clear H;intro a H;refine kH H (Rm O (Rm O (Rm O (Rm O (Rm O ?_)))));clear H;intro a H;have H:=H.xB hs2;refine jR vW (Li:=[_,_,_]++mo C rN qN X3 R3 Q s) (L:=[_,_,_]) H wn O (wX _ _ (Hp.owns (Li:=[_,_,_]++mo C rN qN X3 R3 Q s) H.hp) hs2 (vS (x:=fun t=>fc (C t) M) hs2) hkW (hmid.1 s hs2).1 (jV s hs2) wC V V V) O ?_;clear H;rintro Fv G4 CG a w rfl tN H;have wB:=fun b o h=>tN b o (yT b o h)
 obtain ⟨X4,R4,wo,wm,H⟩:=St.xC hs2 hmid hkW jV (by first|omega|(rw [uf hi2 hk3];split <;> omega)) (by rw [List.length_set];exact jV s hs2) H
 refine kH H (Kn K2 (SC (Rd O (Rm O ?_))));clear H K2;intro a H;refine aB ?_;refine aX ((s+1,X4,R4,G4)) (by exact H.sub ⟨O,O,O,O,O,O,O,O,O,O,aH⟩) ?_
 (try dsimp only);exact vO):p:=h
theorem Ov {p:Prop} (h:p:=by
 intro av a w G1 _ ah hc hG HT hv;have H:=HT;clear ah;have H:=H.ak (hv 9 123 (hc 9 Y) O) O;have H:=H.ak (hv 13 127 (hc 13 Y) O) O;have Hb:=H.full;have H:=Hb;clear hc;refine s_call YP H wn O (afJ _ _ H.ro la[i] lb[k]) O ?_;clear H;rintro ahG afZ a w ⟨rfl,rfl⟩ Z5 H;refine aB ⟨O,?_⟩;exact Wu):p:=h
theorem OG {p:Prop} (h:p:=by
 intro S E T1 a w hS hc hd H hV;have H:=H.nO (hV.1 7 _ O);have hV:=hV.add (hV.1 7 _ O);refine kH H (Rf Hr O ?_);clear H;intro a H;exact Mt):p:=h
theorem Di {p:Prop} (h:p:=by
 clear H;intro a H;exact Mt):p:=h
theorem Dm {p:Prop} (h:p:=by
 intro av a w G1 _ ah hc hG HT hv;have H:=HT;clear ah;have H:=H.ak (hv 11 141 (hc 11 Y) O) O;have Hb:=H.full;have H:=Hb;clear hc;refine kH H (YM (iM c0) O ?_);exact aI):p:=h
theorem uL {p:Prop} (h:p:=by
 have Hb:=H.full;have H:=Hb;clear hc;refine kH H (Ri bV cK O O ?_);exact aI):p:=h
theorem Dn {p:Prop} (h:p:=by
 intro av a w G1 _ ah hc hG HT hv;have H:=HT;clear ah;have H:=H.ak (hv 4 134 (hc 4 Y) O) O;have H:=H.ak (hv 9 139 (hc 9 Y) O) O;have Hb:=H.full;have H:=Hb;clear hc;refine kH H (Rc O ?_);exact aI):p:=h
theorem Dp {p:Prop} (h:p:=by
 intro av a w G1 _ ah hc hG HT hv;have H:=HT;clear ah;have H:=H.ak (hv 3 133 (hc 3 Y) O) O;have Hb:=H.full;have H:=Hb;clear hc;refine kH H (Rg aG O (aK hG (wL 0 _ O)) ?_);exact aI):p:=h
theorem Dq {p:Prop} (h:p:=by
 intro av a w G1 _ ah hc hG HT hv;have H:=HT;clear ah;have H:=H.ak (hv 8 138 (hc 8 Y) O) O;have Hb:=H.full;have H:=Hb;clear hc;refine kH H (Rg aG O (aK hG (RG 0 _ O)) ?_);exact aI):p:=h
theorem Dr {p:Prop} (h:p:=by
 intro av a w G1 _ ah hc hG HT hv;have H:=HT;clear ah;have H:=H.ak (hv 2 132 (hc 2 Y) O) O;have Hb:=H.full;have H:=Hb;clear hc;refine kH H (Rf HY O ?_);exact aI):p:=h
theorem Dt {p:Prop} (h:p:=by
 intro av a w G1 _ ah hc hG HT hv;have H:=HT;clear ah;have H:=H.ak (hv 7 137 (hc 7 Y) O) O;have Hb:=H.full;have H:=Hb;clear hc;refine kH H (Rf HY O ?_);exact aI):p:=h
theorem OY {p:Prop} (h:p:=by
 intro av a w G1 _ ah hc hG HT hv;have H:=HT;clear ah;have H:=H.ak (hv 12 142 (hc 12 Y) O) O;have H:=H.ak (hv 13 143 (hc 13 Y) O) O;have H:=H.ak (hv 11 141 (hc 11 Y) O) O;have Hb:=H.full;have H:=Hb;clear hc;refine kH H (YC (iM c0) O ?_);exact aI):p:=h
theorem O5 {p:Prop} (h:p:=by
 intro av a w G1 _ ah hc hG HT hv;have H:=HT;clear ah;have H:=H.ak (hv 11 141 (hc 11 Y) O) O;have H:=H.ak (hv 14 144 (hc 14 Y) O) O;have Hb:=H.full;have H:=Hb;clear hc;refine kH H (Pt (iM c0) O ?_);exact aI):p:=h
theorem ML {p:Prop} (h:p:=by
 intro av a w G1 _ ah hc hG HT hv;have H:=HT;clear ah;have H:=H.ak (hv 4 118 (hc 4 Y) O) O;have Hb:=H.full;have H:=Hb;clear hc;refine iF aG H wn O (H.hp.jh 6 O (by rw [eP,Nat.mul_one];exact pI ((Ed 0 Y).2 (k+1) (dO _) V))) O ?_;exact aI):p:=h
theorem MO {p:Prop} (h:p:=by
 intro av a w G1 _ ah hc hG HT hv;have H:=HT;clear ah;have H:=H.ak (hv 12 126 (hc 12 Y) O) O;have Hb:=H.full;have H:=Hb;clear hc;refine dL cK (cs:=[_,_]) H wn O O (fun j v hj=>H.hp.aQ (aK hG (hrb j v hj))) O ?_;exact aI):p:=h
theorem MP {p:Prop} (h:p:=by
 intro av a w G1 _ ah hc hG HT hv;have H:=HT;clear ah;have H:=H.ak (hv 8 122 (hc 8 Y) O) O;have Hb:=H.full;have H:=Hb;clear hc;refine dL cK (cs:=[_,_]) H wn O O (fun j v hj=>H.hp.aQ (aK hG (hra j v hj))) O ?_;exact aI):p:=h
theorem MQ {p:Prop} (h:p:=by
 intro av a w G1 _ ah hc hG HT hv;have H:=HT;clear ah;have H:=H.ak (hv 11 141 (hc 11 Y) O) O;have H:=H.ak (hv 14 144 (hc 14 Y) O) O;have Hb:=H.full;have H:=Hb;clear hc;refine kH H (Pf (dU c0) O ?_);exact aI):p:=h
theorem Nb {p:Prop} (h:p:=by
 intro av a w G1 _ ah hc hG HT hv;have H:=HT;clear ah;have H:=H.ak (hv 0 114 (hc 0 Y) O) O;have Hb:=H.full;have H:=Hb;clear hc;refine kH H (Ro bI 3 O ?_);exact aI):p:=h
theorem Ni {p:Prop} (h:p:=by
 intro av a w G1 _ ah hc hG HT hv;have H:=HT;clear ah;have Hb:=H.full;have H:=Hb;clear hc;refine mQ oQ bI 0 H wn O O O Y O ?_;exact aI):p:=h
theorem Nl {p:Prop} (h:p:=by
 intro S E T1 a w hS hc hd H hV;have H:=H.nO (hV.1 10 _ O);have hV:=hV.add (hV.1 10 _ O);refine kH H (Rm O ?_);exact Di):p:=h
theorem NC {p:Prop} (h:p:=by
 refine mQ oQ bI s H wn O O O V O ?_;exact Di):p:=h
theorem NH {p:Prop} (h:p:=by
 skip
 by_cases c1:mx<=dJ la lb (i+1) (k+1)+iR la[i] lb[k]
 ·skip;refine dI fF [[],[],[0,1],[0,1,2],ra 0 4,[],[],[5,6],[5,6,7],ra 5 4,ra 0 10,ra 0 11,ra 0 12,ra 0 12,ra 0 14,ra 0 15] [] Z [.slice (some ⟨ab,ao,none⟩) la.length vc,vi i,(aD ab (ao+i*2)),(aD ab (ao+i*2+0)),vi la[i].key,.slice (some ⟨bb,bo,none⟩) lb.length uc,vi k,(aD bb (bo+k*2)),(aD bb (bo+k*2+0)),vi lb[k].key,.bool (decide (la[i].key=lb[k].key)),.bool (decide (la[i].key=lb[k].key)),vi (dJ la lb (i+1) (k+1)+iR la[i] lb[k]),vi mx,.bool (decide (dJ la lb (i+1) (k+1)+iR la[i] lb[k] ≥ mx)),.bool (decide (dJ la lb (i+1) (k+1)+iR la[i] lb[k] ≥ mx))] H (aF ?_ ?_ ?_ ?_ (aF ?_ ?_ ?_ ?_ (aF ?_ ?_ ?_ ?_ (aF ?_ ?_ ?_ ?_ fB)))) ?_
  ·exact aO
  ·exact aO
  ·intro av a w G1 _ ah hc hG HT hv;have H:=HT;clear ah;have H:=H.ak (hv 0 130 (hc 0 Y) O) O;have H:=H.ak (hv 1 131 (hc 1 Y) O) O;exact uL
  ·exact Dr
  ·exact Dp
  ·exact aO
  ·exact aO
  ·intro av a w G1 _ ah hc hG HT hv;have H:=HT;clear ah;have H:=H.ak (hv 5 135 (hc 5 Y) O) O;have H:=H.ak (hv 6 136 (hc 6 Y) O) O;exact uL
  ·exact Dt
  ·exact Dq
  ·exact Dn
  ·intro av a w G1 _ ah hc hG HT hv;have H:=HT;clear ah;have H:=H.ak (hv 10 140 (hc 10 Y) O) O;exact lq
  ·exact Dm
  ·exact Dm
  ·exact OY
  ·exact O5
  exact WH
 skip;refine dI fF [[],[],[0,1],[0,1,2],ra 0 4,[],[],[5,6],[5,6,7],ra 5 4,ra 0 10,ra 0 11,ra 0 12,ra 0 12,ra 0 14,ra 0 15] [] Z [.slice (some ⟨ab,ao,none⟩) la.length vc,vi i,(aD ab (ao+i*2)),(aD ab (ao+i*2+0)),vi la[i].key,.slice (some ⟨bb,bo,none⟩) lb.length uc,vi k,(aD bb (bo+k*2)),(aD bb (bo+k*2+0)),vi lb[k].key,.bool (decide (la[i].key=lb[k].key)),.bool (decide (la[i].key=lb[k].key)),vi (dJ la lb (i+1) (k+1)+iR la[i] lb[k]),vi mx,.bool (decide (dJ la lb (i+1) (k+1)+iR la[i] lb[k] ≥ mx)),.bool (decide (dJ la lb (i+1) (k+1)+iR la[i] lb[k] ≥ mx))] H (aF ?_ ?_ ?_ ?_ (aF ?_ ?_ ?_ ?_ (aF ?_ ?_ ?_ ?_ (aF ?_ ?_ ?_ ?_ fB)))) ?_
 ·exact aO
 ·exact aO
 ·intro av a w G1 _ ah hc hG HT hv;have H:=HT;clear ah;have H:=H.ak (hv 0 130 (hc 0 Y) O) O;have H:=H.ak (hv 1 131 (hc 1 Y) O) O;exact uL
 ·exact Dr
 ·exact Dp
 ·exact aO
 ·exact aO
 ·intro av a w G1 _ ah hc hG HT hv;have H:=HT;clear ah;have H:=H.ak (hv 5 135 (hc 5 Y) O) O;have H:=H.ak (hv 6 136 (hc 6 Y) O) O;exact uL
 ·exact Dt
 ·exact Dq
 ·exact Dn
 ·intro av a w G1 _ ah hc hG HT hv;have H:=HT;clear ah;have H:=H.ak (hv 10 140 (hc 10 Y) O) O;exact lq
 ·exact Dm
 ·exact Dm
 ·exact OY
 ·exact O5
 exact WI):p:=h
theorem NK {p:Prop} (h:p:=by
 intro av a w G1 _ ah hc hG HT hv;have H:=HT;clear ah;have H:=H.ak (hv 0 130 (hc 0 Y) O) O;have H:=H.ak (hv 1 131 (hc 1 Y) O) O;exact uL):p:=h
theorem NM {p:Prop} (h:p:=by
 intro av a w G1 _ ah hc hG HT hv;have H:=HT;clear ah;have H:=H.ak (hv 5 135 (hc 5 Y) O) O;have H:=H.ak (hv 6 136 (hc 6 Y) O) O;exact uL):p:=h
theorem NQ {p:Prop} (h:p:=by
 intro av a w G1 _ ah hc hG HT hv;have H:=HT;clear ah;have H:=H.ak (hv 10 140 (hc 10 Y) O) O;exact lq):p:=h
theorem NS {p:Prop} (h:p:=by
 intro av a w G1 _ ah hc hG HT hv;have H:=HT;clear ah;have H:=H.ak (hv 10 124 (hc 10 Y) O) O;have H:=H.ak (hv 11 125 (hc 11 Y) O) O;exact uL):p:=h
theorem NT {p:Prop} (h:p:=by
 intro av a w G1 _ ah hc hG HT hv;have H:=HT;clear ah;have H:=H.ak (hv 5 119 (hc 5 Y) O) O;have H:=H.ak (hv 14 128 (hc 14 Y) O) O;exact lQ):p:=h
theorem NV {p:Prop} (h:p:=by
 intro av a w G1 _ ah hc hG HT hv;have H:=HT;clear ah;have H:=H.ak (hv 1 115 (hc 1 Y) O) O;have H:=H.ak (hv 3 117 (hc 3 Y) O) O;exact AB):p:=h
theorem NW {p:Prop} (h:p:=by
 intro av a w G1 _ ah hc hG HT hv;have H:=HT;clear ah;have H:=H.ak (hv 6 120 (hc 6 Y) O) O;have H:=H.ak (hv 7 121 (hc 7 Y) O) O;exact uL):p:=h
theorem Oc {p:Prop} (h:p:=by
 intro av a w G1 _ ah hc hG HT hv;have H:=HT;clear ah;have H:=H.ak (hv 15 129 (hc 15 Y) O) O;exact uO):p:=h
theorem Oi {p:Prop} (h:p:=by
 intro av a w G1 _ ah hc hG HT hv;have H:=HT;clear ah;have H:=H.ak (hv 2 116 (hc 2 Y) O) O;exact lQ):p:=h
set_option maxHeartbeats 4000000 in
theorem aew (G:GH) (w0:World) (hG:Hold G w0) (la lb:List bJ) (v u:aj) (hv:ay G (.sl 2 (la.map bJ.dat)) v) (hu:ay G (.sl 2 (lb.map bJ.dat)) u) (ha:la.length<=2048) (hb:lb.length<=2048) (vw:∀ x∈la,1<=x.weight∧x.weight<=1000) (hwb:∀ x∈lb,1<=x.weight∧x.weight<=1000) :
  Calls prog 44 #[v,u,vi 0] w0 (bK w0 G fun r G'=>∃ x y z,r=.agg #[vi (dJ la lb 0 0),x,y,z]):=by
 obtain ⟨vA,vc,rfl,hc1,hc2,-⟩:=hv.slice;obtain ⟨uA,uc,rfl,hd1,hd2,-⟩:=hu.slice;have hml:maxLen=9223372036854775807:=rfl;(iterate 2 rw [bG] at *);obtain ⟨W,hW⟩:∃ W,W=lb.length+1:=⟨_,O⟩;obtain ⟨M,hM⟩:∃ M,M=(la.length+1)*W:=⟨_,O⟩
 have hMb:M<=2049*2049:=by rw [hM];exact Nat.mul_le_mul V V
 refine eN [(0,_),(1,_),(2,_)] func44 O ntmps44 O O hG ?_;intro a H;refine iV (fun _ K1=>?_);refine jv zQ H wn O ?_;clear H;intro b6 a w hb6 H;refine K1 _ _ ?_;clear K1;refine kP H (SR fun _ K1=>Rm O (Rl bV O (Rd O ?_)));clear H;intro a H;rw [show ((lb.length:Int)+1)=(W:Int) by omega] at H;refine jQ aeB [_,_,_,_] H wn O O O O ?_;clear H;intro a H;refine jv zQ H wn O ?_;clear H;intro b7 a w hb7 H;refine eZ zQ 0 (vs:=[_,_,_,_]) H wn O ?_;clear H;intro w H;refine K1 _ _ ?_;clear K1;refine iV (fun _ K1=>?_);refine jv zS H wn O ?_;clear H;intro b8 a w Q8 H;refine jv zS H wn O ?_;clear H;intro b9 a w IE H;refine K1 _ _ ?_;clear K1;refine kP H (SQ fun _ K1=>SR fun _ K2=>Rm O (Kz K2 (SB ?_)));clear H K2;intro a H;skip;refine dz (ι:=Nat × List (Nat × Nat × Nat)) (Tc:=[(0,_),(1,_),(2,_),(6,_),(7,_),(8,_),(9,_)]) (Lc:=[(_,_)]) (fun gh=>[(24,vi gh.1)]) (fun gh=>[bT b7 (vi 0) (slc (gh.2[0]?.map (·.1)) M) (slc (gh.2[1]?.map (·.1)) M) (vi W),bA b8 (slc (gh.2[0]?.map (·.2.1)) W) (slc (gh.2[1]?.map (·.2.1)) W),bA b9 (slc (gh.2[0]?.map (·.2.2)) W) (slc (gh.2[1]?.map (·.2.2)) W)]++BU M W gh.2) (fun gh=>G) (fun gh=>gh.1<=2∧gh.2.length=gh.1) (fun gh=>2 - gh.1) ((0,[])) (by exact (H.dB (Pl:=[_,_,_,_]) (bS:=[_,_,_,_]) (Lo:=[]) [3,2,1,0] Y O).sub ⟨O,O,O,O,O,O,O,O,aH⟩) ?_ ?_
 ·exact ⟨Y,O⟩
 clear H;rintro ⟨s,bs⟩ a w hI H;dsimp only at hI H;obtain ⟨hs,hbs⟩:=hI;dsimp only [lca,bR] at H;refine kP H (SR fun _ K2=>Rc O (Kz K2 (SQ fun _ K3=>Cd O ?_ ?_))) <;> clear H K2
 ·intro gK a H
  try have p25:=dT gK
  refine kP H (Kc K3 (SQ fun _ K2=>SB (SR fun _ K4=>Rm O (au K4 O (SR fun _ K5=>Rm O (Rm O (Rl bV O (Rd O (fJ Hr aG 1 O O ?_)))))))));clear H K3 K4;intro a H;refine wV (M:Int) H wn O O (by rw [hM];push_cast;rfl) V V rfl ?_;clear H;intro a H;refine lW M uo Cq H wn O O O V V O ?_;clear H;intro fO a w agR H;refine kH H (Rf QC O ?_);clear H;intro a H;refine mQ U4 rZ s H wn O O O V O ?_;clear H;intro a H;refine nI rZ 2 (c:=[vi 0,slc (bs[0]?.map (·.1)) M,slc (bs[1]?.map (·.1)) M,vi W]) (vs:=[_]) [vi 0,slc ((bs++[(fO,0,0)])[0]?.map (·.1)) M,slc ((bs++[(fO,0,0)])[1]?.map (·.1)) M,vi W] H wn rfl rfl rfl rfl rfl rfl (Eq.mpr Nat.ble_eq (by simp only [jB,List.length_nil];omega)) (by rw [eP,Nat.mul_one,<- hbs];exact aeo V) ?_;clear H;intro w H;dsimp only [List.set] at H;refine K5 _ _ ?_;clear K5;obtain ⟨x6,hx6⟩:∃ x,x=bT b6 (vi 0) (.slice none 0 0) (.slice none 0 0) (vi 0):=⟨_,O⟩;have H:=H.cast (L':=nD fO b7 b8 b9 M W x6 bs false false false false (0,0)) (by rw [hx6];rfl);refine Xd (ε:=Nat × Nat) fF [[],[],[],[2],[2,3],[],[5],[5,6],[0,2,3,4],[0,2,3,4,8],ra 0 10,ra 0 11] Z (fun E i v=>match i with|0=>v=vi s|1=>v=vi s|2=>v=(aD b7 (0+3))|3=>v=vi W|4=>v=fc E.1 W|5=>v=(aD b7 (0+3))|6=>v=vi W|7=>v=fc E.2 W|8=>v=(aD b8 (0+s*1))|10=>v=(aD b9 (0+s*1))|_=>True) (fun S E=>nD fO b7 b8 b9 M W x6 bs (S 4) (S 7) (S 9) (S 11) E) (0,0) H ?_ ?_
  ·clear H;refine aF ?_ ?_ ?_ ?_ (aF ?_ ?_ ?_ ?_ (aF ?_ ?_ ?_ ?_ fB))
   ·exact Nl
   ·exact Nl
   ·exact OG
   ·intro S E T1 a w hS hc hd H hV;obtain ⟨u39,RO,rfl⟩:=hV.2 2 39 (hc 2 Y) O;have H:=H.nO RO;have hV:=hV.add RO;refine kH H (Ro aG 2 O ?_);exact Di
   ·intro S E T1 a w hS hc hd H hV;obtain ⟨u40,RP,rfl⟩:=hV.2 3 40 (hc 3 Y) O;have H:=H.nO RP;have hV:=hV.add RP;have h4:S 4=false:=hS;have h9:S 9=false:=hd 9 Y Y;have h11:S 11=false:=hd 11 Y Y;refine lW W bP aG H wn O O O V V O ?_;clear H;intro CQ a w agS H;rw [h4,h9,h11] at H;have H:=H.perm ace;have e:nD fO b7 b8 b9 M W x6 bs true (S 7) false false (CQ,E.2)=(fun (S:Nat->Bool) (E:Nat × Nat)=>nD fO b7 b8 b9 M W x6 bs (S 4) (S 7) (S 9) (S 11) E) (dM S 4) (CQ,E.2):=(by show _=nD fO b7 b8 b9 M W x6 bs true (S 7) (S 9) (S 11) (CQ,E.2);rw [h9,h11]);have H:=H.cast e
    exact aB ⟨O,(CQ,E.2),_,H,hV.put Z O O (fun j u hne h=>by
       match j,hne,h with
       | 0,_,h|1,_,h|2,_,h|3,_,h|5,_,h|6,_,h|8,_,h|10,_,h=>exact h
       | 4,hne,h=>first|exact h|exact absurd O hne
       | 7,hne,h=>first|exact h|exact absurd O hne
       | 9,_,h|11,_,h=>exact h
       | _+12,_,h=>exact h)⟩
   ·exact OG
   ·intro S E T1 a w hS hc hd H hV;obtain ⟨u42,RS,rfl⟩:=hV.2 5 42 (hc 5 Y) O;have H:=H.nO RS;have hV:=hV.add RS;refine kH H (Ro aG 2 O ?_);exact Di
   ·intro S E T1 a w hS hc hd H hV;obtain ⟨u43,RU,rfl⟩:=hV.2 6 43 (hc 6 Y) O;have H:=H.nO RU;have hV:=hV.add RU;have h7:S 7=false:=hS;have h11:S 11=false:=hd 11 Y Y;refine lW W bP aG H wn O O O V V O ?_;clear H;intro CS a w agT H;rw [h7,h11] at H;have H:=H.perm acf;have e:nD fO b7 b8 b9 M W x6 bs (S 4) true (S 9) false (E.1,CS)=(fun (S:Nat->Bool) (E:Nat × Nat)=>nD fO b7 b8 b9 M W x6 bs (S 4) (S 7) (S 9) (S 11) E) (dM S 7) (E.1,CS):=(by show _=nD fO b7 b8 b9 M W x6 bs (S 4) true (S 9) (S 11) (E.1,CS);rw [h11]);have H:=H.cast e
    exact aB ⟨O,(E.1,CS),_,H,hV.put Z O O (fun j u hne h=>by
       match j,hne,h with
       | 0,_,h|1,_,h|2,_,h|3,_,h|5,_,h|6,_,h|8,_,h|10,_,h=>exact h
       | 4,hne,h=>first|exact h|exact absurd O hne
       | 7,hne,h=>first|exact h|exact absurd O hne
       | 9,_,h|11,_,h=>exact h
       | _+12,_,h=>exact h)⟩
   ·intro S E T1 a w hS hc hd H hV;have H:=H.nO (hV.1 8 _ O);have hV:=hV.add (hV.1 8 _ O);obtain ⟨u37,RL,rfl⟩:=hV.2 0 37 (hc 0 Y) O;have H:=H.nO RL;have hV:=hV.add RL;exact NC
   ·intro S E T1 a w hS hc hd H hV;obtain ⟨u45,RY,rfl⟩:=hV.2 8 45 (hc 8 Y) O;have H:=H.nO RY;have hV:=hV.add RY;obtain ⟨u41,RQ,rfl⟩:=hV.2 4 41 (hc 4 Y) O;have H:=H.nO RQ;have hV:=hV.add RQ;have h9:S 9=false:=hS;rw [h9] at H;refine nI bI 3 (c:=[slc (bs[0]?.map (·.2.1)) W,slc (bs[1]?.map (·.2.1)) W]) (vs:=[_]) [slc ((bs++[(fO,E.1,0)])[0]?.map (·.2.1)) W,slc ((bs++[(fO,E.1,0)])[1]?.map (·.2.1)) W] H wn rfl rfl rfl rfl rfl rfl (Eq.mpr Nat.ble_eq (by simp only [jB,List.length_nil];omega)) (by rw [eP,Nat.mul_one,<- hbs];exact aep V) ?_;clear H;intro w H;exact aB ⟨O,E,_,H,hV.unit O⟩
   ·intro S E T1 a w hS hc hd H hV;have H:=H.nO (hV.1 9 _ O);have hV:=hV.add (hV.1 9 _ O);obtain ⟨u38,RN,rfl⟩:=hV.2 1 38 (hc 1 Y) O;have H:=H.nO RN;have hV:=hV.add RN;exact NC
   intro S E T1 a w hS hc hd H hV;obtain ⟨u46,RZ,rfl⟩:=hV.2 10 46 (hc 10 Y) O;have H:=H.nO RZ;have hV:=hV.add RZ;obtain ⟨u44,RX,rfl⟩:=hV.2 7 44 (hc 7 Y) O;have H:=H.nO RX;have hV:=hV.add RX;have h11:S 11=false:=hS;rw [h11] at H;refine nI bI 4 (c:=[slc (bs[0]?.map (·.2.2)) W,slc (bs[1]?.map (·.2.2)) W]) (vs:=[_]) [slc ((bs++[(fO,0,E.2)])[0]?.map (·.2.2)) W,slc ((bs++[(fO,0,E.2)])[1]?.map (·.2.2)) W] H wn rfl rfl rfl rfl rfl rfl (Eq.mpr Nat.ble_eq (by simp only [jB,List.length_nil];omega)) (by rw [eP,Nat.mul_one,<- hbs];exact aer V) ?_;clear H;intro w H;exact aB ⟨O,E,_,H,hV.unit O⟩
  clear H;intro S E T1 a w hall H hV;have H:=H.weak (T:=_) hV.1;obtain ⟨br,bq⟩:=E
  have e:nD fO b7 b8 b9 M W x6 bs (S 4) (S 7) (S 9) (S 11) (br,bq)=nD fO b7 b8 b9 M W x6 bs true true true true (br,bq):=by
   rw [hall 4 Y,hall 7 Y,hall 9 Y,hall 11 Y]
  have H:=H.cast e;have H:=H.acg V;subst hx6;refine K2 _ _ ?_;clear K2;refine kP H (SC (Rd O (Rm O ?_)));clear H;intro a H;refine aB ?_;refine aX ((s+1,bs++[(fO,br,bq)])) (by exact H.sub ⟨O,O,O,O,O,O,O,O,aH⟩) ?_
  (try dsimp only);exact ⟨V,by simp [hbs]⟩
 intro gK a H
 try have p25:=dF gK
 refine bQ ?_;refine K1 _ _ ?_;clear K1;refine fT (fun _ K1=>?_);refine fT (fun _ K2=>?_)
 obtain rfl:s=2:=by omega
 obtain ⟨⟨c0,r0,q0⟩,⟨c1,r1,q1⟩,rfl⟩:∃ x y,bs=[x,y]:=by
  match bs,hbs with
  | [x,y],_=>exact ⟨x,y,O⟩
 rw [acn] at H;have H:St _ _ _ _ _ _ ([_,bT b7 (vi 0) (fc (pair c0 c1 0) M) (fc (pair c0 c1 1) M) (vi W),bA b8 (fc (pair r0 r1 0) W) (fc (pair r0 r1 1) W),bA b9 (fc (pair q0 q1 0) W) (fc (pair q0 q1 1) W)]++wk (pair c0 c1) (pair r0 r1) (pair q0 q1) _ _ _) _ _ _:=H
 generalize pair c0 c1=C at H
 generalize pair r0 r1=rN0 at H
 generalize pair q0 q1=qN0 at H
 have hsb:=fun i k=>zK vw hwb ((la.length - i)+(lb.length - k)) i k (aV _);refine kP H (SC (Rm O (Rl bV O (cO K2 O (SB ?_)))));clear H K2;intro a H;skip;refine dz (ι:=Nat × (Nat->Nat) × (Nat->Nat) × (Nat->List aj) × (Nat->List Int) × (Nat->List Int) × GH) (Tc:=[(0,_),(1,_),(2,_),(6,_),(7,_),(8,_),(9,_)]) (Lc:=[(_,_),(_,_)]) (fun gh=>[(11,vi ((gh.1:Int) - 1))]) (fun gh=>[bA b8 (fc (gh.2.1 0) W) (fc (gh.2.1 1) W),bA b9 (fc (gh.2.2.1 0) W) (fc (gh.2.2.1 1) W)]++wk C gh.2.1 gh.2.2.1 gh.2.2.2.1 gh.2.2.2.2.1 gh.2.2.2.2.2.1) (fun gh=>gh.2.2.2.2.2.2) (fun gh=>gh.1<=la.length+1∧(∀ t,t < 2->(gh.2.2.2.1 t).length=M)∧(∀ t,t < 2->(gh.2.2.2.2.1 t).length=W)∧(∀ t,t < 2->(gh.2.2.2.2.2.1 t).length=W)∧(gh.1<=la.length->Af (dJ la lb gh.1) W 0 gh.2.2.2.2.2.1)∧(∀ b o,G b=some o->gh.2.2.2.2.2.2 b=some o)) (fun gh=>gh.1) ((la.length+1,rN0,qN0,fun _=>List.replicate M (.int .u8 0),fun _=>List.replicate W 0,fun _=>List.replicate W 0,G)) (by exact (show St _ _ _ _ _ _ _ ((11,vi (((la.length+1:Nat):Int) - 1)) :: _) _ _ from by rw [show (((la.length+1:Nat):Int) - 1)=(la.length:Int) by omega];exact H).sub ⟨O,O,O,O,O,O,O,O,aH⟩) ?_ ?_
 ·exact ⟨aV _,fun t _=>List.length_replicate ..,fun t _=>List.length_replicate ..,fun t _=>List.length_replicate ..,fun h=>absurd h V,fun _ _ h=>h⟩
 clear H;rintro ⟨j,rN,qN,X,R,Q,g⟩ a w hI H;dsimp only at hI H;obtain ⟨hj,hX,hR,hQ,QY,hgm⟩:=hI;dsimp only [lca,bR] at H;refine kP H (SQ fun _ K2=>SR fun _ K4=>Rm O (Rc O (Kz K4 (Cd O ?_ ?_)))) <;> clear H K4
 ·intro jE a H
  try have p51:=dT jE
  obtain ⟨i,rfl⟩:∃ i,j=i+1:=⟨j - 1,V⟩;rw [show (((i+1:Nat):Int) - 1)=(i:Int) by omega] at H;refine kP H (Kc K2 (SQ fun _ K4=>SB (SQ fun _ K5=>SR fun _ K6=>Rm O (Rl bV O (Ra O ?_)))));clear H K2;intro a H;rw [show (lb.length:Int)=((W:Int) - 1) by omega] at H;refine K6 _ _ ?_;clear K6;refine uP ?_;skip;refine dz (ι:=Nat × (Nat->List aj) × (Nat->List Int) × GH) (Tc:=[(0,_),(1,_),(2,_),(6,_),(7,_),(8,_),(9,_),(11,_)]) (Lc:=[(_,_),(_,_),(_,_),(_,_)]) (fun gh=>[(12,vi ((gh.1:Int) - 1))]) (fun gh=>[]++wk C rN qN gh.2.1 gh.2.2.1 Q) (fun gh=>gh.2.2.2) (fun gh=>gh.1<=W∧(∀ t,t < 2->(gh.2.1 t).length=M)∧Af (dJ la lb i) W gh.1 gh.2.2.1∧(∀ b o,G b=some o->gh.2.2.2 b=some o)) (fun gh=>gh.1) ((W,X,R,g)) (by exact H.sub ⟨O,O,O,O,O,O,O,O,O,aH⟩) ?_ ?_
  ·exact ⟨aV _,hX,fun t ht=>⟨hR t ht,fun k' h1 h2=>absurd h2 V⟩,hgm⟩
  clear H;rintro ⟨q,X2,R2,g2⟩ a w hI H;dsimp only at hI H;obtain ⟨hq,hX2,hR2,fE⟩:=hI;dsimp only [lca,bR] at H;refine kP H (SQ fun _ K2=>SR fun _ K6=>Rm O (Rc O (Kz K6 (Cd O ?_ ?_)))) <;> clear H K6
  ·intro h57 a H
   try have p57:=dT h57
   obtain ⟨k,rfl⟩:∃ k,q=k+1:=⟨q - 1,V⟩;rw [show (((k+1:Nat):Int) - 1)=(k:Int) by omega] at H
   have hkW:k < W:=by omega
   refine kP H (Kc K2 (SQ fun _ K6=>SB (SR fun _ K7=>Rm O (Kz K7 (SB ?_)))));clear H K2 K7;intro a H;skip;refine dz (ι:=Nat × (Nat->List aj) × (Nat->List Int) × GH) (Tc:=[(0,_),(1,_),(2,_),(6,_),(7,_),(8,_),(9,_),(11,_),(12,_)]) (Lc:=[(_,_),(_,_),(_,_),(_,_)]) (fun gh=>[(60,vi gh.1)]) (fun gh=>[]++wk C rN qN gh.2.1 gh.2.2.1 Q) (fun gh=>gh.2.2.2) (fun gh=>gh.1<=2∧(∀ t,t < 2->(gh.2.1 t).length=M)∧ql (dJ la lb i) W k gh.1 gh.2.2.1∧(∀ b o,G b=some o->gh.2.2.2 b=some o)) (fun gh=>2 - gh.1) ((0,X2,R2,g2)) (by exact H.sub ⟨O,O,O,O,O,O,O,O,O,O,aH⟩) ?_ ?_
   ·exact ⟨dO _,hX2,ql.open hR2,fE⟩
   clear H;rintro ⟨s,X3,R3,g3⟩ a w hI H;dsimp only at hI H;obtain ⟨hs,jV,hmid,nC⟩:=hI;dsimp only [lca,bR] at H;refine kP H (SR fun _ K2=>Rc O (Kz K2 (SQ fun _ K7=>Cd O ?_ ?_))) <;> clear H K2
   ·intro Ij a H
    try have p61:=dT Ij
    have hs2:s < 2:=by omega
    have wC:i*W+k < M:=by
     have:=Nat.mul_le_mul_right W (show i<=la.length by omega);rw [hM,Nat.succ_mul];omega
    have aho:=hsb i (k+1);have ahp:=hsb (i+1) k;have ahq:=hsb (i+1) (k+1);refine kP H (Kc K7 (SQ fun _ K2=>SB (SR fun _ K8=>Rm O (au K8 O (SR fun _ K9=>Rm O (Rm O (Rs O ?_)))))));clear H K7 K8;intro a H;refine wV 0 H wn O O (Int.zero_mul _) Y Y O ?_;clear H;intro a H;refine kH H (au K9 O (SQ fun _ K7=>SR fun _ K8=>Rm O (Rm O (Rl bV O (Rc O (Kz K8 (Cd O ?_ ?_))))))) <;> clear H K9 K8
    ·intro gL a H
     try have p70:=dT gL
     refine kP H (SR fun _ K8=>au K8 O (SQ fun _ K9=>SR fun _ Ab=>Rm O (Rm O (Rl bV O (Rc O (Kz Ab (Cd O ?_ ?_))))))) <;> clear H K8 Ab
     ·intro Im a H
      try have p74:=dT Im
      refine qw ?_;refine mQ oQ bI 1 H wn O O O Y O ?_;clear H;intro a H;refine kH H (Ro bI 2 O (Rm O (Rd O ?_)));clear H;intro a H;refine bO bP aG (k+1) H wn O O V V O ?_;clear H;intro a H;refine iF aG H wn O (H.hp.jh 8 O (by rw [eP,Nat.mul_one];exact pI ((hmid.1 1 Y).2 (k+1) (aV _) V))) O ?_;clear H;intro a H;refine kH H (Rm O (Rs O ?_));clear H;intro a H;rw [Int.sub_zero] at H;refine kH H (cO K9 O (SR fun _ K8=>Rm O ?_));clear H K9;intro a H;refine mQ oQ bI s H wn O O O hs2 O ?_;clear H;intro a H;refine iF bI H wn O (H.hp.jh 2 O (xq (x:=fun t=>fc (rN t) W) hs2)) O ?_;clear H;intro a H;refine kH H (Rm O (Rm O (Rm O (Rm O ?_))));clear H;intro a H;have H:=H.xB hs2;refine jR vW (Li:=[_,_,_]++mo C rN qN X3 R3 Q s) (L:=[_,_,_]) H wn O (wX 3 _ (Hp.owns (Li:=[_,_,_]++mo C rN qN X3 R3 Q s) H.hp) hs2 (vS (x:=fun t=>fc (C t) M) hs2) hkW (hmid.1 s hs2).1 (jV s hs2) wC V V V) O ?_;clear H;rintro v90 G4 VG a w rfl Jc H;have wB:∀ b o,G b=some o->G4 b=some o:=fun b o h=>Jc b o (nC b o h)
      obtain ⟨X4,R4,wo,wm,H⟩:=St.xC hs2 hmid hkW jV (by first
       | exact (mU V).symm
       | (rw [mU (k:=k) V];exact mU V)) (by rw [List.length_set];exact jV s hs2) H
      refine K8 _ _ ?_;clear K8;refine bQ ?_;refine K2 _ _ ?_;clear K2;refine kP H (SC (Rd O (Rm O ?_)));clear H;intro a H;refine aB ?_;refine aX ((s+1,X4,R4,G4)) (by exact H.sub ⟨O,O,O,O,O,O,O,O,O,O,aH⟩) ?_
      (try dsimp only);exact vO
     intro Im a H
     try have p74:=dF Im
     refine kP H (Kc K9 (SR fun _ K8=>Rm O ?_));clear H K9;intro a H;refine mQ oQ bI s H wn O O O hs2 O ?_;clear H;intro a H;refine iF bI H wn O (H.hp.jh 2 O (xq (x:=fun t=>fc (rN t) W) hs2)) O ?_;clear H;intro a H;refine kH H (Rm O (Rm O (Rm O (Rm O ?_))));clear H;intro a H;have H:=H.xB hs2;refine jR vW (Li:=[_,_,_]++mo C rN qN X3 R3 Q s) (L:=[_,_,_]) H wn O (wX 3 _ (Hp.owns (Li:=[_,_,_]++mo C rN qN X3 R3 Q s) H.hp) hs2 (vS (x:=fun t=>fc (C t) M) hs2) hkW (hmid.1 s hs2).1 (jV s hs2) wC V V V) O ?_;clear H;rintro v90 G4 VG a w rfl Jc H;have wB:∀ b o,G b=some o->G4 b=some o:=fun b o h=>Jc b o (nC b o h)
     obtain ⟨X4,R4,wo,wm,H⟩:=St.xC hs2 hmid hkW jV (by first
      | exact (mU V).symm
      | (rw [mU (k:=k) V];exact mU V)) (by rw [List.length_set];exact jV s hs2) H
     refine K8 _ _ ?_;clear K8;refine bQ ?_;refine K2 _ _ ?_;clear K2;refine kP H (SC (Rd O (Rm O ?_)));clear H;intro a H;refine aB ?_;refine aX ((s+1,X4,R4,G4)) (by exact H.sub ⟨O,O,O,O,O,O,O,O,O,O,aH⟩) ?_
     (try dsimp only);exact vO
    intro gL a H
    try have p70:=dF gL
    have hi2:i < la.length:=by omega
    have Ed:=QY V;refine kI ?_;refine K7 _ _ ?_;clear K7;refine iV (fun _ K7=>?_);refine mQ oQ bI 1 H wn O O O Y O ?_;clear H;intro a H;refine kH H (Ro bI 3 O (Rm O ?_));clear H;intro a H;refine bO bP aG k H wn O O O V O ?_;clear H;intro a H;refine iF aG H wn O (H.hp.jh 9 O (by rw [eP,Nat.mul_one];exact pI ((Ed 1 Y).2 k (dO _) hkW))) O ?_;clear H;intro a H;refine kH H (Rm O (Rs O ?_));clear H;intro a H;rw [Int.sub_zero] at H;refine kH H (Ra O (au K7 O (SQ fun _ K8=>SR fun _ K9=>Rm O (Rm O (Rl bV O (Rc O (Kz K9 (Cd O ?_ ?_)))))))) <;> clear H K7 K9
    ·intro yL a H
     try have Tg:=dT yL
     have hk3:k < lb.length:=by omega
     obtain ⟨mx,ahm⟩:∃ mx,mx=max (dJ la lb (i+1) k) (dJ la lb i (k+1)):=⟨_,O⟩;obtain ⟨ab,ao,rfl,hra⟩:=xk hv hi2;obtain ⟨bb,bo,rfl,hrb⟩:=xk hu hk3
     have hwt:1<=iR la[i] lb[k]∧iR la[i] lb[k]<=1000:=by
      have h4:=vw _ (dK hi2);have h5:=hwb _ (dK hk3)
      unfold iR;omega
     have hra:=fun j v hj=>aK nC (hra j v hj);have hrb:=fun j v hj=>aK nC (hrb j v hj);refine fT (fun _ K7=>?_);refine iV (fun _ K9=>?_);refine mQ oQ bI 1 H wn O O O Y O ?_;clear H;intro a H;refine kH H (Ro bI 2 O (Rm O (Rd O ?_)));clear H;intro a H;refine bO bP aG (k+1) H wn O O V V O ?_;clear H;intro a H;refine iF aG H wn O (H.hp.jh 8 O (by rw [eP,Nat.mul_one];exact pI ((hmid.1 1 Y).2 (k+1) (aV _) V))) O ?_;clear H;intro a H;refine kH H (Rm O (Rs O ?_));clear H;intro a H;rw [Int.sub_zero] at H;refine kH H (au K9 O (SR fun _ Ab=>Rm O (Rm O (Rc O (Kz Ab (Cd O ?_ ?_)))))) <;> clear H K9 Ab
     ·intro h112 a H
      try have acP:=dT h112
      rw [show dJ la lb i (k+1)=mx by omega] at H;refine kP H (SC (Rm O (Ra O (cO K7 O (SQ fun _ K9=>?_)))));clear H K7;intro a H;refine dI fF [[],[0],[],[2],ra 0 4,ra 0 5,[],[],[6,7],[6,7,8],[],[],[10,11],[10,11,12],ra 6 8,ra 0 15,ra 0 16] [] Z [(aD b9 (0+0*1)),fc (qN 0) W,vi k,vi ((k:Int)+1),(aD (qN 0) (0+(k+1)*1)),vi (dJ la lb (i+1) (k+1)),.slice (some ⟨ab,ao,none⟩) la.length vc,vi i,(aD ab (ao+i*2)),.agg #[vi la[i].key,vi la[i].weight],.slice (some ⟨bb,bo,none⟩) lb.length uc,vi k,(aD bb (bo+k*2)),.agg #[vi lb[k].key,vi lb[k].weight],vi (iR la[i] lb[k]),vi (dJ la lb (i+1) (k+1)+iR la[i] lb[k]),vi (dJ la lb (i+1) (k+1)+iR la[i] lb[k])] H (aF ?_ ?_ ?_ ?_ (aF ?_ ?_ ?_ ?_ (aF ?_ ?_ ?_ ?_ (aF ?_ ?_ ?_ ?_ (gN ?_ fB))))) ?_
      ·exact Ni
      ·exact Nb
      ·exact aO
      ·exact Oi
      ·exact NV
      ·exact ML
      ·exact aO
      ·exact aO
      ·exact NW
      ·exact MP
      ·exact aO
      ·exact aO
      ·exact NS
      ·exact MO
      ·exact Ov
      ·exact NT
      ·exact Oc
      clear H;intro a w G wh H hv;have H:=H.ak (hv 16 19 O O) O;clear hv;refine aB ⟨O,?_⟩;refine K9 _ _ ?_;clear K9;refine fT (fun _ K7=>?_);have wL:=fun j v hj=>aK wh (hra j v hj);have RG:=fun j v hj=>aK wh (hrb j v hj);have Rh:=fun b o h=>wh b o (nC b o h)
      by_cases c0:la[i].key=lb[k].key
      ·exact NH
      skip;refine dI fF [[],[],[0,1],[0,1,2],ra 0 4,[],[],[5,6],[5,6,7],ra 5 4,ra 0 10,ra 0 11,ra 0 12,ra 0 12,ra 0 14,ra 0 15] [] Z [.slice (some ⟨ab,ao,none⟩) la.length vc,vi i,(aD ab (ao+i*2)),(aD ab (ao+i*2+0)),vi la[i].key,.slice (some ⟨bb,bo,none⟩) lb.length uc,vi k,(aD bb (bo+k*2)),(aD bb (bo+k*2+0)),vi lb[k].key,.bool (decide (la[i].key=lb[k].key)),.bool (decide (la[i].key=lb[k].key)),undef,undef,undef,.bool false] H (aF ?_ ?_ ?_ ?_ (aF ?_ ?_ ?_ ?_ (aF ?_ ?_ ?_ ?_ (aF (fq 11 (dU c0) O O) (fq 11 (dU c0) O O) (fq 11 (dU c0) O O) ?_ fB)))) ?_
      ·exact aO
      ·exact aO
      ·exact NK
      ·exact Dr
      ·exact Dp
      ·exact aO
      ·exact aO
      ·exact NM
      ·exact Dt
      ·exact Dq
      ·exact Dn
      ·exact NQ
      ·exact MQ
      clear H;intro a w G Eb H hv;have H:=H.ak (hv 15 145 O O) O;clear hv;refine aB ⟨O,?_⟩;refine K7 _ _ ?_;clear K7;refine rD H O O ?_;refine kI ?_;refine K8 _ _ ?_;clear K8
      exact Al
      refine kP H (SC (Rm O ?_));clear H;intro a H;refine mQ oQ bI s H wn O O O hs2 O ?_;clear H;intro a H;refine iF bI H wn O (H.hp.jh 2 O (xq (x:=fun t=>fc (rN t) W) hs2)) O ?_;clear H;intro a H;refine kH H (Rm O (Rm O (Rm O (Rm O (Rm O ?_)))));clear H;intro a H;have H:=H.xB hs2;refine jR vW (Li:=[_,_,_]++mo C rN qN X3 R3 Q s) (L:=[_,_,_]) H wn O (wX _ _ (Hp.owns (Li:=[_,_,_]++mo C rN qN X3 R3 Q s) H.hp) hs2 (vS (x:=fun t=>fc (C t) M) hs2) hkW (hmid.1 s hs2).1 (jV s hs2) wC V V V) O ?_;clear H;rintro Fv G4 CG a w rfl tN H;have wB:=fun b o h=>tN b o (yT b o h)
      obtain ⟨X4,R4,wo,wm,H⟩:=St.xC hs2 hmid hkW jV (by first|omega|(rw [uf hi2 hk3];split <;> omega)) (by rw [List.length_set];exact jV s hs2) H
      refine kH H (Kn K2 (SC (Rd O (Rm O ?_))));clear H K2;intro a H;refine aB ?_;refine aX ((s+1,X4,R4,G4)) (by exact H.sub ⟨O,O,O,O,O,O,O,O,O,O,aH⟩) ?_
      (try dsimp only);exact vO
     intro h112 a H
     try have acP:=dF h112
     rw [show dJ la lb (i+1) k=mx by omega] at H;refine kI ?_;refine K7 _ _ ?_;clear K7;refine fT (fun _ K7=>?_);refine dI fF [[],[0],[],[2],ra 0 4,ra 0 5,[],[],[6,7],[6,7,8],[],[],[10,11],[10,11,12],ra 6 8,ra 0 15,ra 0 16] [] Z [(aD b9 (0+0*1)),fc (qN 0) W,vi k,vi ((k:Int)+1),(aD (qN 0) (0+(k+1)*1)),vi (dJ la lb (i+1) (k+1)),.slice (some ⟨ab,ao,none⟩) la.length vc,vi i,(aD ab (ao+i*2)),.agg #[vi la[i].key,vi la[i].weight],.slice (some ⟨bb,bo,none⟩) lb.length uc,vi k,(aD bb (bo+k*2)),.agg #[vi lb[k].key,vi lb[k].weight],vi (iR la[i] lb[k]),vi (dJ la lb (i+1) (k+1)+iR la[i] lb[k]),vi (dJ la lb (i+1) (k+1)+iR la[i] lb[k])] H (aF ?_ ?_ ?_ ?_ (aF ?_ ?_ ?_ ?_ (aF ?_ ?_ ?_ ?_ (aF ?_ ?_ ?_ ?_ (gN ?_ fB))))) ?_
     ·exact Ni
     ·exact Nb
     ·exact aO
     ·exact Oi
     ·exact NV
     ·exact ML
     ·exact aO
     ·exact aO
     ·exact NW
     ·exact MP
     ·exact aO
     ·exact aO
     ·exact NS
     ·exact MO
     ·exact Ov
     ·exact NT
     ·exact Oc
     clear H;intro a w G wh H hv;have H:=H.ak (hv 16 19 O O) O;clear hv;refine aB ⟨O,?_⟩;refine K7 _ _ ?_;clear K7;refine fT (fun _ K7=>?_);have wL:=fun j v hj=>aK wh (hra j v hj);have RG:=fun j v hj=>aK wh (hrb j v hj);have Rh:=fun b o h=>wh b o (nC b o h)
     by_cases c0:la[i].key=lb[k].key
     ·exact NH
     skip;refine dI fF [[],[],[0,1],[0,1,2],ra 0 4,[],[],[5,6],[5,6,7],ra 5 4,ra 0 10,ra 0 11,ra 0 12,ra 0 12,ra 0 14,ra 0 15] [] Z [.slice (some ⟨ab,ao,none⟩) la.length vc,vi i,(aD ab (ao+i*2)),(aD ab (ao+i*2+0)),vi la[i].key,.slice (some ⟨bb,bo,none⟩) lb.length uc,vi k,(aD bb (bo+k*2)),(aD bb (bo+k*2+0)),vi lb[k].key,.bool (decide (la[i].key=lb[k].key)),.bool (decide (la[i].key=lb[k].key)),undef,undef,undef,.bool false] H (aF ?_ ?_ ?_ ?_ (aF ?_ ?_ ?_ ?_ (aF ?_ ?_ ?_ ?_ (aF (fq 11 (dU c0) O O) (fq 11 (dU c0) O O) (fq 11 (dU c0) O O) ?_ fB)))) ?_
     ·exact aO
     ·exact aO
     ·exact NK
     ·exact Dr
     ·exact Dp
     ·exact aO
     ·exact aO
     ·exact NM
     ·exact Dt
     ·exact Dq
     ·exact Dn
     ·exact NQ
     ·exact MQ
     clear H;intro a w G Eb H hv;have H:=H.ak (hv 15 145 O O) O;clear hv;refine aB ⟨O,?_⟩;refine K7 _ _ ?_;clear K7;refine rD H O O ?_;refine kI ?_;refine K8 _ _ ?_;clear K8
     exact Al
     refine kP H (SC (Rm O ?_));clear H;intro a H;refine mQ oQ bI s H wn O O O hs2 O ?_;clear H;intro a H;refine iF bI H wn O (H.hp.jh 2 O (xq (x:=fun t=>fc (rN t) W) hs2)) O ?_;clear H;intro a H;refine kH H (Rm O (Rm O (Rm O (Rm O (Rm O ?_)))));clear H;intro a H;have H:=H.xB hs2;refine jR vW (Li:=[_,_,_]++mo C rN qN X3 R3 Q s) (L:=[_,_,_]) H wn O (wX _ _ (Hp.owns (Li:=[_,_,_]++mo C rN qN X3 R3 Q s) H.hp) hs2 (vS (x:=fun t=>fc (C t) M) hs2) hkW (hmid.1 s hs2).1 (jV s hs2) wC V V V) O ?_;clear H;rintro Fv G4 CG a w rfl tN H;have wB:=fun b o h=>tN b o (yT b o h)
     obtain ⟨X4,R4,wo,wm,H⟩:=St.xC hs2 hmid hkW jV (by first|omega|(rw [uf hi2 hk3];split <;> omega)) (by rw [List.length_set];exact jV s hs2) H
     refine kH H (Kn K2 (SC (Rd O (Rm O ?_))));clear H K2;intro a H;refine aB ?_;refine aX ((s+1,X4,R4,G4)) (by exact H.sub ⟨O,O,O,O,O,O,O,O,O,O,aH⟩) ?_
     (try dsimp only);exact vO
    intro yL a H
    try have Tg:=dF yL
    have hse:=Kg (a:=la) (b:=lb) (k:=k) hi2 V;refine kI ?_;refine K8 _ _ ?_;clear K8
    exact Al
    refine kP H (SC (Rm O ?_));clear H;intro a H;refine mQ oQ bI s H wn O O O hs2 O ?_;clear H;intro a H;refine iF bI H wn O (H.hp.jh 2 O (xq (x:=fun t=>fc (rN t) W) hs2)) O ?_;clear H;intro a H;refine kH H (Rm O (Rm O (Rm O (Rm O (Rm O ?_)))));clear H;intro a H;have H:=H.xB hs2;refine jR vW (Li:=[_,_,_]++mo C rN qN X3 R3 Q s) (L:=[_,_,_]) H wn O (wX _ _ (Hp.owns (Li:=[_,_,_]++mo C rN qN X3 R3 Q s) H.hp) hs2 (vS (x:=fun t=>fc (C t) M) hs2) hkW (hmid.1 s hs2).1 (jV s hs2) wC V V V) O ?_;clear H;rintro Fv G4 CG a w rfl tN H;have wB:=fun b o h=>tN b o (yT b o h)
    obtain ⟨X4,R4,wo,wm,H⟩:=St.xC hs2 hmid hkW jV (by first|omega|(rw [uf hi2 hk3];split <;> omega)) (by rw [List.length_set];exact jV s hs2) H
    refine kH H (Kn K2 (SC (Rd O (Rm O ?_))));clear H K2;intro a H;refine aB ?_;refine aX ((s+1,X4,R4,G4)) (by exact H.sub ⟨O,O,O,O,O,O,O,O,O,O,aH⟩) ?_
    (try dsimp only);exact vO
   intro Ij a H
   try have p61:=dF Ij
   refine bQ ?_;refine K6 _ _ ?_;clear K6;refine kP H (SC (Rm O (Rs O (Ra O ?_))));clear H;intro a H;refine aB ?_;refine aX ((k,X3,R3,g3)) (by exact H.sub ⟨O,O,O,O,O,O,O,O,O,aH⟩) ?_
   try dsimp only
   exact ⟨V,jV,by
    obtain rfl:s=2:=by omega
    exact hmid.close,nC⟩
  intro h57 a H
  try have p57:=dF h57
  refine bQ ?_;refine K5 _ _ ?_;clear K5;refine qw ?_;refine dL zS (cs:=[_,_]) H wn O O (H.hp.dw 3 O O) O ?_;clear H;intro a H;refine dL zS (cs:=[_,_]) H wn O O (H.hp.dw 2 O O) O ?_;clear H;intro a H;refine eZ zS 2 (vs:=[_,_]) H wn O ?_;clear H;intro w H;refine eZ zS 3 (vs:=[_,_]) H wn O ?_;clear H;intro w H;refine kH H (Kn K4 (SC (Rm O (Rs O (Ra O ?_)))));clear H K4;intro a H;refine aB ?_;refine aX ((i,qN,rN,X2,Q,R2,g2)) (by exact H.afL.sub ⟨O,O,O,O,O,O,O,O,aH⟩) ?_
  try dsimp only
  exact ⟨V,hX2,fun t ht=>hQ t ht,fun t ht=>(hR2 t ht).1,fun _=>by
   obtain rfl:q=0:=by omega
   exact hR2,fE⟩
 intro jE a H
 try have p51:=dF jE
 refine bQ ?_;refine K1 _ _ ?_;clear K1;refine fT (fun _ K1=>?_)
 obtain rfl:j=0:=by omega
 have Ed:=QY (dO _);refine qw ?_;refine mQ oQ bI 0 H wn O O O Y O ?_;clear H;intro a H;refine kH H (Ro bI 3 O ?_);clear H;intro a H;refine bO bP aG 0 H wn O O O V O ?_;clear H;intro a H;refine iF aG H wn O (H.hp.jh 6 O (by rw [eP,Nat.zero_mul];exact pI ((Ed 0 Y).2 0 (aV _) V))) O ?_;clear H;intro a H;refine kH H (Rf Zv O ?_);clear H;intro a H;refine eZ aG 1 (vs:=[_]) H wn O ?_;clear H;intro w H;refine aB ?_;refine K1 _ _ ?_;clear K1;refine iV (fun _ K1=>?_);refine dL zQ (cs:=[_,_,_,_]) H wn O O (H.hp.dw 1 O O) O ?_;clear H;intro a H;refine eZ zQ 0 (vs:=[_,_,_,_]) H wn O ?_;clear H;intro w H;refine K1 _ _ ?_;clear K1;refine bN ?_;refine (leave1 H results44 (.cons (adx zQ (cs:=[_,_,_,_]) H O O (H.hp.dw 0 O O)) .nil) ?_).1;exact H.rt ⟨_,_,_,O⟩
end
theorem Yv:bD 41:=bH func41 O
theorem KW:prog.underlying 79=some (.map 9 3):=by kernel_rfl
theorem DN:fu prog 103 0 0:=⟨Z⟩
theorem ug:ow prog 60 [(0,1),(1,1)] [.int .i64 0,.int .i64 0]:=⟨Z,Z⟩
def oM:Nat->List ByteArray->List MapEntry
 | _,[]=>[]
 | i,k :: r=>⟨.string k,vi ((i+1:Nat):Int),i⟩ :: oM (i+1) r
theorem Sy:∀ (i:Nat) (l:List ByteArray),(oM i l).length=l.length
 | _,[]=>rfl
 | i,_ :: r=>by simp [oM,Sy (i+1) r]
theorem Sz (x:ByteArray):∀ (i:Nat) (l:List ByteArray),oM i (l++[x])=oM i l++[⟨.string x,vi ((i+l.length+1:Nat):Int),i+l.length⟩]
 | _,[]=>rfl
 | i,k :: r=>by
  rw [lJ,oM,Sz x (i+1) r,oM,lJ,jB,show i+1+r.length=i+(r.length+1) by omega]
def kX (s:ByteArray):Nat->List ByteArray->Option Nat
 | _,[]=>none
 | i,k :: r=>if k=s then some (i+1) else kX s (i+1) r
theorem QG (s:ByteArray):∀ (i j:Nat) (l:List ByteArray),Instr.findNow .string (.string s) (oM i l) j=some ((kX s i l).map fun n=>(j+(n - 1 - i),vi (n:Int)))
  | _,_,[]=>rfl
  | i,j,k :: r=>by
    have ih:=QG s (i+1) (j+1) r
    have hk:∀ (l:List ByteArray) (i n:Nat),kX s i l=some n->i < n:=by
      intro l
      induction l with
      | nil=>intro i n h;cases h
      | cons a t ih=>intro i n h;rw [kX] at h;split at h
                       · cases h;omega
                       have:=ih _ _ h;omega
    by_cases e:k=s
    · subst e;have hb:(k == k)=true:=(MapKept.bytes_beq k k).2 O
      simp only [oM,Instr.findNow,Instr.sameNow,hb,kX,aM]
      simp
    have hb:(s == k)=false:=by
      cases h:(s == k) with
      | false=>rfl
      | true=>exact absurd ((MapKept.bytes_beq s k).1 h).symm e
    simp only [oM,Instr.findNow,Instr.sameNow,hb,kX,aL e,ih]
    cases h:kX s (i+1) r with
    | none=>rfl
    | some n =>
      have:=hk _ _ _ h
      simp only [oF,jL,dX,and_true]
      omega
def wN (l:List ByteArray) (s:ByteArray):Nat:=(kX s 0 l).getD (l.length+1)
def qI (l:List ByteArray) (s:ByteArray):List ByteArray:=if (kX s 0 l).isSome then l else l++[s]
def jk (t:dN):Int:=if t.kind=3 then 1 else min (t.to - t.from_) 1000
def lZ (q:List bJ × List ByteArray) (x:dN × ByteArray):List bJ × List ByteArray:=(q.1++[⟨(wN q.2 x.2:Nat),jk x.1⟩],qI q.2 x.2)
def bW (l:List (dN × ByteArray)) (ks:List ByteArray):List bJ × List ByteArray:=l.foldl lZ ([],ks)
theorem Ck {l:List (dN × ByteArray)} {k:Nat} (h:k < l.length) (ks:List ByteArray):bW (l.take (k+1)) ks=lZ (bW (l.take k) ks) l[k]:=by
 rw [bW,kg h,List.foldl_append];rfl
theorem abZ (l:List ByteArray) (s:ByteArray):(qI l s).length<=l.length+1:=by
 unfold qI;split
 ·omega
 simp
theorem rY (l:List (dN × ByteArray)) (ks:List ByteArray):∀ k,k<=l.length->(bW (l.take k) ks).1.length=k∧(bW (l.take k) ks).2.length<=ks.length+k
 | 0,_=>by simp [bW]
 | k+1,h=>by
  have ih:=rY l ks k V;have h2:=abZ (bW (l.take k) ks).2 l[k].2;rw [Ck V]
  simp only [lZ,gW,List.length_singleton]
  omega
def aY (s:ByteArray):List (dN × ByteArray):=(gZ (cu s)).map fun t=>(t,pW s t)
def iL (l:List bJ):List aj:=(l.map fun x=>[vi x.key,vi x.weight]).flatten
theorem UM (G:GH):∀ (B A:List bJ),bU G 2 (A.map bJ.dat) (iL A)->bU G 2 ((A++B).map bJ.dat) (iL (A++B))
 | [],A,h=>by rw [kr];exact h
 | x :: B,A,h=>by
  have h2:=h.snoc (afe G x) O;have h3:=UM G B (A++[x]) (by simpa [iL] using h2)
  simpa using h3
theorem KA (G:GH) (A:List bJ):bU G 2 (A.map bJ.dat) (iL A):=UM G A [] bU.nil
abbrev xS (b:Nat) (l:List ByteArray):Nat × Obj:=(b,.map (oM 0 l).toArray l.length)
theorem map_push (l:List ByteArray) (x:ByteArray):(oM 0 l).toArray.push ⟨.string x,vi ((l.length+1:Nat):Int),l.length⟩=(oM 0 (l++[x])).toArray:=by
 rw [Sz,List.push_toArray,eP]
def mV (l:List (dN × ByteArray)) (ks:List ByteArray) (k:Nat):List bJ:=(bW (l.take k) ks).1.take 2048
theorem afb (l:List (dN × ByteArray)) (ks:List ByteArray) {k:Nat} (h:k<=l.length):(mV l ks k).length=min k 2048:=by
 rw [mV,List.length_take,(rY l ks k h).1];omega
theorem UL {l:List (dN × ByteArray)} {ks:List ByteArray} {k:Nat} (h:k < l.length) (hk:k < 2048) {x:bJ} (hx:(bW (l.take (k+1)) ks).1=(bW (l.take k) ks).1++[x]):mV l ks (k+1)=mV l ks k++[x]:=by
 have hl:=(rY l ks k V).1;have e1:((bW (l.take k) ks).1++[x]).take 2048=(bW (l.take k) ks).1++[x]:=gX (by rw [gW,List.length_singleton];omega);have e2:((bW (l.take k) ks).1).take 2048=(bW (l.take k) ks).1:=gX V;rw [mV,mV,hx,e1,e2]
theorem afc {l:List (dN × ByteArray)} {ks:List ByteArray} {k:Nat} (h:k < l.length) (hk:2048<=k) {x:bJ} (hx:(bW (l.take (k+1)) ks).1=(bW (l.take k) ks).1++[x]):mV l ks (k+1)=mV l ks k:=by
 have hl:=(rY l ks k V).1;rw [mV,mV,hx,List.take_append_of_le_length V]
theorem EH {e t:Nat} {v:aj} {n n':Nat} {A A':List aj} {Lo:OL} (h:aZ e t v n A Lo) (hn:n=n') (hA:A=A'):aZ e t v n' A' Lo:=by subst hn;subst hA;exact h
theorem Wv {p:Prop} (h:p:=by
 exact ⟨V,EH hrw V (by rw [afc hk1 V Es]),hgm⟩):p:=h
theorem F6 {p:Prop} (h:p:=by
 exact ⟨V,Jo,hgm⟩):p:=h
theorem MK {p:Prop} (h:p:=by
 intro h63 a H
 try have p63:=dT h63
 have hwt:jk t=1:=aM (by simpa using h63);refine kP H (SC (cO K2 O (SC (Rm O (Rm O (Rm O ?_))))));clear H K2;intro a H;refine jQ ug [_,_] H wn O O O O ?_;clear H;intro a H;refine eU bV cK [_,_] [_,_] H wn O O O O O (by intro i q h;match i,h with|0,h=>exact h|n+1,h=>simp at h) O O ?_;clear H;intro jU a w IC H
 first
  | refine dV (Li:=[_,_,_]) (Lo:=Lo) (news:=[vi (kx:Int),vi 1]) bV cK O O H wn O O hrw O (H.hp.dw 0 O O) O V V O ?_
  | refine dV (Li:=[_,_,_]) (Lo:=Lo) (news:=[vi (kx:Int),vi (min (t.to - t.from_) 1000)]) bV cK O O H wn O O hrw O (H.hp.dw 0 O O) O V V O ?_
  | refine dV (Li:=[_,_,_]) (Lo:=Lo) (news:=[vi ((bW ((aY s).take (k+1)) ks).2.length:Int),vi 1]) bV cK O O H wn O O hrw O (H.hp.dw 0 O O) O V V O ?_
  | refine dV (Li:=[_,_,_]) (Lo:=Lo) (news:=[vi ((bW ((aY s).take (k+1)) ks).2.length:Int),vi (min (t.to - t.from_) 1000)]) bV cK O O H wn O O hrw O (H.hp.dw 0 O O) O V V O ?_
 clear H;intro v69 uE a w BI H
 have Jo:aZ 60 2 v69 (min (k+1) 2048) (iL (mV (aY s) ks (k+1))) uE:=by
  refine EH BI V ?_;rw [hon,hwt]
  simp [iL]
 refine kH H (cO K1 O (SC (Rd O (Rm O ?_))));clear H K1;intro a H;refine aB ?_;refine aX ((k+1,v69,uE,g)) (by exact (H.dB (Pl:=[_,_,_]) (bS:=[_]) [2] Y O).sub ⟨O,O,O,O,O,O,aH⟩) ?_
 (try dsimp only);exact F6):p:=h
theorem Ow {p:Prop} (h:p:=by
 intro Bg a H
 try have p54:=dT Bg
 refine bQ ?_;refine K1 _ _ ?_;clear K1;refine kP H (SC (Rd O (Rm O ?_)));clear H;intro a H;refine aB ?_;refine aX ((k+1,.slice vA (min k 2048) vc,Lo,g)) (by exact (H.dB (Pl:=[_,_]) (bS:=[_]) [1] Y O).sub ⟨O,O,O,O,O,O,aH⟩) ?_
 (try dsimp only);exact Wv):p:=h
set_option maxHeartbeats 1000000 in
theorem Ph {G0 G:GH} {w0:World} {bm:Nat} (ks:List ByteArray) (hO:jc G [xS bm ks] w0) (h0:∀ b o,G0 b=some o->G b=some o) (s:ByteArray) (hs:iC G0 s) (hz:s.size<=1073741824) (hks:ks.length<=1099511627776) :
  Calls prog 31 #[.string s,.map (some bm)] w0 (jd w0 G [xS bm ks] fun u G' L'=>L'=[xS bm (bW (aY s) ks).2]∧ay G' (.sl 2 (((bW (aY s) ks).1.take 2048).map bJ.dat)) u):=by
 have hml:maxLen=9223372036854775807:=rfl;have hcl:=yg s
 have hlc:(cu s).length=(kJ s).length:=by simp [cu,eT]
 have htl:=Ch (cu s).length (cu s);rw [show lY (cu s).length (cu s)=gZ (cu s) from rfl] at htl
 have hll:(aY s).length=(gZ (cu s)).length:=by simp [aY]
 have hrl:(eD s).length<=s.size:=zC s s.size 0;refine lS (N:=72) (T:=[(0,_),(1,_)]) func31 O ntmps31 O O hO ?_;intro a H;refine kP H (SR fun _ K1=>au K1 O (SR fun _ K2=>Rm O ?_));clear H K1;intro a H;refine s_call Hq H wn O (Kj _ _ H.ro h0 s hs) O ?_;clear H;rintro v17 Vt a w ⟨x17,rfl,htk⟩ yV H;obtain ⟨tA,tc,rfl,-,-,-⟩:=htk.slice;rw [bG] at *;refine kH H (Rm O ?_);clear H;intro a H;(iterate 2 refine fG H wn O O O ?_;clear H;intro a H);refine kH H (Ra O (au K2 O (SR fun _ K1=>Rm O ?_)));clear H K2;intro a H;refine s_call Yv H wn O (aeG _ _ H.ro (fun b o h=>yV b o (h0 b o h)) s hs) O ?_;clear H;rintro v22 zZ a w ⟨x22,rfl,htx⟩ wD H;obtain ⟨xA,xc,rfl,-,-,-⟩:=htx.slice;rw [bG] at *
 have hlx:(mW s).length=(gZ (cu s)).length:=by simp [mW]
 refine kH H (Rm O ?_);clear H;intro a H;(iterate 2 refine fG H wn O O O ?_;clear H;intro a H);refine kH H (Ra O (au K1 O (SR fun _ K2=>au K2 O (SQ fun _ K3=>SR fun _ K4=>Rm O (Rl sj O (Rm O (Kz K4 (SB ?_))))))));clear H K1 K2 K4;intro a H;skip;refine dz (ι:=Nat × aj × OL × GH) (Tc:=[(1,_),(7,_),(25,_),(26,_)]) (Lc:=[]) (fun gh=>[(9,gh.2.1),(27,vi gh.1)]) (fun gh=>[xS bm (bW ((aY s).take gh.1) ks).2]++gh.2.2.1) (fun gh=>gh.2.2.2) (fun gh=>gh.1<=(aY s).length∧aZ 60 2 gh.2.1 (min gh.1 2048) (iL (mV (aY s) ks gh.1)) gh.2.2.1∧(∀ b o,zZ b=some o->gh.2.2.2 b=some o)) (fun gh=>(aY s).length - gh.1) ((0,.slice none 0 0,[],zZ)) (by exact H.sub ⟨O,O,O,O,O,O,aH⟩) ?_ ?_
 ·exact FZ
 clear H;rintro ⟨k,v,Lo,g⟩ a w hI H;dsimp only at hI H;obtain ⟨hk,hrw,hgm⟩:=hI;dsimp only [lca,bR] at H;refine kP H (SR fun _ K1=>Rc O (Kz K1 (SQ fun _ K2=>Cd O ?_ ?_))) <;> clear H K1
 ·intro gy a H
  try have p28:=dT gy
  have hk1:k < (aY s).length:=by omega
  obtain ⟨b,o,rfl,hrow⟩:=Ky ((htk.mono wD).mono hgm) (show k < (gZ (cu s)).length by omega);obtain ⟨t,ht⟩:∃ t,t=(gZ (cu s))[k]'V:=⟨_,O⟩;have htb:=Fg s t (by rw [ht];exact dK _);rw [<- ht] at hrow;obtain ⟨tb,to,rfl,hrx⟩:=Kk (htx.mono hgm) (show k < (mW s).length by omega)
  have hxt:(mW s)[k]'V=pW s t:=by simp [mW,ht]
  rw [hxt] at hrx
  have hlk:(aY s)[k]=(t,pW s t):=by simp [aY,ht]
  obtain ⟨x,hx⟩:∃ x,x=pW s t:=⟨_,O⟩;rw [<- hx] at hrx hlk;have hst:=Ck hk1 ks;rw [hlk] at hst;have hpl:=rY (aY s) ks k V;obtain ⟨kk,hkk⟩:∃ kk,kk=(bW ((aY s).take k) ks).2:=⟨_,O⟩;rw [<- hkk] at H hpl;obtain ⟨an,han⟩:∃ an,an=kX x 0 kk:=⟨_,O⟩;have hfn:=QG x 0 0 kk;rw [<- han] at hfn;obtain ⟨vA,vc,rfl,BL,BM⟩:=hrw.shape;refine kP H (Kc K2 (SQ fun _ K1=>SB (SR fun _ K4=>Rm O (Ri sj mh O O ?_))));clear H K2;intro a H;refine dL mh (cs:=[_,_,_]) H wn O O (fun j v hj=>H.hp.aQ (hrow j v hj)) O ?_;clear H;intro a H;refine jv mh H wn O ?_;clear H;intro b11 a w Q5 H;refine kH H (Ra O ?_);clear H;intro a H;refine eZ mh 0 (vs:=[_,_,_]) H wn O ?_;clear H;intro w H;refine K4 _ _ ?_;clear K4;refine kP H (SR fun _ K2=>Rm O (Rm O (Rm O (Ri jT iZ O O (Rg iZ O (by assumption) ?_)))));clear H;intro a H;refine adI (i:=1) (zv:=vi 0) _ KW iH Z H wn O O O (by trivial) (by simpa using hfn) O ?_;clear H;intro a H;refine kH H (Rm O ?_);clear H;intro a H;(iterate 2 refine fG H wn O O O ?_;clear H;intro a H);refine kH H (Ra O (au K2 O (SQ fun _ K4=>SR fun _ K5=>Rm O (Rn O (Kz K5 (Cd O ?_ ?_)))))) <;> clear H K2 K5
  ·intro iO a H
   try have p42:=dT iO
   obtain rfl:an=none:=by
    cases an with
    | none=>rfl
    | some n=>simp [tV] at iO
   have BK:kk++[x]=(bW ((aY s).take (k+1)) ks).2:=by rw [hst];simp [lZ,qI,<- hkk,<- han]
   have Es:(bW ((aY s).take (k+1)) ks).1=(bW ((aY s).take k) ks).1++[⟨((bW ((aY s).take (k+1)) ks).2.length:Int),jk t⟩]:=by rw [<- BK,hst];simp [lZ,wN,<- hkk,<- han]
   refine kP H (SR fun _ K2=>Rm O ?_);clear H;intro a H;refine adG (i:=1) KW H wn O O O ?_;clear H;intro a H;rw [List.size_toArray,Sy] at H;refine kH H (Rd O (au K2 O (SC (Rm O (Rm O (Rm O (Ri jT iZ O O (Rg iZ O (by assumption) ?_))))))));clear H K2;intro a H;refine kH H (Rm O ?_);clear H;intro a H;rw [show ((kk.length:Int)+1)=((kk.length+1:Nat):Int) from rfl] at H;refine adK (i:=1) KW iH H wn O O O O (by trivial) (by simpa using hfn) ?_;clear H;intro w H;rw [map_push,show kk.length+1=(kk++[x]).length by simp,BK] at H;refine kH H (Kn K4 (SQ fun _ K2=>SR fun _ K5=>Rm O (Rl bV O (Rc O (Kz K5 (Cd O ?_ ?_)))))) <;> clear H K4 K5
   ·exact Ow
   intro Bg a H
   try have p54:=dF Bg
   have IX:k < 2048:=by omega
   have hon:=UL hk1 IX Es;refine kP H (Kc K2 (SR fun _ K4=>fJ A9 aG 0 O O (fJ A8 aG 0 O O (Rs O ?_))));clear H K2;intro a H;refine EO H wn O O O ?_;clear H;intro a H;refine kH H (au K4 O (SQ fun _ K2=>SR fun _ K5=>fJ DN aG 0 O O (Rc O (Kz K5 (Cd O ?_ ?_))))) <;> clear H K4 K5
   ·exact MK
   intro h63 a H
   try have p63:=dF h63
   have hwt:jk t=min (t.to - t.from_) 1000:=aL (by simpa using h63);refine kP H (Kc K2 (SC (Rm O (Rm O (Rm O ?_)))));clear H K2;intro a H;refine jQ ug [_,_] H wn O O O O ?_;clear H;intro a H;refine eU bV cK [_,_] [_,_] H wn O O O O O (by intro i q h;match i,h with|0,h=>exact h|n+1,h=>simp at h) O O ?_;clear H;intro jU a w IC H
   first
    | refine dV (Li:=[_,_,_]) (Lo:=Lo) (news:=[vi (kx:Int),vi 1]) bV cK O O H wn O O hrw O (H.hp.dw 0 O O) O V V O ?_
    | refine dV (Li:=[_,_,_]) (Lo:=Lo) (news:=[vi (kx:Int),vi (min (t.to - t.from_) 1000)]) bV cK O O H wn O O hrw O (H.hp.dw 0 O O) O V V O ?_
    | refine dV (Li:=[_,_,_]) (Lo:=Lo) (news:=[vi ((bW ((aY s).take (k+1)) ks).2.length:Int),vi 1]) bV cK O O H wn O O hrw O (H.hp.dw 0 O O) O V V O ?_
    | refine dV (Li:=[_,_,_]) (Lo:=Lo) (news:=[vi ((bW ((aY s).take (k+1)) ks).2.length:Int),vi (min (t.to - t.from_) 1000)]) bV cK O O H wn O O hrw O (H.hp.dw 0 O O) O V V O ?_
   clear H;intro v69 uE a w BI H
   have Jo:aZ 60 2 v69 (min (k+1) 2048) (iL (mV (aY s) ks (k+1))) uE:=by
    refine EH BI V ?_;rw [hon,hwt]
    simp [iL]
   refine kH H (cO K1 O (SC (Rd O (Rm O ?_))));clear H K1;intro a H;refine aB ?_;refine aX ((k+1,v69,uE,g)) (by exact (H.dB (Pl:=[_,_,_]) (bS:=[_]) [2] Y O).sub ⟨O,O,O,O,O,O,aH⟩) ?_
   (try dsimp only);exact F6
  intro iO a H
  try have p42:=dF iO
  obtain ⟨kx,rfl⟩:∃ n,an=some n:=by
   cases an with
   | none=>simp [tV] at iO
   | some n=>exact ⟨n,O⟩
  have BK:kk=(bW ((aY s).take (k+1)) ks).2:=by rw [hst];simp [lZ,qI,<- hkk,<- han]
  have Es:(bW ((aY s).take (k+1)) ks).1=(bW ((aY s).take k) ks).1++[⟨(kx:Int),jk t⟩]:=by rw [hst];simp [lZ,wN,<- hkk,<- han]
  dsimp only [tV,Option.map_some] at H;rw [BK] at H;refine kP H (Kc K4 (SQ fun _ K2=>SR fun _ K5=>Rm O (Rl bV O (Rc O (Kz K5 (Cd O ?_ ?_)))))) <;> clear H K4 K5
  ·exact Ow
  intro Bg a H
  try have p54:=dF Bg
  have IX:k < 2048:=by omega
  have hon:=UL hk1 IX Es;refine kP H (Kc K2 (SR fun _ K4=>fJ A9 aG 0 O O (fJ A8 aG 0 O O (Rs O ?_))));clear H K2;intro a H;refine EO H wn O O O ?_;clear H;intro a H;refine kH H (au K4 O (SQ fun _ K2=>SR fun _ K5=>fJ DN aG 0 O O (Rc O (Kz K5 (Cd O ?_ ?_))))) <;> clear H K4 K5
  ·exact MK
  intro h63 a H
  try have p63:=dF h63
  have hwt:jk t=min (t.to - t.from_) 1000:=aL (by simpa using h63);refine kP H (Kc K2 (SC (Rm O (Rm O (Rm O ?_)))));clear H K2;intro a H;refine jQ ug [_,_] H wn O O O O ?_;clear H;intro a H;refine eU bV cK [_,_] [_,_] H wn O O O O O (by intro i q h;match i,h with|0,h=>exact h|n+1,h=>simp at h) O O ?_;clear H;intro jU a w IC H
  first
   | refine dV (Li:=[_,_,_]) (Lo:=Lo) (news:=[vi (kx:Int),vi 1]) bV cK O O H wn O O hrw O (H.hp.dw 0 O O) O V V O ?_
   | refine dV (Li:=[_,_,_]) (Lo:=Lo) (news:=[vi (kx:Int),vi (min (t.to - t.from_) 1000)]) bV cK O O H wn O O hrw O (H.hp.dw 0 O O) O V V O ?_
   | refine dV (Li:=[_,_,_]) (Lo:=Lo) (news:=[vi ((bW ((aY s).take (k+1)) ks).2.length:Int),vi 1]) bV cK O O H wn O O hrw O (H.hp.dw 0 O O) O V V O ?_
   | refine dV (Li:=[_,_,_]) (Lo:=Lo) (news:=[vi ((bW ((aY s).take (k+1)) ks).2.length:Int),vi (min (t.to - t.from_) 1000)]) bV cK O O H wn O O hrw O (H.hp.dw 0 O O) O V V O ?_
  clear H;intro v69 uE a w BI H
  have Jo:aZ 60 2 v69 (min (k+1) 2048) (iL (mV (aY s) ks (k+1))) uE:=by
   refine EH BI V ?_;rw [hon,hwt]
   simp [iL]
  refine kH H (cO K1 O (SC (Rd O (Rm O ?_))));clear H K1;intro a H;refine aB ?_;refine aX ((k+1,v69,uE,g)) (by exact (H.dB (Pl:=[_,_,_]) (bS:=[_]) [2] Y O).sub ⟨O,O,O,O,O,O,aH⟩) ?_
  (try dsimp only);exact F6
 intro gy a H
 try have p28:=dF gy
 refine bQ ?_;refine K3 _ _ ?_;clear K3;refine kP H (SR fun _ K1=>Rm O (au K1 O ?_));clear H K1;intro a H;refine bN ?_
 have hke:k=(aY s).length:=by omega
 subst hke;have hlq:=afb (aY s) ks (aV _);obtain ⟨Gr,hmr,hrep,H⟩:=St.kU (Li:=[_]) (Lo:=Lo) H hrw (rows:=(mV (aY s) ks (aY s).length).map bJ.dat) (by rw [bG];omega) (KA _ _);rw [mV,pz] at hrep;rw [pz] at H;refine lv H results31 O ?_;exact H.hp.kY ⟨O,hrep⟩
theorem Qn:bD 31:=bH func31 O
theorem Yx:bD 43:=bH func43 O
theorem Yy:bD 44:=bH func44 O
theorem Yw:bD 42:=bH func42 O
theorem afQ {N:Int} {t:dN} (h:0<=t.from_∧t.from_ < t.to∧t.to<=N):1<=jk t∧jk t<=1000:=by
 unfold jk;split
 ·decide
 omega
theorem Fh {l:List (dN × ByteArray)} (ks:List ByteArray) (h:∀ x∈l,1<=jk x.1∧jk x.1<=1000):∀ k,k<=l.length->∀ x∈(bW (l.take k) ks).1,1<=x.weight∧x.weight<=1000
 | 0,_=>by simp [bW]
 | k+1,hk=>by
  have ih:=Fh ks h k V;rw [Ck V];intro x hx
  rcases sI.1 hx with hx|hx
  ·exact ih x hx
  rw [sJ] at hx;subst hx;exact h _ (dK _)
theorem Kw (s:ByteArray):∀ x∈aY s,1<=jk x.1∧jk x.1<=1000:=by
 intro x hx;obtain ⟨t,ht,rfl⟩:=List.mem_map.1 hx;exact afQ (Fg s t ht)
def jS (a:ByteArray):List bJ:=(bW (aY a) []).1.take 2048
def mg (a b:ByteArray):List bJ:=(bW (aY b) (bW (aY a) []).2).1.take 2048
theorem UU (a:ByteArray):(jS a).length<=2048:=by rw [jS,List.length_take];omega
theorem afj (a b:ByteArray):(mg a b).length<=2048:=by rw [mg,List.length_take];omega
theorem Fe (s:ByteArray):(aY s).length<=s.size+1:=by
 have hcl:=yg s
 have hlc:(cu s).length=(kJ s).length:=by simp [cu,eT]
 have htl:=Ch (cu s).length (cu s);rw [show lY (cu s).length (cu s)=gZ (cu s) from rfl] at htl
 simp only [aY,bG];omega
theorem Ci (l:List (dN × ByteArray)) (ks:List ByteArray):(bW l ks).1.length=l.length∧(bW l ks).2.length<=ks.length+l.length:=by
 have h:=rY l ks l.length (aV _)
 rwa [pz] at h
theorem Fj (a:ByteArray):∀ x∈jS a,1<=x.weight∧x.weight<=1000:=by
 have h:=Fh [] (Kw a) _ (aV _);rw [pz] at h;exact fun x hx=>h x (List.mem_of_mem_take hx)
theorem KE (a b:ByteArray):∀ x∈mg a b,1<=x.weight∧x.weight<=1000:=by
 have h:=Fh (bW (aY a) []).2 (Kw b) _ (aV _);rw [pz] at h;exact fun x hx=>h x (List.mem_of_mem_take hx)
theorem Pj {G0:GH} (G:GH) (w0:World) (hG:Hold G w0) (h0:∀ b o,G0 b=some o->G b=some o) (s t:ByteArray) (hs:iC G0 s) (ht:iC G0 t) (hz1:s.size<=1073741824) (hz2:t.size<=1073741824) :
  Calls prog 14 #[.string s,.string t] w0 (bK w0 G fun u G'=>∃ x y,u=.tuple #[x,y,vi 0]∧ay G' (.sl 2 ((jS s).map bJ.dat)) x∧ay G' (.sl 2 ((mg s t).map bJ.dat)) y):=by
 have hl1:=Fe s;have hl2:=(Ci (aY s) []).2;rw [List.length_nil] at hl2;refine eN [(0,_),(1,_)] func14 O ntmps14 O O hG ?_;intro a H;refine kP H (SR fun _ K1=>Ra O (Ra O (au K1 O (SQ fun _ K2=>SR fun _ K3=>Rm O ?_))));clear H K1;intro a H;refine s_call AZ H wn O (Cw _ _ H.ro s V) O ?_;clear H;rintro v9 _ a w ⟨rfl,rfl⟩ - H;rw [hs.ok] at H;refine kH H (Rn O (Rm O (Sp 11 O ?_ ?_))) <;> clear H
 ·intro h11 a H
  exact absurd h11 Y
 intro h11 a H
 try have oO:=dF h11
 refine kH H (YM h11 O ?_);clear H;intro a H;refine s_call AZ H (wg H O O h11) O (Cw _ _ H.ro t V) O ?_;clear H;rintro v13 _ a w ⟨rfl,rfl⟩ - H;rw [ht.ok] at H;refine kH H (YN h11 O (Pf h11 O (Kz K3 (Cd O ?_ ?_)))) <;> clear H K3
 ·intro jg a H
  exact absurd jg Y
 intro jg a H
 try have nG:=dF jg
 refine kI ?_;refine K2 _ _ ?_;clear K2;refine iV (fun _ K1=>?_);refine adJ H wn O ?_;clear H;intro bm a w hbm H;refine kH H (au K1 O (SR fun _ K2=>Rm O (Rm O ?_)));clear H K1;intro a H;refine jR Qn (Li:=[]) (L:=[xS bm []]) H wn O (Ph [] (Hp.owns (Li:=[]) H.hp) h0 s hs hz1 Y) O ?_;clear H;rintro v19 oU VE a w ⟨rfl,BF⟩ kV H;refine kH H (Rm O (Rm O ?_));clear H;intro a H;refine jR Qn (Li:=[]) (L:=[xS bm _]) H wn O (Ph _ (Hp.owns (Li:=[]) H.hp) (fun b o h=>kV b o (h0 b o h)) t ht hz2 V) O ?_;clear H;rintro v22 zZ VF a w ⟨rfl,abp⟩ wD H;refine kH H (Ra O (Ra O (au K2 O ?_)));clear H K2;intro a H;refine bN ?_;refine (bZ H results14 (.cons (aJ H O) (.cons (aJ H O) (.cons (aJ H O) .nil))) ?_).1;exact H.rt ⟨_,_,O,BF.mono wD,abp⟩
def gT:List bJ->Int
 | []=>0
 | x :: l=>x.weight+gT l
theorem aeO (l:List bJ) (x:bJ):gT (l++[x])=gT l+x.weight:=by
 induction l with
 | nil=>simp [gT]
 | cons y l ih=>simp only [lJ,gT,ih];omega
theorem E5:∀ (l:List bJ),(∀ x∈l,1<=x.weight∧x.weight<=1000)->(l.length:Int)<=gT l∧gT l<=1000*l.length
 | [],_=>by simp [gT]
 | x :: l,h=>by
  have h1:=h x (nP ..);have h2:=E5 l fun y hy=>h y (List.mem_cons_of_mem _ hy)
  simp only [gT,jB];omega
def qZ (a b:List bJ):Int:=if gT (a++b)=0 then 1000 else (2000*dJ a b 0 0).tdiv (gT (a++b))
theorem PN {l:List bJ} (h:∀ x∈l,1<=x.weight∧x.weight<=1000) (hl:l.length<=2048):tq l=0:=by
 rw [tq,dh,aM];rw [fM];intro x hx;have:=h x hx
 simp [zw,this]
theorem UN {G:GH} {l:List bJ} {v:aj} (h:ay G (.sl 2 (l.map bJ.dat)) v):aT G (zN l) [v]:=by
 simp only [zN,aT]
 exact ⟨_,_,O,h,O⟩
set_option maxHeartbeats 1000000 in
theorem LZ (G:GH) (w0:World) (hG:Hold G w0) (la lb:List bJ) (v u:aj) (hv:ay G (.sl 2 (la.map bJ.dat)) v) (hu:ay G (.sl 2 (lb.map bJ.dat)) u) (ha:la.length<=2048) (hb:lb.length<=2048) (vw:∀ x∈la,1<=x.weight∧x.weight<=1000) (hwb:∀ x∈lb,1<=x.weight∧x.weight<=1000) :
  Calls prog 32 #[v,u] w0 (bK w0 G fun r G'=>r=.tuple #[vi (qZ la lb),vi 0]):=by
 obtain ⟨vA,vc,rfl,hc1,hc2,-⟩:=hv.slice;obtain ⟨uA,uc,rfl,hd1,hd2,-⟩:=hu.slice;have hml:maxLen=9223372036854775807:=rfl;have hsb:=zK vw hwb _ 0 0 (aV _)
 have hok:AJ la lb=0:=by rw [AJ,aM (PN vw ha),PN hwb hb]
 have hll:(la++lb).length=la.length+lb.length:=gW;have hsw:=E5 (la++lb) (fun x hx=>(sI.1 hx).elim (vw x) (hwb x));(iterate 2 rw [bG] at *);refine eN [(0,_),(1,_)] func32 O ntmps32 O O hG ?_;intro a H;refine kP H (SR fun _ K1=>Ra O (au K1 O (SQ fun _ K2=>SR fun _ K3=>Rm O (Rm O ?_))));clear H K1;intro a H;refine s_call Yw H wn O (WW _ _ H.ro la lb _ _ hv hu) O ?_;clear H;rintro v12 _ a w ⟨rfl,rfl⟩ - H;rw [hok] at H;refine kH H (au K3 O (SR fun _ K1=>Rm O (Rc O (Kz K1 (Cd O ?_ ?_))))) <;> clear H K3 K1
 ·intro dQ a H
  exact absurd dQ Y
 intro dQ a H
 try have jr:=dF dQ
 refine kP H (Kc K2 (SR fun _ K1=>au K1 O (SQ fun _ K3=>SR fun _ K4=>Rm O (Rm O ?_))));clear H K2 K1;intro a H;refine eU Cr Co [_,_] [_,_] H wn O O O O O (by intro i q h;match i,h with|0,h=>exact h|1,h=>exact h|n+2,h=>simp at h) O O ?_;clear H;intro b18 a w Q7 H;obtain ⟨LB,hm18,aaS,H⟩:=H.gP;refine s_call Yx H wn O (XK _ _ H.ro [la,lb] _ (ay.mP (xs:=[.slice vA la.length vc,.slice uA lb.length uc]) aaS O (aV _) Y O (by simpa using ((bU.nil (sz:=1)).snoc (UN (hv.mono hm18)) O).snoc (UN (hu.mono hm18)) O)) (by simp;omega)) rfl ?_;clear H;rintro v19 oU a w BF kV H;rw [show [la,lb].flatten=la++lb by simp] at BF;obtain ⟨cA,cc,rfl,he1,he2,-⟩:=BF.slice;rw [bG] at *;refine kH H (Rl bV O (Rm O (Kz K4 (SB ?_))));clear H K4;intro a H;skip;refine dz (ι:=Nat) (Tc:=[(0,_),(1,_),(19,_),(20,_)]) (Lc:=[]) (fun gh=>[(7,vi (gT ((la++lb).take gh))),(21,vi gh)]) (fun gh=>[]) (fun gh=>oU) (fun gh=>gh<=(la++lb).length) (fun gh=>(la++lb).length - gh) (0) (by exact H.sub ⟨O,O,O,O,O,O,aH⟩) ?_ ?_
 ·exact dO _
 clear H;intro k a w hI H;have hk:=hI;dsimp only [lca,bR] at H;refine kP H (SR fun _ K1=>Rc O (Kz K1 (SQ fun _ K2=>Cd O ?_ ?_))) <;> clear H K1
 ·intro h22 a H
  try have og:=dT h22
  have hk1:k < (la++lb).length:=by omega
  obtain ⟨b,o,rfl,hrow⟩:=xk BF hk1
  have hsu:gT ((la++lb).take (k+1))=gT ((la++lb).take k)+(la++lb)[k].weight:=by rw [kg hk1,aeO]
  have hin:=E5 ((la++lb).take (k+1)) (fun x hx=>(sI.1 (List.mem_of_mem_take hx)).elim (vw x) (hwb x))
  have htk:((la++lb).take (k+1)).length<=(la++lb).length:=by rw [List.length_take];omega
  refine kP H (Kc K2 (SQ fun _ K1=>SB (SR fun _ K4=>Ri bV cK O O ?_)));clear H K2;intro a H;refine dL cK (cs:=[_,_]) H wn O O (fun j v hj=>H.hp.aQ (hrow j v hj)) O ?_;clear H;intro a H;refine jv cK H wn O ?_;clear H;intro b9 a w IE H;refine eZ cK 0 (vs:=[_,_]) H wn O ?_;clear H;intro w H;refine K4 _ _ ?_;clear K4;refine kP H (SC (Rm O (fJ Ba aG 0 O O (Rd O ?_))));clear H;intro a H;rw [<- hsu] at H;refine kH H (cO K1 O (SC (Rd O (Rm O ?_))));clear H K1;intro a H;refine aB ?_;refine aX ((k+1)) (by exact (H.dB (Pl:=[_]) (bS:=[]) [] Y O).sub ⟨O,O,O,O,O,O,aH⟩) ?_
  omega
 intro h22 a H
 try have og:=dF h22
 refine bQ ?_;refine K3 _ _ ?_;clear K3;refine kP H (SQ fun _ K1=>SR fun _ K3=>Rm O (Rc O (Kz K3 (Cd O ?_ ?_)))) <;> clear H K3
 ·intro h31 a H
  try have p31:=dT h31
  refine kP H (SR fun _ K3=>Ra O (au K3 O ?_));clear H K3;intro a H;refine bN ?_;refine (bZ H results32 (.cons (aJ H O) (.cons (aJ H O) .nil)) ?_).1;exact H.rt (by rw [qZ,aM (by rw [gX V] at p31;exact p31)])
 intro h31 a H
 try have p31:=dF h31
 refine kI ?_;refine K1 _ _ ?_;clear K1;refine fT (fun _ K1=>?_);rw [show (la++lb).take k=la++lb from gX V] at H p31;refine kP H (SC (Rm O (Rm O ?_)));clear H;intro a H;refine s_call Yy H wn O (aew _ _ H.ro la lb _ _ ((hv.mono hm18).mono kV) ((hu.mono hm18).mono kV) ha hb vw hwb) O ?_;clear H;rintro v34 G34 a w ⟨q1,q2,q3,rfl⟩ ahg H;refine aec (off:=0) ⟨Z⟩ H wn O O O ?_;clear H;intro a H;refine wV _ H wn O O O V V O ?_;clear H;intro a H;refine kH H (Rm O ?_);clear H;intro a H;have hq1:0<=(2000*dJ la lb 0 0).tdiv (gT (la++lb)):=Int.tdiv_nonneg V V
 have hq2:(2000*dJ la lb 0 0).tdiv (gT (la++lb))<=2000*dJ la lb 0 0:=by
  rw [Int.tdiv_eq_ediv_of_nonneg V];exact Int.ediv_le_self _ V
 refine TY _ H wn O O V O V V O ?_;clear H;intro a H;refine kH H (Ra O (cO K1 O ?_));clear H K1;intro a H;refine bN ?_;refine (bZ H results32 (.cons (aJ H O) (.cons (aJ H O) .nil)) ?_).1;exact H.rt (by rw [qZ,dh])
theorem YA:bD 47:=bH func47 O
theorem Uv (p q:ByteArray):(p.toList == q.toList)=decide (p=q):=by
 rw [ByteArray.toList_eq,ByteArray.toList_eq]
 by_cases h:p=q
 ·subst h;simp
 simp only [h,decide_false,beq_eq_false_iff_ne,ne_eq]
 exact fun e=>h (Go.WideShapes.bytes_inj e)
theorem Sc (x:ByteArray):∀ (l:List ByteArray) (i k:Nat),k<=l.length->(∀ q (h:q < l.length),q < k->¬ l[q]=x)->(∀ h:k < l.length,l[k]=x)->kX x i l=if k < l.length then some (i+k+1) else none
 | [],i,k,hk,_,_=>by rw [kX,aL (by simp)]
 | y :: l,i,0,_,_,h1=>by rw [kX,aM (show y=x from h1 (by simp)),aM (by simp)]
 | y :: l,i,k+1,hk,h0,h1=>by
  have hy:¬ y=x:=h0 0 (by simp) V;rw [kX,aL hy,Sc x l (i+1) k (by simpa using hk) (fun q h hq=>h0 (q+1) (by simpa using h) V) (fun h=>h1 (by simpa using h))]
  simp only [jB,Nat.add_lt_add_iff_right]
  split
  ·congr 1;omega
  rfl
theorem Sj {x:ByteArray} {l:List ByteArray} {k:Nat} (hk:k<=l.length) (h0:∀ q (h:q < l.length),q < k->¬ l[q]=x) (h1:∀ h:k < l.length,l[k]=x):wN l x=k+1∧qI l x=if k=l.length then l++[x] else l:=by
 have h:=Sc x l 0 k hk h0 h1;rw [wN,qI,h]
 by_cases e:k < l.length
 ·rw [aM e,aL (show ¬ k=l.length by omega)];exact ⟨by simp,O⟩
 rw [aL e,aM (show k=l.length by omega)];exact ⟨by first|(simp;done)|(simp;omega),rfl⟩
theorem adg {e:Nat} {v:aj} {K K':List ByteArray} {Lo:OL} (h:aZ e 1 v K.length (K.map Value.string) Lo) (hK:K=K'):aZ e 1 v K'.length (K'.map Value.string) Lo:=by subst hK;exact h
theorem Tj (B L4 L5 L6:OL):(B++(L4++(L5++L6))).Perm ((B++(L4++L5))++L6):=by
 rw [lK B,lK L4]
theorem kG (B L4 L5 L6:OL):(B++(L4++(L5++L6))).Perm ((B++(L5++L6))++L4):=by
 rw [lK B];exact List.perm_append_comm.append_left B
theorem fP (B L4 L5 L6:OL):(B++(L4++(L5++L6))).Perm ((B++(L4++L6))++L5):=by
 rw [lK B,lK L4];exact (List.perm_append_comm.append_left L4).append_left B
def eO (a b:ByteArray) (d:Nat):ByteArray:=if d=0 then a else b
def zJ (a:ByteArray) (d:Nat):List ByteArray:=if d=0 then [] else (bW ((aY a).take 2048) []).2
def vB (a:ByteArray):List bJ:=(bW ((aY a).take 2048) []).1
def nX (a b:ByteArray):List bJ:=(bW ((aY b).take 2048) (bW ((aY a).take 2048) []).2).1
theorem UD {α:Type} (l:List α) (n:Nat):l.take (min l.length n)=l.take n:=by
 by_cases h:l.length<=n
 ·rw [gX V,gX h]
 rw [Nat.min_eq_right V]
def cur (a b:ByteArray) (d i:Nat):List bJ × List ByteArray:=bW ((aY (eO a b d)).take i) (zJ a d)
def iB (a b:ByteArray) (d i:Nat):List bJ:=if d=0 then (cur a b 0 i).1 else vB a
def fZ (a b:ByteArray) (d i:Nat):List bJ:=if d=0 then [] else if d=1 then (cur a b 1 i).1 else nX a b
def kF (a b:ByteArray) (d i:Nat):List ByteArray:=if d < 2 then (cur a b d i).2 else (cur a b 1 (min (aY b).length 2048)).2
theorem Tf {a b:ByteArray} {d:Nat} (hd:d < 2):iB a b d (min (aY (eO a b d)).length 2048)=iB a b (d+1) 0∧fZ a b d (min (aY (eO a b d)).length 2048)=fZ a b (d+1) 0∧kF a b d (min (aY (eO a b d)).length 2048)=kF a b (d+1) 0:=by
 rcases (show d=0∨d=1 by omega) with rfl|rfl
 ·simp [iB,fZ,kF,cur,eO,zJ,vB,bW,UD]
 simp [iB,fZ,kF,cur,eO,zJ,nX,UD]
theorem acN {a b:ByteArray} {d i:Nat} (hd:d<=2) (hi:d < 2->i<=(aY (eO a b d)).length):(iB a b d i).length<=a.size+1∧(fZ a b d i).length<=b.size+1∧(kF a b d i).length<=a.size+b.size+2:=by
 have ha:=Fe a;have hb:=Fe b;have h1:=Ci ((aY a).take 2048) [];have h2:=Ci ((aY b).take 2048) (bW ((aY a).take 2048) []).2;rw [List.length_nil,List.length_take] at h1;rw [List.length_take] at h2
 have hX:(vB a).length<=a.size+1:=by rw [vB];omega
 have hY:(nX a b).length<=b.size+1:=by rw [nX];omega
 rcases (show d=0∨d=1∨d=2 by omega) with rfl|rfl|rfl
 ·have hi0:i<=(aY a).length:=by simpa [eO] using hi Y
  have h3:=rY (aY a) [] i hi0;rw [List.length_nil] at h3
  simp only [iB,fZ,kF,cur,eO,zJ,if_true,aM (show (0:Nat) < 2 by decide),List.length_nil]
  omega
 ·have hi0:i<=(aY b).length:=by simpa [eO] using hi Y
  have h3:=rY (aY b) (bW ((aY a).take 2048) []).2 i hi0
  simp only [iB,fZ,kF,cur,eO,zJ,aL (show ¬ (1:Nat)=0 by decide),if_true,aM (show (1:Nat) < 2 by decide)]
  omega
 have h3:=rY (aY b) (bW ((aY a).take 2048) []).2 (min (aY b).length 2048) V
 simp only [iB,fZ,kF,cur,eO,zJ,aL (show ¬ (2:Nat)=0 by decide),aL (show ¬ (2:Nat)=1 by decide),aL (show ¬ (1:Nat)=0 by decide),aL (show ¬ (2:Nat) < 2 by decide)]
 omega
theorem XU {a b:ByteArray} {d i:Nat} (h:i < (aY (eO a b d)).length):cur a b d (i+1)=lZ (cur a b d i) (aY (eO a b d))[i]:=Ck h _
theorem Mv {p:Prop} (h:p:=by
 first
  | exact absurd p60 V
  | (have h2:(!(K[k].toList == x.toList))=false:=by simpa using yM
     simpa [Uv] using h2))):p:=h
theorem xV {p:Prop} (h:p:=by
 exact ⟨V,zf,zh,RD,fun b o h=>Bh b o (pK b o (fE b o h)),fun b o h=>Bh b o (pK b o (hgt b o h))⟩):p:=h
theorem OT {p:Prop} (h:p:=by
 intro h97 a H
 try have BX:=dT h97
 have hd0:d=0:=by omega
 subst hd0
 have eX:iB s t 0 (i+1)=iB s t 0 i++[⟨((k+1:Nat):Int),jk tok⟩]:=by simp only [iB,if_true];exact wz
 have zh:aZ 60 2 w5 (fZ s t 0 (i+1)).length (iL (fZ s t 0 (i+1))) M5:=jW;refine kP H (SC (Rm O (Rm O (Rd O (Rm O ?_)))));clear H;intro a H;refine jQ ug [_,_] H wn O O O O ?_;clear H;intro a H;refine eU bV cK [_,_] [_,_] H wn O O O O O (by intro i q h;match i,h with|0,h=>exact h|n+1,h=>simp at h) O O ?_;clear H;intro V6 a w aas H
 first
   | refine dV (Li:=[_,_,_]++(M5++M7)) (Lo:=M4) (news:=[vi ((k:Int)+1),vi 1]) bV cK O O (H.perm (kG [_,_,_] M4 M5 M7)) wn O O hq4 O ((H.perm (kG [_,_,_] M4 M5 M7)).hp.dw 0 O O) O V V O ?_
   | refine dV (Li:=[_,_,_]++(M5++M7)) (Lo:=M4) (news:=[vi ((k:Int)+1),vi (min (tok.to - tok.from_) 1000)]) bV cK O O (H.perm (kG [_,_,_] M4 M5 M7)) wn O O hq4 O ((H.perm (kG [_,_,_] M4 M5 M7)).hp.dw 0 O O) O V V O ?_
   | refine dV (Li:=[_,_]++(M5++M6)) (Lo:=M4) (news:=[vi ((k:Int)+1),vi 1]) bV cK O O (H.perm (kG [_,_] M4 M5 M6)) wn O O hq4 O ((H.perm (kG [_,_] M4 M5 M6)).hp.dw 0 O O) O V V O ?_
   | refine dV (Li:=[_,_]++(M5++M6)) (Lo:=M4) (news:=[vi ((k:Int)+1),vi (min (tok.to - tok.from_) 1000)]) bV cK O O (H.perm (kG [_,_] M4 M5 M6)) wn O O hq4 O ((H.perm (kG [_,_] M4 M5 M6)).hp.dw 0 O O) O V V O ?_
 clear H;intro Cv M8 a w vo H;replace H:=H.perm (by first|exact (kG [_,_,_] M8 M5 M7).symm|exact (kG [_,_] M8 M5 M6).symm);dsimp only [lca,bR] at H
 have zf:aZ 60 2 Cv (iB s t 0 (i+1)).length (iL (iB s t 0 (i+1))) M8:=by
   rw [eX,hwt,gW,iL,ku,List.flatten_append];exact vo
 refine kH H (cO K4 O (SC (Rm O (Rd O (Ra O ?_)))));clear H K4;intro a H;refine aB ?_;refine aX ((i+1,Cv,w5,.slice (some ⟨nb,0,none⟩) K.length nc,M8,M5,M6,G)) (by exact (H.dB (Pl:=[_,_]) (bS:=[_]) [1] Y O).sub ⟨O,O,O,O,O,O,O,O,O,aH⟩) ?_
 (try dsimp only);exact xV):p:=h
theorem OX {p:Prop} (h:p:=by
 intro h97 a H
 try have BX:=dT h97
 have hd0:d=0:=by omega
 subst hd0
 have eX:iB s t 0 (i+1)=iB s t 0 i++[⟨((k+1:Nat):Int),jk tok⟩]:=by simp only [iB,if_true];exact wz
 have zh:aZ 60 2 w5 (fZ s t 0 (i+1)).length (iL (fZ s t 0 (i+1))) M5:=jW;refine kP H (SC (Rm O (Rm O (Rd O (Rm O ?_)))));clear H;intro a H;refine jQ ug [_,_] H wn O O O O ?_;clear H;intro a H;refine eU bV cK [_,_] [_,_] H wn O O O O O (by intro i q h;match i,h with|0,h=>exact h|n+1,h=>simp at h) O O ?_;clear H;intro V6 a w aas H
 first
   | refine dV (Li:=[_,_,_]++(M5++M7)) (Lo:=M4) (news:=[vi ((k:Int)+1),vi 1]) bV cK O O (H.perm (kG [_,_,_] M4 M5 M7)) wn O O hq4 O ((H.perm (kG [_,_,_] M4 M5 M7)).hp.dw 0 O O) O V V O ?_
   | refine dV (Li:=[_,_,_]++(M5++M7)) (Lo:=M4) (news:=[vi ((k:Int)+1),vi (min (tok.to - tok.from_) 1000)]) bV cK O O (H.perm (kG [_,_,_] M4 M5 M7)) wn O O hq4 O ((H.perm (kG [_,_,_] M4 M5 M7)).hp.dw 0 O O) O V V O ?_
   | refine dV (Li:=[_,_]++(M5++M6)) (Lo:=M4) (news:=[vi ((k:Int)+1),vi 1]) bV cK O O (H.perm (kG [_,_] M4 M5 M6)) wn O O hq4 O ((H.perm (kG [_,_] M4 M5 M6)).hp.dw 0 O O) O V V O ?_
   | refine dV (Li:=[_,_]++(M5++M6)) (Lo:=M4) (news:=[vi ((k:Int)+1),vi (min (tok.to - tok.from_) 1000)]) bV cK O O (H.perm (kG [_,_] M4 M5 M6)) wn O O hq4 O ((H.perm (kG [_,_] M4 M5 M6)).hp.dw 0 O O) O V V O ?_
 clear H;intro Cv M8 a w vo H;replace H:=H.perm (by first|exact (kG [_,_,_] M8 M5 M7).symm|exact (kG [_,_] M8 M5 M6).symm);dsimp only [lca,bR] at H
 have zf:aZ 60 2 Cv (iB s t 0 (i+1)).length (iL (iB s t 0 (i+1))) M8:=by
   rw [eX,hwt,gW,iL,ku,List.flatten_append];exact vo
 refine kH H (cO K4 O (SC (Rm O (Rd O (Ra O ?_)))));clear H K4;intro a H;refine aB ?_;refine aX ((i+1,Cv,w5,v77,M8,M5,M7,G)) (by exact (H.dB (Pl:=[_,_,_]) (bS:=[_]) [2] Y O).sub ⟨O,O,O,O,O,O,O,O,O,aH⟩) ?_
 (try dsimp only);exact xV):p:=h
theorem Dh {p:Prop} (h:p:=by
 rw [eY,hwt,gW,iL,ku,List.flatten_append];exact vo):p:=h
theorem Dw {p:Prop} (h:p:=by
 have Hb:=H.full;have H:=Hb;clear hc;refine bO sj mh i H wn O O O V O ?_;exact aI):p:=h
theorem WV {p:Prop} (h:p:=by
 have Hb:=H.full;have H:=Hb;clear hc;refine fG H wn O O O ?_;exact aI):p:=h
theorem MS {p:Prop} (h:p:=by
 intro av a w G1 _ ah hc hG HT hv;have H:=HT;clear ah;have H:=H.ak (hv 3 81 (hc 3 Y) O) O;have Hb:=H.full;have H:=Hb;clear hc;refine kH H (Rg aG O (aK hG (aK pK (hrow 2 _ O))) ?_);exact aI):p:=h
theorem MU {p:Prop} (h:p:=by
 intro av a w G1 _ ah hc hG HT hv;have H:=HT;clear ah;have H:=H.ak (hv 8 86 (hc 8 Y) O) O;have Hb:=H.full;have H:=Hb;clear hc;refine kH H (Rg aG O (aK hG (aK pK (hrow 1 _ O))) ?_);exact aI):p:=h
theorem MV {p:Prop} (h:p:=by
 intro av a w G1 _ ah hc hG HT hv;have H:=HT;clear ah;have H:=H.ak (hv 4 82 (hc 4 Y) O) O;have H:=H.ak (hv 9 87 (hc 9 Y) O) O;have Hb:=H.full;have H:=Hb;clear hc;refine kH H (Rs O ?_);exact aI):p:=h
theorem Nc {p:Prop} (h:p:=by
 intro av a w G1 _ ah hc hG HT hv;have H:=HT;clear ah;have H:=H.ak (hv 2 80 (hc 2 Y) O) O;have Hb:=H.full;have H:=Hb;clear hc;refine kH H (Rf A9 O ?_);exact aI):p:=h
theorem Nf {p:Prop} (h:p:=by
 intro av a w G1 _ ah hc hG HT hv;have H:=HT;clear ah;have H:=H.ak (hv 7 85 (hc 7 Y) O) O;have Hb:=H.full;have H:=Hb;clear hc;refine kH H (Rf A8 O ?_);exact aI):p:=h
theorem Ng {p:Prop} (h:p:=by
 intro av a w G1 _ ah hc hG HT hv;have H:=HT;clear ah;have H:=H.ak (hv 10 88 (hc 10 Y) O) O;have Hb:=H.full;have H:=Hb;clear hc;refine EO H wn O O O ?_;exact aI):p:=h
theorem N8 {p:Prop} (h:p:=by
 intro av a w G1 _ ah hc hG HT hv;have H:=HT;clear ah;have H:=H.ak (hv 0 78 (hc 0 Y) O) O;have H:=H.ak (hv 1 79 (hc 1 Y) O) O;exact Dw):p:=h
theorem N9 {p:Prop} (h:p:=by
 intro av a w G1 _ ah hc hG HT hv;have H:=HT;clear ah;have H:=H.ak (hv 5 83 (hc 5 Y) O) O;have H:=H.ak (hv 6 84 (hc 6 Y) O) O;exact Dw):p:=h
theorem Og {p:Prop} (h:p:=by
 intro av a w G1 _ ah hc hG HT hv;have H:=HT;clear ah;have H:=H.ak (hv 12 41 (hc 12 Y) O) O;exact WV):p:=h
set_option maxHeartbeats 2000000 in
theorem acB {G0:GH} (G:GH) (w0:World) (hG:Hold G w0) (h0:∀ b o,G0 b=some o->G b=some o) (s t:ByteArray) (hs:iC G0 s) (ht:iC G0 t) :
    Calls prog 37 #[.string s,.string t] w0 (bK w0 G fun u G'=>∃ x y,u=.tuple #[x,y]∧ay G' (.sl 2 ((vB s).map bJ.dat)) x∧ay G' (.sl 2 ((nX s t).map bJ.dat)) y):=by
  have hml:maxLen=9223372036854775807:=rfl;have hz1:=hs.size;have hz2:=ht.size;refine eN [(0,_),(1,_)] func37 O ntmps37 O O hG ?_;intro a H;refine kP H (SR fun _ K1=>Ra O (au K1 O (SR fun _ K2=>au K2 O (SQ fun _ K3=>SR fun _ K4=>au K4 O (SB ?_)))));clear H K1 K2 K4;intro a H;skip;refine dz (ι:=Nat × aj × aj × aj × OL × OL × OL × GH) (Tc:=[(0,_),(1,_)]) (Lc:=[]) (fun gh=>[(4,gh.2.1),(5,gh.2.2.1),(6,gh.2.2.2.1),(7,vi gh.1)]) (fun gh=>[]++(gh.2.2.2.2.1++(gh.2.2.2.2.2.1++gh.2.2.2.2.2.2.1))) (fun gh=>gh.2.2.2.2.2.2.2) (fun gh=>gh.1<=2∧aZ 60 2 gh.2.1 (iB s t gh.1 0).length (iL (iB s t gh.1 0)) gh.2.2.2.2.1∧aZ 60 2 gh.2.2.1 (fZ s t gh.1 0).length (iL (fZ s t gh.1 0)) gh.2.2.2.2.2.1∧aZ 9 1 gh.2.2.2.1 (kF s t gh.1 0).length ((kF s t gh.1 0).map Value.string) gh.2.2.2.2.2.2.1∧(∀ b o,G b=some o->gh.2.2.2.2.2.2.2 b=some o)) (fun gh=>2 - gh.1) ((0,.slice none 0 0,.slice none 0 0,.slice none 0 0,[],[],[],G)) (by exact H.sub ⟨O,O,O,O,O,O,aH⟩) ?_ ?_
  · exact ⟨dO _,aZ.nil,aZ.nil,aZ.nil,fun _ _ h=>h⟩
  clear H;rintro ⟨d,v4,v5,v6,L4,L5,L6,g⟩ a w hI H;dsimp only at hI H;obtain ⟨hd,hr4,RF,hr6,hgm⟩:=hI;dsimp only [lca,bR] at H;refine kP H (SQ fun _ K1=>SR fun _ K2=>Rm O (Rc O (Kz K2 (Cd O ?_ ?_)))) <;> clear H K2
  · intro dH a H
    try have jY:=dT dH
    have hd1:d < 2:=by omega
    have hsd:iC G0 (eO s t d):=by unfold eO;split <;> assumption
    have hsz:(eO s t d).size<=1073741824:=by unfold eO;split <;> assumption
    refine kP H (Kc K1 (SQ fun _ K2=>SB (SR fun _ K4=>Rm O (Rm O ?_))));clear H K1;intro a H;refine eU jT iZ [_,_] [_,_] H wn O O O O O (by intro i q h;match i,h with|0,h=>exact h|1,h=>exact h|n+2,h=>simp at h) O O ?_;clear H;intro mD a w Iz H;refine kH H (Rm O ?_);clear H;intro a H;refine bO jT iZ d H wn O O O V O ?_;clear H;intro a H
    refine iF iZ H wn O (H.hp.jh 0 O (show _=some (Value.string (eO s t d)) by rcases (show d=0∨d=1 by omega) with rfl|rfl <;> rfl)) rfl ?_;clear H;intro a H
    refine kH H (au K4 O (SR fun _ K1=>Rm O ?_));clear H K4;intro a H;refine s_call Hq H wn O (Kj _ _ H.ro (fun b o h=>hgm b o (h0 b o h)) _ hsd) O ?_;clear H;rintro v28 LD a w ⟨x28,rfl,htk⟩ abd H;obtain ⟨tA,tc,rfl,-,-,-⟩:=htk.slice;rw [bG] at *
    have hll:(aY (eO s t d)).length=(gZ (cu (eO s t d))).length:=by simp [aY]
    have htl:=Fe (eO s t d);refine kH H (Rm O ?_);clear H;intro a H;(iterate 2 refine fG H wn O O O ?_;clear H;intro a H);refine kH H (Ra O (au K1 O (SR fun _ K4=>au K4 O (SB ?_))));clear H K1 K4;intro a H;skip;refine dz (ι:=Nat × aj × aj × aj × OL × OL × OL × GH) (Tc:=[(0,_),(1,_),(7,_),(8,_),(9,_)]) (Lc:=[(_,_)]) (fun gh=>[(4,gh.2.1),(5,gh.2.2.1),(6,gh.2.2.2.1),(11,vi gh.1)]) (fun gh=>[]++(gh.2.2.2.2.1++(gh.2.2.2.2.2.1++gh.2.2.2.2.2.2.1))) (fun gh=>gh.2.2.2.2.2.2.2) (fun gh=>gh.1<=min (aY (eO s t d)).length 2048∧aZ 60 2 gh.2.1 (iB s t d gh.1).length (iL (iB s t d gh.1)) gh.2.2.2.2.1∧aZ 60 2 gh.2.2.1 (fZ s t d gh.1).length (iL (fZ s t d gh.1)) gh.2.2.2.2.2.1∧aZ 9 1 gh.2.2.2.1 (kF s t d gh.1).length ((kF s t d gh.1).map Value.string) gh.2.2.2.2.2.2.1∧(∀ b o,G b=some o->gh.2.2.2.2.2.2.2 b=some o)∧(∀ b o,LD b=some o->gh.2.2.2.2.2.2.2 b=some o)) (fun gh=>(aY (eO s t d)).length - gh.1) ((0,v4,v5,v6,L4,L5,L6,LD)) (by exact H.sub ⟨O,O,O,O,O,O,O,O,O,aH⟩) ?_ ?_
    · exact ⟨dO _,hr4,RF,hr6,fun b o h=>abd b o (hgm b o h),fun _ _ h=>h⟩
    clear H;rintro ⟨i,w4,w5,w6,M4,M5,M6,g2⟩ a w hI H;dsimp only at hI H;obtain ⟨hi,hq4,jW,tO,fE,hgt⟩:=hI;have hol:=acN (a:=s) (b:=t) (d:=d) (i:=i) V (fun _=>by omega);dsimp only [lca,bR] at H;refine kP H (SQ fun _ K1=>SR fun _ K4=>Rm O (Rm O (Rl sj O (Rc O (Rm O (Sp 35 O ?_ ?_)))))) <;> clear H
    · intro lT a H
      try have p35:=dT lT
      refine kH H (YM lT O (YC lT O (Pt lT O (Kz K4 (Cd O ?_ ?_))))) <;> clear H K4
      · intro Ii a H
        try have p38:=dT Ii
        have hi1:i < (aY (eO s t d)).length:=by omega
        obtain ⟨tb,lG,rfl,hrow⟩:=Ky (htk.mono hgt) (show i < (gZ (cu (eO s t d))).length by omega);obtain ⟨tok,Jq⟩:∃ x,x=(gZ (cu (eO s t d)))[i]'V:=⟨_,O⟩;have hrl:(eD (eO s t d)).length<=(eO s t d).size:=zC _ _ 0;have htb:=Fg (eO s t d) tok (by rw [Jq];exact dK _);rw [<- Jq] at hrow
        have hlk:(aY (eO s t d))[i]=(tok,pW (eO s t d) tok):=by simp [aY,Jq]
        obtain ⟨x,hx⟩:∃ x,x=pW (eO s t d) tok:=⟨_,O⟩
        have hf0:tok.from_=(tok.from_.toNat:Int):=by omega
        have ht0:tok.to=(tok.to.toNat:Int):=by omega
        have hxe:(eO s t d).extract (eG (eO s t d) 0 tok.from_.toNat) (eG (eO s t d) 0 tok.to.toNat)=x:=by rw [hx,pW,afu hsd.ok V]
        have hst:=XU (a:=s) (b:=t) (d:=d) hi1;rw [hlk,<- hx] at hst;refine kP H (Kc K1 (SQ fun _ K4=>SB (SQ fun _ K5=>?_)));clear H K1;intro a H;refine dI fF [[],[],[],[1,2],[1,2,3],ra 1 4,[],[],[6,7],[6,7,8],ra 6 4,ra 0 11,ra 0 12,ra 0 13,ra 0 13,ra 0 14,ra 0 16] [] Z [.string (eO s t d),.slice (some ⟨tb,lG,none⟩) (gZ (cu (eO s t d))).length tc,vi i,(aD tb (lG+i*3)),(aD tb (lG+i*3+1)),vi tok.from_,.slice (some ⟨tb,lG,none⟩) (gZ (cu (eO s t d))).length tc,vi i,(aD tb (lG+i*3)),(aD tb (lG+i*3+2)),vi tok.to,.tuple #[.string x,vi 0],.tuple #[.string x,vi 0],.string x,vi 0,.string x,vi 0] H (aF ?_ ?_ ?_ ?_ (aF ?_ ?_ ?_ ?_ (aF ?_ ?_ ?_ ?_ (aF ?_ ?_ ?_ ?_ (gN ?_ fB))))) ?_
        · exact aO
        · exact aO
        · exact aO
        · intro av a w G1 _ ah hc hG HT hv;have H:=HT;clear ah;have H:=H.ak (hv 1 43 (hc 1 Y) O) O;have H:=H.ak (hv 2 44 (hc 2 Y) O) O;exact Dw
        · intro av a w G1 _ ah hc hG HT hv;have H:=HT;clear ah;have H:=H.ak (hv 3 45 (hc 3 Y) O) O;have Hb:=H.full;have H:=Hb;clear hc;refine kH H (Rf A8 O ?_);exact aI
        · intro av a w G1 _ ah hc hG HT hv;have H:=HT;clear ah;have H:=H.ak (hv 4 46 (hc 4 Y) O) O;have Hb:=H.full;have H:=Hb;clear hc;refine kH H (Rg aG O (aK hG (hrow 1 _ O)) ?_);exact aI
        · exact aO
        · exact aO
        · intro av a w G1 _ ah hc hG HT hv;have H:=HT;clear ah;have H:=H.ak (hv 6 48 (hc 6 Y) O) O;have H:=H.ak (hv 7 49 (hc 7 Y) O) O;exact Dw
        · intro av a w G1 _ ah hc hG HT hv;have H:=HT;clear ah;have H:=H.ak (hv 8 50 (hc 8 Y) O) O;have Hb:=H.full;have H:=Hb;clear hc;refine kH H (Rf A9 O ?_);exact aI
        · intro av a w G1 _ ah hc hG HT hv;have H:=HT;clear ah;have H:=H.ak (hv 9 51 (hc 9 Y) O) O;have Hb:=H.full;have H:=Hb;clear hc;refine kH H (Rg aG O (aK hG (hrow 2 _ O)) ?_);exact aI
        · intro av a w G1 _ ah hc hG HT hv;have H:=HT;clear ah;have H:=H.ak (hv 0 42 (hc 0 Y) O) O;have H:=H.ak (hv 5 47 (hc 5 Y) O) O;have H:=H.ak (hv 10 52 (hc 10 Y) O) O;have Hb:=H.full;have H:=Hb;clear hc;rw [hf0,ht0] at H;refine s_call YA H wn O (aes _ _ H.ro (eO s t d) V hsd.ok tok.from_.toNat tok.to.toNat V V) O ?_;clear H;rintro v53 VA a w rfl aak H;rw [hxe] at H;rw [<- hf0,<- ht0] at H;refine aB ⟨O,?_⟩;exact iN Z (fun _ _ _ _ _ h=>h) O O HT Hb hG hv aak (rfl) H
        · intro av a w G1 _ ah hc hG HT hv;have H:=HT;clear ah;have H:=H.ak (hv 11 53 (hc 11 Y) O) O;exact lq
        · exact Og
        · exact Og
        · intro av a w G1 _ ah hc hG HT hv;have H:=HT;clear ah;have H:=H.ak (hv 13 54 (hc 13 Y) O) O;exact uO
        · intro av a w G1 _ ah hc hG HT hv;have H:=HT;clear ah;have H:=H.ak (hv 14 55 (hc 14 Y) O) O;exact uO
        clear H;intro a w G D9 H hv;have H:=H.ak (hv 15 12 O O) O;clear hv;refine aB ⟨O,?_⟩;refine K5 _ _ ?_;clear K5;refine fT (fun _ K1=>?_);obtain ⟨K,hK⟩:∃ K,K=(cur s t d i).2:=⟨_,O⟩
        have hoK:kF s t d i=K:=by rw [kF,aM hd1,hK]
        rw [hoK] at tO hol;obtain ⟨nA,nc,rfl,hn1,hn2⟩:=tO.shape;have pK:=D9;refine kP H (SC (cO K1 O (SQ fun _ K5=>SB ?_)));clear H K1;intro a H;skip;refine dz (ι:=Nat) (Tc:=[(0,_),(1,_),(4,_),(5,_),(6,_),(7,_),(8,_),(9,_),(11,_),(12,_)]) (Lc:=[(_,_)]) (fun gh=>[(14,vi gh)]) (fun gh=>[]++(M4++(M5++M6))) (fun gh=>G) (fun gh=>gh<=K.length∧∀ q (h:q < K.length),q < gh->¬ K[q]=x) (fun gh=>K.length - gh) (0) (by exact H.sub ⟨O,O,O,O,O,O,O,O,O,O,O,aH⟩) ?_ ?_
        · exact ⟨dO _,fun q _ h=>absurd h (Nat.not_lt_zero _)⟩
        clear H;intro k a w hI H;obtain ⟨hk,hne⟩:=hI;dsimp only [lca,bR] at H;refine kP H (SQ fun _ K1=>SR fun _ K6=>Rm O (Rm O (Rl jT O (Rc O (Rm O (Sp 60 O ?_ ?_)))))) <;> clear H
        · intro iP a H
          try have p60:=dT iP
          have hk1:k < K.length:=by omega
          obtain ⟨nb,ahu,JC,en,hM6,hc1,hc2,hc3,hc4⟩:∃ b cap cur,Value.slice nA K.length nc=.slice (some ⟨b,0,none⟩) K.length cap∧M6=[(b,.cells cur 9 (0,0))]∧K.length<=cap∧cap<=maxLen∧cur.size=cap*1∧cur.toList.take (K.length*1)=K.map Value.string:=by
            rcases tO.2 with ⟨_,h,_⟩|h
            · omega
            exact h
          obtain ⟨Yg,-,Yj⟩:=Value.slice.inj en;subst Yg;subst Yj
          have hcell:JC[k]?=some (.string K[k]):=by
            have h1:(JC.toList.take (K.length*1))[k]?=some (.string K[k]):=by rw [hc4,oD,gU hk1];rfl
            rw [oZ,iw] at h1
            simpa using h1
          refine kH H (YM iP O (YM iP O ?_));clear H;intro a H;refine bO jT iZ k H (wg H O O iP) O O O hk1 O ?_;clear H;intro a H;refine iF iZ H (wg H O O iP) O (H.hp.SI (show (nb,Obj.cells JC 9 (0,0))∈_ by rw [hM6];simp) (by rw [eP,Nat.mul_one];exact hcell)) O ?_;clear H;intro a H;refine kH H (YM iP O ?_);clear H;intro a H;refine adN H (wg H O O iP) O O O ?_;clear H;intro a H;refine kH H (Pt iP O (Kz K6 (Cd O ?_ ?_))) <;> clear H K6
          · intro yM a H
            try have p67:=dT yM
            refine kP H (Kc K1 (SB (SC (Rm O (Rd O (Ra O ?_))))));clear H K1;intro a H;refine aB ?_;refine aX ((k+1)) (by exact H.sub ⟨O,O,O,O,O,O,O,O,O,O,O,aH⟩) ?_
            exact ⟨V,fun q h hq=>by
                by_cases e:q=k
                · subst e;intro e2;rw [e2] at yM;simp [Uv] at yM
                exact hne q h V⟩
          intro yM a H
          try have p67:=dF yM
          refine bQ ?_;refine K5 _ _ ?_;clear K5;refine fT (fun _ K5=>?_);refine fT (fun _ K6=>?_)
          have hkey:=Sj (x:=x) (l:=K) hk hne (fun h=>by
            exact Mv
          have II:(cur s t d (i+1)).2=(if k=K.length then K++[x] else K):=by rw [hst,<- hkey.2];simp [lZ,<- hK]
          have wz:(cur s t d (i+1)).1=(cur s t d i).1++[⟨((k+1:Nat):Int),jk tok⟩]:=by rw [hst,<- hkey.1];simp [lZ,<- hK]
          have Je:kF s t d (i+1)=(if k=K.length then K++[x] else K):=by rw [kF,aM hd1,II]
          refine kP H (SC (Rm O (Rm O (Rl jT O (Rc O (Kn K6 (Cd O ?_ ?_))))))) <;> clear H K6
          · intro vY a H
            try have p73:=dT vY
            exact absurd p73 V
          intro vY a H
          try have p73:=dF vY
          have hkl:¬ k=K.length:=by omega
          have RD:=adg tO (show K=kF s t d (i+1) by rw [Je,aL hkl]);refine kI ?_;refine K5 _ _ ?_;clear K5;refine fT (fun _ K5=>?_);refine dI fF [[],[],[0,1],[0,1,2],ra 0 4,[],[],[5,6],[5,6,7],ra 5 4,ra 0 10,ra 0 11,ra 0 12] [12] Z [.slice (some ⟨tb,lG,none⟩) (gZ (cu (eO s t d))).length tc,vi i,(aD tb (lG+i*3)),(aD tb (lG+i*3+2)),vi tok.to,.slice (some ⟨tb,lG,none⟩) (gZ (cu (eO s t d))).length tc,vi i,(aD tb (lG+i*3)),(aD tb (lG+i*3+1)),vi tok.from_,vi (tok.to - tok.from_),vi (min (tok.to - tok.from_) 1000)] H (aF ?_ ?_ ?_ ?_ (aF ?_ ?_ ?_ ?_ (aF ?_ ?_ ?_ ?_ (gN (gB O) fB)))) ?_
          · exact aO
          · exact aO
          · exact N8
          · exact Nc
          · exact MS
          · exact aO
          · exact aO
          · exact N9
          · exact Nf
          · exact MU
          · exact MV
          · exact Ng
          clear H;intro a w G Bh H hv;have H:=H.ak (hv 11 89 O O) O;clear hv;refine kH H (Ra O ?_);clear H;intro a H;refine aB ⟨O,?_⟩;refine K5 _ _ ?_;clear K5;refine kP H (SQ fun _ K5=>SR fun _ K6=>Rm O (Rm O ?_));clear H;intro a H;refine bO sj mh i H wn O O O V O ?_;clear H;intro a H;refine kH H (Rf DN O (Rg aG O (aK Bh (aK pK (hrow 0 _ O))) (Rc O (Kz K6 (Cd O ?_ ?_))))) <;> clear H K6
          · intro qD a H
            try have JM:=dT qD
            have hwt:jk tok=1:=aM (by simpa using qD);refine kP H (SC (cO K5 O (SR fun _ K6=>Rm O (Rc O (Kz K6 (Cd O ?_ ?_)))))) <;> clear H K5 K6
            · exact OT
            intro h97 a H
            try have BX:=dF h97
            have hd0:d=1:=by omega
            subst hd0
            have eY:fZ s t 1 (i+1)=fZ s t 1 i++[⟨((k+1:Nat):Int),jk tok⟩]:=by simp only [fZ,if_true];exact wz
            have zf:aZ 60 2 w4 (iB s t 1 (i+1)).length (iL (iB s t 1 (i+1))) M4:=hq4;refine kP H (SC (Rm O (Rm O (Rd O (Rm O ?_)))));clear H;intro a H;refine jQ ug [_,_] H wn O O O O ?_;clear H;intro a H;refine eU bV cK [_,_] [_,_] H wn O O O O O (by intro i q h;match i,h with|0,h=>exact h|n+1,h=>simp at h) O O ?_;clear H;intro b110 a w Iy H
            first
              | refine dV (Li:=[_,_,_]++(M4++M7)) (Lo:=M5) (news:=[vi ((k:Int)+1),vi 1]) bV cK O O (H.perm (fP [_,_,_] M4 M5 M7)) wn O O jW O ((H.perm (fP [_,_,_] M4 M5 M7)).hp.dw 0 O O) O V V O ?_
              | refine dV (Li:=[_,_,_]++(M4++M7)) (Lo:=M5) (news:=[vi ((k:Int)+1),vi (min (tok.to - tok.from_) 1000)]) bV cK O O (H.perm (fP [_,_,_] M4 M5 M7)) wn O O jW O ((H.perm (fP [_,_,_] M4 M5 M7)).hp.dw 0 O O) O V V O ?_
              | refine dV (Li:=[_,_]++(M4++M6)) (Lo:=M5) (news:=[vi ((k:Int)+1),vi 1]) bV cK O O (H.perm (fP [_,_] M4 M5 M6)) wn O O jW O ((H.perm (fP [_,_] M4 M5 M6)).hp.dw 0 O O) O V V O ?_
              | refine dV (Li:=[_,_]++(M4++M6)) (Lo:=M5) (news:=[vi ((k:Int)+1),vi (min (tok.to - tok.from_) 1000)]) bV cK O O (H.perm (fP [_,_] M4 M5 M6)) wn O O jW O ((H.perm (fP [_,_] M4 M5 M6)).hp.dw 0 O O) O V V O ?_
            clear H;intro pX M9 a w vo H;replace H:=H.perm (by first|exact (fP [_,_,_] M4 M9 M7).symm|exact (fP [_,_] M4 M9 M6).symm);dsimp only [lca,bR] at H
            have zh:aZ 60 2 pX (fZ s t 1 (i+1)).length (iL (fZ s t 1 (i+1))) M9:=by
              exact Dh
            refine kH H (cO K4 O (SC (Rm O (Rd O (Ra O ?_)))));clear H K4;intro a H;refine aB ?_;refine aX ((i+1,w4,pX,.slice (some ⟨nb,0,none⟩) K.length nc,M4,M9,M6,G)) (by exact (H.dB (Pl:=[_,_]) (bS:=[_]) [1] Y O).sub ⟨O,O,O,O,O,O,O,O,O,aH⟩) ?_
            (try dsimp only);exact xV
          intro qD a H
          try have JM:=dF qD
          have hwt:jk tok=min (tok.to - tok.from_) 1000:=aL (by simpa using qD);refine kP H (Kc K5 (SR fun _ K6=>Rm O (Rc O (Kz K6 (Cd O ?_ ?_))))) <;> clear H K5 K6
          · exact OT
          intro h97 a H
          try have BX:=dF h97
          have hd0:d=1:=by omega
          subst hd0
          have eY:fZ s t 1 (i+1)=fZ s t 1 i++[⟨((k+1:Nat):Int),jk tok⟩]:=by simp only [fZ,if_true];exact wz
          have zf:aZ 60 2 w4 (iB s t 1 (i+1)).length (iL (iB s t 1 (i+1))) M4:=hq4;refine kP H (SC (Rm O (Rm O (Rd O (Rm O ?_)))));clear H;intro a H;refine jQ ug [_,_] H wn O O O O ?_;clear H;intro a H;refine eU bV cK [_,_] [_,_] H wn O O O O O (by intro i q h;match i,h with|0,h=>exact h|n+1,h=>simp at h) O O ?_;clear H;intro b110 a w Iy H
          first
            | refine dV (Li:=[_,_,_]++(M4++M7)) (Lo:=M5) (news:=[vi ((k:Int)+1),vi 1]) bV cK O O (H.perm (fP [_,_,_] M4 M5 M7)) wn O O jW O ((H.perm (fP [_,_,_] M4 M5 M7)).hp.dw 0 O O) O V V O ?_
            | refine dV (Li:=[_,_,_]++(M4++M7)) (Lo:=M5) (news:=[vi ((k:Int)+1),vi (min (tok.to - tok.from_) 1000)]) bV cK O O (H.perm (fP [_,_,_] M4 M5 M7)) wn O O jW O ((H.perm (fP [_,_,_] M4 M5 M7)).hp.dw 0 O O) O V V O ?_
            | refine dV (Li:=[_,_]++(M4++M6)) (Lo:=M5) (news:=[vi ((k:Int)+1),vi 1]) bV cK O O (H.perm (fP [_,_] M4 M5 M6)) wn O O jW O ((H.perm (fP [_,_] M4 M5 M6)).hp.dw 0 O O) O V V O ?_
            | refine dV (Li:=[_,_]++(M4++M6)) (Lo:=M5) (news:=[vi ((k:Int)+1),vi (min (tok.to - tok.from_) 1000)]) bV cK O O (H.perm (fP [_,_] M4 M5 M6)) wn O O jW O ((H.perm (fP [_,_] M4 M5 M6)).hp.dw 0 O O) O V V O ?_
          clear H;intro pX M9 a w vo H;replace H:=H.perm (by first|exact (fP [_,_,_] M4 M9 M7).symm|exact (fP [_,_] M4 M9 M6).symm);dsimp only [lca,bR] at H
          have zh:aZ 60 2 pX (fZ s t 1 (i+1)).length (iL (fZ s t 1 (i+1))) M9:=by
            exact Dh
          refine kH H (cO K4 O (SC (Rm O (Rd O (Ra O ?_)))));clear H K4;intro a H;refine aB ?_;refine aX ((i+1,w4,pX,.slice (some ⟨nb,0,none⟩) K.length nc,M4,M9,M6,G)) (by exact (H.dB (Pl:=[_,_]) (bS:=[_]) [1] Y O).sub ⟨O,O,O,O,O,O,O,O,O,aH⟩) ?_
          (try dsimp only);exact xV
        intro iP a H
        try have p60:=dF iP
        refine kH H (aU iP O (aU iP O (Pf iP O (Kz K6 (Cf O O ?_)))));clear H K6;intro a H;refine bQ ?_;refine K5 _ _ ?_;clear K5;refine fT (fun _ K5=>?_);refine fT (fun _ K6=>?_)
        have hkey:=Sj (x:=x) (l:=K) hk hne (fun h=>by
          exact Mv
        have II:(cur s t d (i+1)).2=(if k=K.length then K++[x] else K):=by rw [hst,<- hkey.2];simp [lZ,<- hK]
        have wz:(cur s t d (i+1)).1=(cur s t d i).1++[⟨((k+1:Nat):Int),jk tok⟩]:=by rw [hst,<- hkey.1];simp [lZ,<- hK]
        have Je:kF s t d (i+1)=(if k=K.length then K++[x] else K):=by rw [kF,aM hd1,II]
        refine kP H (SC (Rm O (Rm O (Rl jT O (Rc O (Kn K6 (Cd O ?_ ?_))))))) <;> clear H K6
        · intro vY a H
          try have p73:=dT vY
          have hkl:k=K.length:=by omega
          refine kP H (SC (Rm O (Rm O ?_)));clear H;intro a H;refine eU jT iZ [_] [_] H wn O O O O O (by intro i q h;match i,h with|0,h=>exact h|n+1,h=>simp at h) O O ?_;clear H;intro b76 a w aha H;have H:=H.perm (Tj [_,_] M4 M5 M6);refine dV (Li:=[_,_]++(M4++M5)) (Lo:=M6) (news:=[.string x]) jT iZ O O H wn O O tO O (H.hp.dw 0 O O) O V V O ?_;clear H;intro v77 M7 a w abo H;have H:=H.perm (Tj [_,_] M4 M5 M7).symm;dsimp only [lca,bR] at H
          have RD:aZ 9 1 v77 (kF s t d (i+1)).length ((kF s t d (i+1)).map Value.string) M7:=by
            rw [Je,aM hkl,gW,ku];exact abo
          refine kH H (cO K5 O (SQ fun _ K6=>?_));clear H K5;intro a H;refine dI fF [[],[],[0,1],[0,1,2],ra 0 4,[],[],[5,6],[5,6,7],ra 5 4,ra 0 10,ra 0 11,ra 0 12] [12] Z [.slice (some ⟨tb,lG,none⟩) (gZ (cu (eO s t d))).length tc,vi i,(aD tb (lG+i*3)),(aD tb (lG+i*3+2)),vi tok.to,.slice (some ⟨tb,lG,none⟩) (gZ (cu (eO s t d))).length tc,vi i,(aD tb (lG+i*3)),(aD tb (lG+i*3+1)),vi tok.from_,vi (tok.to - tok.from_),vi (min (tok.to - tok.from_) 1000)] H (aF ?_ ?_ ?_ ?_ (aF ?_ ?_ ?_ ?_ (aF ?_ ?_ ?_ ?_ (gN (gB O) fB)))) ?_
          · exact aO
          · exact aO
          · exact N8
          · exact Nc
          · exact MS
          · exact aO
          · exact aO
          · exact N9
          · exact Nf
          · exact MU
          · exact MV
          · exact Ng
          clear H;intro a w G Bh H hv;have H:=H.ak (hv 11 89 O O) O;clear hv;refine kH H (Ra O ?_);clear H;intro a H;refine aB ⟨O,?_⟩;refine K6 _ _ ?_;clear K6;refine kP H (SQ fun _ K5=>SR fun _ K6=>Rm O (Rm O ?_));clear H;intro a H;refine bO sj mh i H wn O O O V O ?_;clear H;intro a H;refine kH H (Rf DN O (Rg aG O (aK Bh (aK pK (hrow 0 _ O))) (Rc O (Kz K6 (Cd O ?_ ?_))))) <;> clear H K6
          · intro qD a H
            try have JM:=dT qD
            have hwt:jk tok=1:=aM (by simpa using qD);refine kP H (SC (cO K5 O (SR fun _ K6=>Rm O (Rc O (Kz K6 (Cd O ?_ ?_)))))) <;> clear H K5 K6
            · exact OX
            intro h97 a H
            try have BX:=dF h97
            have hd0:d=1:=by omega
            subst hd0
            have eY:fZ s t 1 (i+1)=fZ s t 1 i++[⟨((k+1:Nat):Int),jk tok⟩]:=by simp only [fZ,if_true];exact wz
            have zf:aZ 60 2 w4 (iB s t 1 (i+1)).length (iL (iB s t 1 (i+1))) M4:=hq4;refine kP H (SC (Rm O (Rm O (Rd O (Rm O ?_)))));clear H;intro a H;refine jQ ug [_,_] H wn O O O O ?_;clear H;intro a H;refine eU bV cK [_,_] [_,_] H wn O O O O O (by intro i q h;match i,h with|0,h=>exact h|n+1,h=>simp at h) O O ?_;clear H;intro b110 a w Iy H
            first
              | refine dV (Li:=[_,_,_]++(M4++M7)) (Lo:=M5) (news:=[vi ((k:Int)+1),vi 1]) bV cK O O (H.perm (fP [_,_,_] M4 M5 M7)) wn O O jW O ((H.perm (fP [_,_,_] M4 M5 M7)).hp.dw 0 O O) O V V O ?_
              | refine dV (Li:=[_,_,_]++(M4++M7)) (Lo:=M5) (news:=[vi ((k:Int)+1),vi (min (tok.to - tok.from_) 1000)]) bV cK O O (H.perm (fP [_,_,_] M4 M5 M7)) wn O O jW O ((H.perm (fP [_,_,_] M4 M5 M7)).hp.dw 0 O O) O V V O ?_
              | refine dV (Li:=[_,_]++(M4++M6)) (Lo:=M5) (news:=[vi ((k:Int)+1),vi 1]) bV cK O O (H.perm (fP [_,_] M4 M5 M6)) wn O O jW O ((H.perm (fP [_,_] M4 M5 M6)).hp.dw 0 O O) O V V O ?_
              | refine dV (Li:=[_,_]++(M4++M6)) (Lo:=M5) (news:=[vi ((k:Int)+1),vi (min (tok.to - tok.from_) 1000)]) bV cK O O (H.perm (fP [_,_] M4 M5 M6)) wn O O jW O ((H.perm (fP [_,_] M4 M5 M6)).hp.dw 0 O O) O V V O ?_
            clear H;intro pX M9 a w vo H;replace H:=H.perm (by first|exact (fP [_,_,_] M4 M9 M7).symm|exact (fP [_,_] M4 M9 M6).symm);dsimp only [lca,bR] at H
            have zh:aZ 60 2 pX (fZ s t 1 (i+1)).length (iL (fZ s t 1 (i+1))) M9:=by
              exact Dh
            refine kH H (cO K4 O (SC (Rm O (Rd O (Ra O ?_)))));clear H K4;intro a H;refine aB ?_;refine aX ((i+1,w4,pX,v77,M4,M9,M7,G)) (by exact (H.dB (Pl:=[_,_,_]) (bS:=[_]) [2] Y O).sub ⟨O,O,O,O,O,O,O,O,O,aH⟩) ?_
            (try dsimp only);exact xV
          intro qD a H
          try have JM:=dF qD
          have hwt:jk tok=min (tok.to - tok.from_) 1000:=aL (by simpa using qD);refine kP H (Kc K5 (SR fun _ K6=>Rm O (Rc O (Kz K6 (Cd O ?_ ?_))))) <;> clear H K5 K6
          · exact OX
          intro h97 a H
          try have BX:=dF h97
          have hd0:d=1:=by omega
          subst hd0
          have eY:fZ s t 1 (i+1)=fZ s t 1 i++[⟨((k+1:Nat):Int),jk tok⟩]:=by simp only [fZ,if_true];exact wz
          have zf:aZ 60 2 w4 (iB s t 1 (i+1)).length (iL (iB s t 1 (i+1))) M4:=hq4;refine kP H (SC (Rm O (Rm O (Rd O (Rm O ?_)))));clear H;intro a H;refine jQ ug [_,_] H wn O O O O ?_;clear H;intro a H;refine eU bV cK [_,_] [_,_] H wn O O O O O (by intro i q h;match i,h with|0,h=>exact h|n+1,h=>simp at h) O O ?_;clear H;intro b110 a w Iy H
          first
            | refine dV (Li:=[_,_,_]++(M4++M7)) (Lo:=M5) (news:=[vi ((k:Int)+1),vi 1]) bV cK O O (H.perm (fP [_,_,_] M4 M5 M7)) wn O O jW O ((H.perm (fP [_,_,_] M4 M5 M7)).hp.dw 0 O O) O V V O ?_
            | refine dV (Li:=[_,_,_]++(M4++M7)) (Lo:=M5) (news:=[vi ((k:Int)+1),vi (min (tok.to - tok.from_) 1000)]) bV cK O O (H.perm (fP [_,_,_] M4 M5 M7)) wn O O jW O ((H.perm (fP [_,_,_] M4 M5 M7)).hp.dw 0 O O) O V V O ?_
            | refine dV (Li:=[_,_]++(M4++M6)) (Lo:=M5) (news:=[vi ((k:Int)+1),vi 1]) bV cK O O (H.perm (fP [_,_] M4 M5 M6)) wn O O jW O ((H.perm (fP [_,_] M4 M5 M6)).hp.dw 0 O O) O V V O ?_
            | refine dV (Li:=[_,_]++(M4++M6)) (Lo:=M5) (news:=[vi ((k:Int)+1),vi (min (tok.to - tok.from_) 1000)]) bV cK O O (H.perm (fP [_,_] M4 M5 M6)) wn O O jW O ((H.perm (fP [_,_] M4 M5 M6)).hp.dw 0 O O) O V V O ?_
          clear H;intro pX M9 a w vo H;replace H:=H.perm (by first|exact (fP [_,_,_] M4 M9 M7).symm|exact (fP [_,_] M4 M9 M6).symm);dsimp only [lca,bR] at H
          have zh:aZ 60 2 pX (fZ s t 1 (i+1)).length (iL (fZ s t 1 (i+1))) M9:=by
            exact Dh
          refine kH H (cO K4 O (SC (Rm O (Rd O (Ra O ?_)))));clear H K4;intro a H;refine aB ?_;refine aX ((i+1,w4,pX,v77,M4,M9,M7,G)) (by exact (H.dB (Pl:=[_,_,_]) (bS:=[_]) [2] Y O).sub ⟨O,O,O,O,O,O,O,O,O,aH⟩) ?_
          (try dsimp only);exact xV
        intro vY a H
        try have p73:=dF vY
        exact absurd p73 V
      intro Ii a H
      try have p38:=dF Ii
      refine bQ ?_;refine K2 _ _ ?_;clear K2;refine kP H (SC (Rm O (Rd O (Ra O ?_))));clear H;intro a H;refine aB ?_;refine aX ((d+1,w4,w5,w6,M4,M5,M6,g2)) (by exact (H.dB (Pl:=[_]) (bS:=[]) [] Y O).sub ⟨O,O,O,O,O,O,aH⟩) ?_
      try dsimp only
      have hie:i=min (aY (eO s t d)).length 2048:=by omega
      subst hie;obtain ⟨o1,o2,o3⟩:=Tf (a:=s) (b:=t) hd1;rw [o1] at hq4;rw [o2] at jW;rw [o3] at tO;exact ⟨V,hq4,jW,tO,fE⟩
    intro lT a H
    try have p35:=dF lT
    refine kH H (aR lT O (Pf lT O (Kz K4 (Cf O O ?_))));clear H K4;intro a H;refine bQ ?_;refine K2 _ _ ?_;clear K2;refine kP H (SC (Rm O (Rd O (Ra O ?_))));clear H;intro a H;refine aB ?_;refine aX ((d+1,w4,w5,w6,M4,M5,M6,g2)) (by exact (H.dB (Pl:=[_]) (bS:=[]) [] Y O).sub ⟨O,O,O,O,O,O,aH⟩) ?_
    try dsimp only
    have hie:i=min (aY (eO s t d)).length 2048:=by omega
    subst hie;obtain ⟨o1,o2,o3⟩:=Tf (a:=s) (b:=t) hd1;rw [o1] at hq4;rw [o2] at jW;rw [o3] at tO;exact ⟨V,hq4,jW,tO,fE⟩
  intro dH a H
  try have jY:=dF dH
  refine bQ ?_;refine K3 _ _ ?_;clear K3;refine kP H (SR fun _ K2=>Rm O (Rm O (Ra O (au K2 O ?_))));clear H K2;intro a H;refine bN ?_
  have hde:d=2:=by omega
  subst hde;have H:=H.perm (kG [] L4 L5 L6);obtain ⟨Ga,hma,hra,H⟩:=St.kU (Li:=[]++(L5++L6)) (Lo:=L4) H hr4 (rows:=(vB s).map bJ.dat) (by simp [iB]) (by have:=KA g (vB s);simpa [iB] using this);have H:=H.perm (List.perm_append_comm (l₁:=L5) (l₂:=L6));obtain ⟨Gb,hmb,hrb,H⟩:=St.kU (Li:=L6) (Lo:=L5) H RF (rows:=(nX s t).map bJ.dat) (by simp [fZ]) (by have:=KA Ga (nX s t);simpa [fZ] using this);refine (bZ H results37 (.cons (aJ H O) (.cons (aJ H O) .nil)) ?_).1;exact H.rt ⟨_,_,O,hra.mono hmb,hrb⟩
theorem GI {a b:ByteArray} {i:Nat} (h:i < a.size):dZ (a++b) i=dZ a i:=by
 rw [oG h,oG (by rw [ByteArray.size_append];omega),ByteArray.getElem_append_left h]
theorem GJ (a b:ByteArray) (j:Nat):dZ (a++b) (a.size+j)=dZ b j:=by
 by_cases h:j < b.size
 ·rw [oG h,oG (by rw [ByteArray.size_append];omega),ByteArray.getElem_append_right V]
  congr 2
  simp
 unfold dZ
 rw [dif_neg (by rw [ByteArray.size_append];omega),dif_neg h]
theorem P9 {a b:ByteArray} {t n:Nat}:∀ (f k:Nat) (low high p:Int),(jN a t n f k low high p).2.2=true->jN (a++b) t n f k low high p=jN a t n f k low high p
 | 0,_,_,_,_,_=>rfl
 | f+1,k,low,high,p,h=>by
  unfold jN at h |-
  by_cases h1:n<=k
  ·rw [aM h1,aM h1]
  rw [aL h1] at h;rw [aL h1,aL h1]
  by_cases h2:a.size<=t+k∨dZ a (t+k) < low∨high < dZ a (t+k)
  ·rw [aM h2] at h;cases h
  rw [aL h2] at h
  have h3:t+k < a.size:=by omega
  rw [GI h3,aL h2,aL (by rw [ByteArray.size_append];omega)];exact P9 f (k+1) _ _ _ h
theorem Qa (a b:ByteArray) (j n:Nat):∀ (f k:Nat) (low high p:Int),jN (a++b) (a.size+j) n f k low high p=jN b j n f k low high p
 | 0,_,_,_,_=>rfl
 | f+1,k,low,high,p=>by
  unfold jN
  have e:dZ (a++b) (a.size+j+k)=dZ b (j+k):=by rw [Nat.add_assoc];exact GJ a b (j+k)
  have e2:((a++b).size<=a.size+j+k)↔(b.size<=j+k):=by rw [ByteArray.size_append];omega
  rw [e,Qa a b j n f]
  simp only [e2]
theorem Qc {a b:ByteArray} {i:Nat} (hi:i < a.size) (h:(dP a i).2.2=true):dP (a++b) i=dP a i:=by
 unfold dP at h |-
 simp only [GI hi] at h |-
 split
 ·rfl
 rename_i h1
 rw [aL h1] at h
 split
 ·rfl
 rename_i h2
 rw [aL h2] at h;exact P9 _ _ _ _ _ h
theorem Qd (a b:ByteArray) (j:Nat):dP (a++b) (a.size+j)=dP b j:=by
 unfold dP
 simp only [GJ,Qa]
theorem ZJ (a b:ByteArray):∀ (n j:Nat),b.size - j=n->eH b j < 0->eH (a++b) (a.size+j) < 0:=by
 intro n
 induction n using Nat.strongRecOn with
 | _ n ih =>
  intro j hn h;rw [eH]
  by_cases hj:j < b.size
  ·rw [eH,dif_pos hj] at h;rw [dif_pos (by rw [ByteArray.size_append];omega)]
   by_cases hd:(dP b j).2.2=true
   ·rw [dif_pos hd] at h;have hs:=(yj b j hj).2 hd;rw [dif_pos (by rw [Qd];exact hd),Qd,Nat.add_assoc];exact ih _ V (j+(dP b j).2.1) O h
   rw [dif_neg hd] at h;omega
  rw [dif_neg (by rw [ByteArray.size_append];omega)];decide
theorem ZI (a b:ByteArray) (hb:eH b 0 < 0):∀ (n i:Nat),a.size - i=n->i<=a.size->eH a i < 0->eH (a++b) i < 0:=by
 intro n
 induction n using Nat.strongRecOn with
 | _ n ih =>
  intro i hn hi h
  by_cases hj:i < a.size
  ·rw [eH,dif_pos hj] at h;rw [eH,dif_pos (by rw [ByteArray.size_append];omega)]
   by_cases hd:(dP a i).2.2=true
   ·rw [dif_pos hd] at h;have hs:=(yj a i hj).2 hd;rw [dif_pos (by rw [Qc hj hd];exact hd),Qc hj hd];exact ih _ V (i+(dP a i).2.1) O hs.2 h
   rw [dif_neg hd] at h;omega
  obtain rfl:i=a.size:=by omega
  exact ZJ a b b.size 0 O hb
theorem Fw {a b:ByteArray} (ha:dW a=true) (hb:dW b=true):dW (a++b)=true:=by
 unfold dW at *
 exact decide_eq_true (ZI a b (qo hb) a.size 0 O (dO _) (qo ha))
theorem P5 (a b:ByteArray):∀ (n j:Nat),b.size - j=n->jo (a++b) (a.size+j)=jo b j
 | 0,j,h=>by
  rw [jo.eq_def (a++b),jo.eq_def b,aL (show ¬ a.size+j < (a++b).size by rw [ByteArray.size_append];omega),aL (show ¬ j < b.size by omega)]
 | n+1,j,h=>by
  have ih:=P5 a b n (j+1) V;rw [jo.eq_def (a++b),jo.eq_def b,aM (show a.size+j < (a++b).size by rw [ByteArray.size_append];omega),aM (show j < b.size by omega),GJ,Nat.add_assoc,ih]
theorem PZ (a b:ByteArray):∀ (n i:Nat),a.size - i=n->i<=a.size->jo (a++b) i=jo a i+jo b 0
 | 0,i,h,hi=>by
  obtain rfl:i=a.size:=by omega
  rw [jo.eq_def a a.size,aL (Nat.lt_irrefl _),eP];exact P5 a b b.size 0 rfl
 | n+1,i,h,hi=>by
  have ih:=PZ a b n (i+1) V V;rw [jo.eq_def (a++b),jo.eq_def a i,aM (show i < (a++b).size by rw [ByteArray.size_append];omega),aM (show i < a.size by omega),GI (show i < a.size by omega),ih,Nat.add_assoc]
theorem XH {a b:ByteArray} (ha:dW a=true) (hb:dW b=true):kT (a++b)=kT a+kT b:=by
 unfold kT
 rw [aM ha,aM hb,aM (Fw ha hb)];exact PZ a b a.size 0 O (dO _)
theorem DR:fu prog 34 0 0:=⟨Z⟩
theorem DT:fu prog 34 3 3:=⟨Z⟩
theorem Y5:bD 71:=bH func71 O
theorem jy:prog.underlying 32=some (.slice 34):=by kernel_rfl
theorem iG:Ty prog 34 11 176 [.int .i64 0,.int .i64 0,.int .i64 0,.string ⟨#[]⟩,.slice none 0 0,.int .i64 0,.int .i64 0,.slice none 0 0,.slice none 0 0,.slice none 0 0,.slice none 0 0] true:=⟨Z,Z⟩
theorem YV:bD 62:=bH func62 O
def vI (x:aN):Nat:=if x.kind=1 then kT x.text else 1
def vH (x:aN):Int:=if x.kind=1 then zV x.text else 0
theorem afs (G:GH) (w0:World) (hG:Hold G w0) (x:aN) (i2 i3:Int) (p i5 i6 d l f r:aj) (hs:x.text.size < 4611686018427387904) :
  Calls prog 62 #[.agg #[vi x.kind,vi i2,vi i3,.string x.text,p,i5,i6,d,l,f,r]] w0 (bK w0 G fun v G'=>v=.tuple #[vi (vI x),vi (vH x)]∧G=G'):=by
 refine eN [(0,_)] func62 O ntmps62 O O hG ?_;intro a H;refine iV (fun _ K1=>?_);refine lV (cs:=[_,_,_,_,_,_,_,_,_,_,_]) H wn O O O ?_;clear H;intro b1 a w hb1 H;refine kH H (Ra O (au K1 O (SQ fun _ K2=>SR fun _ K3=>fJ DR aG 0 O O (Rc O (Kz K3 (Cd O ?_ ?_)))))) <;> clear H K1 K3
 ·intro h6 a H
  try have p6:=dT h6
  refine kP H (SR fun _ K1=>Ra O (au K1 O ?_));clear H K1;intro a H;refine bN ?_;refine (bZ H results62 (.cons (aJ H O) (.cons (aJ H O) .nil)) ?_).1;exact H.rt ⟨by simp only [vI,vH,aL p6];rfl,rfl⟩
 intro h6 a H
 try have p6:=dF h6
 refine kP H (Kc K2 (SR fun _ K1=>fJ DT iZ 0 O O ?_));clear H K2;intro a H;refine s_call Y5 H wn O (XQ _ _ H.ro _ hs) O ?_;clear H;rintro v9 _ a w ⟨rfl,rfl⟩ - H;(iterate 2 refine fG H wn O O O ?_;clear H;intro a H);refine kH H (Ra O (au K1 O ?_));clear H K1;intro a H;refine bN ?_;refine (bZ H results62 (.cons (aJ H O) (.cons (aJ H O) .nil)) ?_).1;exact H.rt ⟨by rw [xO] at p6;simp only [vI,vH,aM p6],O⟩
def pF (l:List aN):Bool:=l.all fun x=>decide (vH x=0)
def nJ:List aN->Nat
 | []=>0
 | x :: l=>vI x+nJ l
def Jz (l:List aN):Int:=if pF l then nJ l else 0
def tT (l:List aN):Int:=if pF l then 0 else 12
def mX:List aN->Nat
 | []=>0
 | x :: l=>x.text.size+1+mX l
theorem Uy:∀ l:List aN,nJ l<=mX l
 | []=>aV _
 | x :: l=>by
  have:=Uy l;have h2:=XI x.text
  simp only [nJ,mX,vI];split <;> omega
theorem UZ {x:aN}:∀ {l:List aN},x∈l->x.text.size < mX l
 | [],h=>by cases h
 | y :: l,h=>by
  simp only [mX]
  rcases mq.1 h with rfl|h
  ·omega
  have:=UZ h;omega
theorem aeM (l m:List aN):nJ (l++m)=nJ l+nJ m:=by
 induction l with
 | nil=>simp [nJ]
 | cons x l ih=>simp [nJ,ih];omega
theorem aeN {l:List aN} {k:Nat} (h:k < l.length):nJ (l.take (k+1))=nJ (l.take k)+vI l[k]:=by
 rw [kg h,aeM];simp [nJ]
theorem afn (l m:List aN):mX (l++m)=mX l+mX m:=by
 induction l with
 | nil=>simp [mX]
 | cons x l ih=>simp [mX,ih];omega
theorem afo (l:List aN) (k:Nat):mX (l.take k)<=mX l:=by
 have:=afn (l.take k) (l.drop k);rw [List.take_append_drop] at this;omega
theorem DW {G:GH} {l:List aN} {A:Option Addr} {k:Nat} (hk:k < l.length) (hg:∀ k r,(l.map aN.dat)[k]?=some r->∃ b o cs,A=some ⟨b,o,none⟩∧cs.length=11∧(∀ j u,cs[j]?=some u->aQ G b (o+k*11+j)=some u)∧aT G r cs) :
  ∃ b o pA pn pc dA dn dc yA yn yc fA fn fc rA rn rc,A=some ⟨b,o,none⟩∧(∀ j u,[vi l[k].kind,vi l[k].code,vi l[k].id,.string l[k].text,.slice pA pn pc,vi l[k].head.marks.ins,vi l[k].head.marks.move,.slice dA dn dc,.slice yA yn yc,.slice fA fn fc,.slice rA rn rc][j]?=some u->aQ G b (o+k*11+j)=some u) ∧
   oV G l[k].head (.slice pA pn pc) (.slice dA dn dc) (.slice yA yn yc)∧ay G (.sl 11 (l[k].flow.map aN.dat)) (.slice fA fn fc)∧ay G (.sl 6 (l[k].rows.map bg.dat)) (.slice rA rn rc):=by
 obtain ⟨b,o,cs,h1,h2,h3,h4⟩:=hg k l[k].dat (by simp [hk]);obtain ⟨pA,pn,pc,dA,dn,dc,yA,yn,yc,fA,fn,fc,rA,rn,rc,rfl,h5,h6,h7⟩:=h4.item;exact ⟨b,o,pA,pn,pc,dA,dn,dc,yA,yn,yc,fA,fn,fc,rA,rn,rc,h1,h3,h5,h6,h7⟩
theorem X6 {l:List aN} {k:Nat} (h:k < l.length):pF (l.take (k+1))=(pF (l.take k) && decide (vH l[k]=0)):=by
 unfold pF
 rw [kg h,List.all_append];simp
theorem X5 {l:List aN} {k:Nat} (h:k < l.length) (hn:¬ vH l[k]=0):pF l=false:=by
 unfold pF
 rw [List.all_eq_false];exact ⟨l[k],dK h,by simpa using hn⟩
theorem Sr:∀ l:List aN,l.length<=mX l
 | []=>aV _
 | x :: l=>by have:=Sr l;simp only [jB,mX];omega
theorem UY:∀ l:List aN,mX l<=fI l
 | []=>aV _
 | x :: l=>by
  have:=UY l;have h2:=xD x
  simp only [mX,fI,gV,gY] at *;omega
theorem aci (G:GH) (w0:World) (hG:Hold G w0) (l:List aN) (v:aj) (hv:ay G (.sl 11 (l.map aN.dat)) v) (hz:fI l<=4294967296) :
  Calls prog 48 #[v] w0 (bK w0 G fun v G'=>v=.tuple #[vi (Jz l),vi (tT l)]∧G=G'):=by
 obtain ⟨A,c,rfl,hc1,hc2,hg⟩:=hv.slice;rw [bG] at *;have hll:=Sr l;have htz:=UY l;refine eN [(0,_)] func48 O ntmps48 O O hG ?_;intro a H;refine kP H (SR fun _ K1=>Ra O (au K1 O (SR fun _ K2=>au K2 O (SQ fun _ K3=>SR fun _ K4=>Rm O (Rl jy O (Rm O (Kz K4 (SB ?_))))))));clear H K1 K2 K4;intro a H;skip;refine dz (ι:=Nat) (Tc:=[(9,_),(10,_)]) (Lc:=[]) (fun gh=>[(4,vi (nJ (l.take gh))),(11,vi gh)]) (fun gh=>[]) (fun gh=>G) (fun gh=>gh<=l.length∧pF (l.take gh)=true) (fun gh=>l.length - gh) (0) (by exact H.sub ⟨O,O,O,O,aH⟩) ?_ ?_
 ·exact ⟨V,by simp [pF]⟩
 clear H;intro k a w hI H;obtain ⟨hk,hd⟩:=hI;dsimp only [lca,bR] at H;refine kP H (SR fun _ K1=>Rc O (Kz K1 (SQ fun _ K2=>Cd O ?_ ?_))) <;> clear H K1
 ·intro h12 a H
  try have rR:=dT h12
  have hk2:k < l.length:=by omega
  obtain ⟨b,o,pA,pn,pc,dA,dn,dc,yA,yn,yc,fA,fn,fc,rA,rn,rc,rfl,hrow,-⟩:=DW hk2 hg;have hsm:=aeN hk2;have hle:=Uy (l.take (k+1));have hle2:=afo l (k+1);refine kP H (Kc K2 (SQ fun _ K1=>SB (SR fun _ K4=>Ri jy iG O O ?_)));clear H K2;intro a H;refine dL iG (cs:=[_,_,_,_,_,_,_,_,_,_,_]) H wn O O (fun j v hj=>H.hp.aQ (hrow j v hj)) O ?_;clear H;intro a H;refine jv iG H wn O ?_;clear H;intro b6 a w hb6 H;refine eZ iG 0 (vs:=[_,_,_,_,_,_,_,_,_,_,_]) H wn O ?_;clear H;intro w H;refine K4 _ _ ?_;clear K4;refine iV (fun _ K2=>?_);refine dL iG (cs:=[_,_,_,_,_,_,_,_,_,_,_]) H wn O O (H.hp.dw 0 O O) O ?_;clear H;intro a H;refine s_call YV H wn O (afs _ _ H.ro _ _ _ _ _ _ _ _ _ _ (by have:=UZ (dK hk2);omega)) rfl ?_;clear H;rintro v17 _ a w ⟨rfl,rfl⟩ - H;refine kH H (Rm O ?_);clear H;intro a H;(iterate 2 refine fG H wn O O O ?_;clear H;intro a H);refine kH H (Ra O (au K2 O (SQ fun _ K4=>SR fun _ K5=>Rm O (Rc O (Kz K5 (Cd O ?_ ?_)))))) <;> clear H K2 K5
  ·intro h21 a H
   try have kN:=dT h21
   refine kP H (SR fun _ K2=>Ra O (au K2 O ?_));clear H K2;intro a H;refine bN ?_;refine (bZ H results48 (.cons (aJ H O) (.cons (aJ H O) .nil)) ?_).1;exact H.rt ⟨by simp [Jz,tT,X5 hk2 kN],O⟩
  intro h21 a H
  try have kN:=dF h21
  refine kP H (Kc K4 (SC (Rm O (Rm O (Rd O ?_)))));clear H K4;intro a H;rw [<- Int.natCast_add,<- hsm] at H;refine kH H (cO K1 O (SC (Rd O (Rm O ?_))));clear H K1;intro a H;refine aB ?_;refine aX ((k+1)) (by exact (H.dB (Pl:=[_]) (bS:=[]) [] Y O).sub ⟨O,O,O,O,aH⟩) ?_
  exact ⟨V,by rw [X6 hk2,hd];simpa using kN⟩
 intro h12 a H
 try have rR:=dF h12
 refine bQ ?_;refine K3 _ _ ?_;clear K3;refine kP H (SR fun _ K1=>Rm O (Ra O (au K1 O ?_)));clear H K1;intro a H;refine bN ?_;refine (bZ H results48 (.cons (aJ H O) (.cons (aJ H O) .nil)) ?_).1;exact H.rt ⟨by rw [show l.take k=l from gX V] at hd |-;simp [Jz,tT,hd],O⟩
def qx (x:aN):ByteArray :=
 if x.kind=2 then ⟨#[10]⟩ else if x.kind=3 then ⟨#[29]⟩ else if x.kind=5∨x.kind=6∨x.kind=7∨x.kind=8 then ⟨#[239,191,188]⟩
 else if x.kind=4∧x.code=1 then ⟨#[11]⟩ else if x.kind=4∧x.code=2 then ⟨#[12]⟩ else if x.kind=4∧x.code=3 then ⟨#[9]⟩ else ⟨#[239,191,189]⟩
def mF (x:aN):ByteArray:=if x.kind=1 then x.text else qx x
theorem Ez {s:ByteArray} {c:Int} {n:Nat} (hz:s.size=n) (hn:0 < n) (hd:dP s 0=(c,n,true)) (hc:¬ lM .and .u8 (dZ s 0) 192=128) (hr:∀ j,0 < j->j < n->lM .and .u8 (dZ s j) 192=128):dW s=true∧kT s=1:=by
 have hv:dW s=true:=by
  unfold dW
  rw [eH,dif_pos V,dif_pos (by rw [hd]),hd,eH,dif_neg (by dsimp only;omega)]
  rfl
 refine ⟨hv,?_⟩
 have h0:∀ m j,n - j=m->0 < j->jo s j=0:=by
  intro m
  induction m with
  | zero=>intro j h1 h2;rw [jo,dh]
  | succ m ih =>
   intro j h1 h2;have h3:=ih (j+1) V V;rw [jo.eq_def,aM (show j < s.size by omega),aM (hr j h2 V),h3]
 unfold kT
 rw [aM hv,jo.eq_def,aM (show 0 < s.size by omega),aL hc,h0 _ 1 rfl Y]
theorem UG {P:Nat->Prop} (h1:P 1) (h2:P 2):∀ j,0 < j->j < 3->P j
 | 1,_,_=>h1
 | 2,_,_=>h2
 | 0,h,_=>absurd h Y
 | _+3,_,h=>by omega
theorem Qf:dW ⟨#[]⟩=true∧kT ⟨#[]⟩=0:=by
 have hv:dW ⟨#[]⟩=true:=by unfold dW;rw [eH,dif_neg Y];rfl
 exact ⟨hv,by unfold kT;rw [aM hv,jo,aL Y]⟩
theorem PI (x:aN):(dW (qx x)=true∧kT (qx x)=1)∧(qx x).size<=3∧(qx x).size≠0:=by
 have o1:∀ b:UInt8,dP ⟨#[b]⟩ 0=((b.toNat:Int),1,true)->¬ lM .and .u8 (dZ ⟨#[b]⟩ 0) 192=128->(dW ⟨#[b]⟩=true∧kT ⟨#[b]⟩=1)∧(⟨#[b]⟩:ByteArray).size<=3∧(⟨#[b]⟩:ByteArray).size≠0:=fun b h1 h2=>⟨Ez (n:=1) O Y h1 h2 fun j h3 h4=>by omega,by show 1<=3;decide,by show 1≠0;decide⟩
 unfold qx
 split
 ·exact o1 10 Y Y
 split
 ·exact o1 29 Y Y
 split
 ·exact ⟨Ez (c:=65532) (n:=3) O Y Y Y (UG Y Y),Y,Y⟩
 split
 ·exact o1 11 Y Y
 split
 ·exact o1 12 Y Y
 split
 ·exact o1 9 Y Y
 exact ⟨Ez (c:=65533) (n:=3) O Y Y Y (UG Y Y),Y,Y⟩
theorem Xx {x:aN} (h:x.kind=1->dW x.text=true):dW (mF x)=true∧kT (mF x)=vI x:=by
 unfold mF vI
 by_cases h1:x.kind=1
 ·rw [aM h1,aM h1];exact ⟨h h1,O⟩
 rw [aL h1,aL h1];exact (PI x).1
def fH (l:List aN):List UInt8:=l.flatMap fun x=>(mF x).data.toList
theorem afl (x:aN) (l:List aN):(⟨(fH (x :: l)).toArray⟩:ByteArray)=mF x++⟨(fH l).toArray⟩:=by
 apply ByteArray.ext
 simp [fH]
theorem KG:∀ {l:List aN},(∀ x∈l,x.kind=1->dW x.text=true)->dW ⟨(fH l).toArray⟩=true∧kT ⟨(fH l).toArray⟩=nJ l
 | [],_=>Qf
 | x :: l,h=>by
  obtain ⟨h3,h4⟩:=Xx (h x (nP ..));obtain ⟨h5,h6⟩:=KG fun y hy=>h y (List.mem_cons_of_mem _ hy);rw [afl];exact ⟨Fw h3 h5,by rw [XH h3 h5,h4,h6,nJ]⟩
theorem afm {l:List aN} {k:Nat} (hk:k < l.length):fH (l.take (k+1))=fH (l.take k)++(mF l[k]).data.toList:=by
 rw [kg hk];simp only [fH,List.flatMap_append,List.flatMap_cons,List.flatMap_nil,kr]
theorem Xw (x:aN):(mF x).data.toList.length<=fK x.dat:=by
 have h2:=xD x;have h3:(mF x).data.toList.length=(mF x).size:=Array.length_toList;have h4:=(PI x).2.1;rw [h3]
 unfold mF
 split <;> omega
theorem Cm:∀ l:List aN,(fH l).length<=fI l
 | []=>aV _
 | x :: l=>by
  have:=Cm l;have h2:=Xw x
  simp only [fH,List.flatMap_cons,gW,fI,gV,gY] at *;omega
theorem Ka:xH prog 87:=⟨Z⟩
theorem u8B:U8 prog 5:=⟨Z⟩
theorem acj:liesAt prog prog.depth 87 (2 / prog.cellsOf 87) 0 87 1=true:=by kernel_rfl
theorem Xv:prog.cellsOf 5=1:=by kernel_rfl
theorem acK (v:aj) (w:World):(callFunc 58 #[v]).run prog w=.ok (.value v) w:=adp func58 Z Z Z Z v w
theorem Cu:prog.underlying 84=some (.pointer 87):=by kernel_rfl
theorem U6:prog.underlying 132=some .unsafePointer:=by kernel_rfl
theorem DV:fu prog 87 0 0:=⟨Z⟩
theorem Fq:Ty prog 84 1 8 [.pointer none] false:=⟨Z,Z⟩
theorem Yz:bD 45:=bH func45 O
theorem yJ:fu prog 87 1 1:=⟨Z⟩
abbrev bB (b:Nat) (p v:aj):Nat × Obj:=(b,.cells #[p,v] 87 (0,0))
theorem XM (G:GH) (L:OL) (w0:World) (b:Nat) (A:Option Addr) (n c:Nat) (hO:jc G (bB b (.pointer none) (.slice A n c) :: L) w0) :
  Calls prog 45 #[(aD b 0)] w0 (jd w0 G (bB b (.pointer none) (.slice A n c) :: L) fun u G' L'=>L'=bB b (aD b 0) (.slice A n c) :: L∧G'=G):=by
 refine lS (N:=20) (T:=[(0,_)]) func45 O ntmps45 O O hO ?_;intro a H;refine kP H (SR fun _ K1=>Rm O (Rk O (fJ DV Fq 0 O O ?_)));clear H;intro a H;refine TU Cu H wn O O ?_;clear H;intro a H;refine K1 _ _ ?_;clear K1;refine rC H O ?_ ?_
 ·intro h6
  refine kP H (SC (Rm O (Rm O ?_)));clear H;intro a H;refine aea Cu U6 Ka H wn O 0 O O O ?_;clear H;intro a H;refine adP (xs:=[.tmp 9]) (acK _) H wn O O ?_;clear H;intro a H;refine adF U6 Cu Ka H wn O 0 O acj O ?_;clear H;intro a H;refine kH H (Rk O (Rf DV O ?_));clear H;intro a H;refine eZ Fq 0 (vs:=[_]) H wn O ?_;clear H;intro w H;refine aB ?_;refine (leave0 H results45 ?_).2;exact H.hp.kY ⟨O,O⟩
 intro h6
 exact absurd h6 Y
theorem XO (G:GH) (L:OL) (w0:World) (b:Nat) (A:Option Addr) (n c:Nat) (hO:jc G (bB b (aD b 0) (.slice A n c) :: L) w0) :
  Calls prog 45 #[(aD b 0)] w0 (jd w0 G (bB b (aD b 0) (.slice A n c) :: L) fun u G' L'=>L'=bB b (aD b 0) (.slice A n c) :: L∧G'=G):=by
 refine lS (N:=20) (T:=[(0,_)]) func45 O ntmps45 O O hO ?_;intro a H;refine kP H (SR fun _ K1=>Rm O (Rk O (fJ DV Fq 0 O O ?_)));clear H;intro a H;refine TU Cu H wn O O ?_;clear H;intro a H;refine K1 _ _ ?_;clear K1;refine rC H O ?_ ?_
 ·intro h6
  exact absurd h6 (by simp)
 intro h6
 refine kP H (SR fun _ K1=>Rm O (Rk O (fJ DV Fq 0 O O (Rm O ?_))));clear H;intro a H;refine adM Cu Ka H wn O O O ?_;clear H;intro a H;refine K1 _ _ ?_;clear K1;refine rC H O ?_ ?_
 ·intro h19
  exact absurd h19 Y
 intro h19
 refine kI ?_;refine (leave0 H results45 ?_).2;exact H.hp.kY ⟨O,O⟩
theorem XP (G:GH) (L:OL) (w0:World) (b:Nat) (p:aj) (A:Option Addr) (n c:Nat) (hp:p=.pointer none∨p=(aD b 0)) (hO:jc G (bB b p (.slice A n c) :: L) w0) :
  Calls prog 45 #[(aD b 0)] w0 (jd w0 G (bB b p (.slice A n c) :: L) fun u G' L'=>L'=bB b (aD b 0) (.slice A n c) :: L∧G'=G):=by
 rcases hp with rfl|rfl
 ·exact XM G L w0 b A n c hO
 exact XO G L w0 b A n c hO
theorem La (G:GH) (Lo:OL) (w0:World) (b:Nat) (p v:aj) (n:Nat) (xs:List aj) (s:ByteArray) (hp:p=.pointer none∨p=(aD b 0)) (hO:jc G (bB b p v :: Lo) w0) (hrow:aZ 5 1 v n xs Lo) (hn:n+s.size<=140737488355328) :
  Calls prog 34 #[(aD b 0),.string s] w0 (jd w0 G (bB b p v :: Lo) fun u G' L'=>∃ v' jA,L'=bB b (aD b 0) v' :: jA∧aZ 5 1 v' (n+s.size) (xs++Lib.strCells s) jA∧G'=G∧(v=.slice none 0 0->s.size=0->v'=.slice none 0 0)):=by
 obtain ⟨A,c,rfl,-,-⟩:=hrow.shape;refine lS (N:=19) (T:=[(0,_),(1,_)]) func34 O ntmps34 O O hO ?_;intro a H;refine kP H (SR fun _ K1=>Ra O (au K1 O (SR fun _ K2=>Rm O ?_)));clear H K1;intro a H;refine jR Yz (Li:=[]) (L:=bB b p _ :: Lo) H wn O (XP _ _ _ b p A n c hp (Hp.owns (Li:=[]) H.hp)) O ?_;clear H;rintro v7 _ L7 a w ⟨rfl,rfl⟩ rP H;dsimp only [List.nil_append] at H;refine K2 _ _ ?_;clear K2;refine kP H (SR fun _ K1=>Rm O (Rm O (Rk O (fJ yJ rZ 0 O O (Rm O ?_)))));clear H;intro a H;refine adz (Li:=[_]) (Lo:=Lo) uo iH u8B H wn O O hrow hn O ?_;clear H;intro v14 agl a w RI abk H;obtain ⟨A14,c14,rfl,-,-⟩:=RI.shape;refine kH H (Rk O (Rf yJ O ?_));clear H;intro a H;refine eZ rZ 0 (vs:=[_]) H wn O ?_;clear H;intro w H;refine K1 _ _ ?_;clear K1;refine kP H (SR fun _ K1=>Rm O (Rv iH O (Ra O (au K1 O ?_))));clear H K1;intro a H;refine bN ?_;refine (bZ H results34 (.cons (aJ H O) (.cons (aJ H O) .nil)) ?_).1;exact H.hp.kY ⟨_,_,O,RI,O,abk⟩
theorem afP (G:GH) (Lo:OL) (w0:World) (b:Nat) (p v:aj) (n:Nat) (xs:List aj) (s:ByteArray) (hp:p=.pointer none∨p=(aD b 0)) (hO:jc G (bB b p v :: Lo) w0) (hrow:aZ 5 1 v n xs Lo) (hn:n+s.size<=140737488355328) :
  Calls prog 34 #[(aD b 0),.string s] w0 (jd w0 G (bB b p v :: Lo) fun u G' L'=>∃ v' jA,L'=bB b (aD b 0) v' :: jA∧aZ 5 1 v' (n+s.size) (xs++Lib.strCells s) jA∧G'=G):=by
 refine Calls.mono (La G Lo w0 b p v n xs s hp hO hrow hn) ?_;rintro e w' ⟨u,G',L',he,hc,v',jA,h1,h2,h3,-⟩;exact ⟨u,G',L',he,hc,v',jA,h1,h2,h3⟩
theorem Dj {p:Prop} (h:p:=by
 clear H;intro a H;exact fin H iJ O):p:=h
theorem aeL (G:GH) (Lo:OL) (w0:World) (b:Nat) (p v:aj) (l:List UInt8) (hO:jc G (bB b p v :: Lo) w0) (hrow:aZ 5 1 v l.length (Lib.byteCells l) Lo) (h0:l≠[]) :
  Calls prog 35 #[(aD b 0)] w0 (jd w0 G (bB b p v :: Lo) fun u G' L'=>u=.string ⟨l.toArray⟩):=by
 rcases hrow.2 with ⟨-,h,-⟩|⟨b2,cap,cur,rfl,rfl,hc1,hc2,hc3,hc4⟩
 ·exact absurd (List.eq_nil_of_length_eq_zero h) h0
 have hl0:l.length≠0:=fun h=>h0 (List.eq_nil_of_length_eq_zero h);have hml:maxLen=9223372036854775807:=rfl;refine lS (N:=14) (T:=[(0,_)]) func35 O ntmps35 O O hO ?_;intro a H;refine kP H (SR fun _ K1=>au K1 O (SQ fun _ K2=>?_));clear H K1;intro a H;have H:=H.sub (T':=[(0,_)]) ⟨O,aH⟩;refine dI fF [[],[0],[0,1],[0,1,2],ra 0 4,[],[5],[5,6],[5,6,7],ra 5 4,ra 0 10,ra 0 11] [10,11] Z [_,_,_,.slice (some ⟨b2,0,none⟩) l.length cap,(aD b2 0),_,_,_,.slice (some ⟨b2,0,none⟩) l.length cap,_] H (aF (Z0 O (Rm O)) (Z1 0 3 O (Rk O)) (Z1 1 4 O (Rf yJ O)) (Z1 2 5 O (Ro rZ 0 O)) (aF ?_ (Z0 O (Rm O)) (Z1 5 8 O (Rk O)) (Z1 6 9 O (Rf yJ O)) (aF (Z1 7 10 O (Ro rZ 0 O)) (Z1 8 11 O (Rl uo O)) (gB O) (gB O) fB))) ?_
 ·refine CK 3 6 O O fun _ a w G1 hG HT H fin=>?_;refine adV H wn O V O ?_;exact Dj
 clear H;intro a w G Ir H hv;have H:=H.ak (hv 4 7 O O) O;have H:=H.ak (hv 9 12 O O) O;clear hv;refine Ud (i:=1) l U5 Xv h0 V H wn O O O (by rw [<- hc4,Nat.mul_one]) O ?_;clear H;intro fz a w H;dsimp only [List.set] at H;refine kH H (Ra O ?_);clear H;intro a H;refine aB ⟨O,?_⟩;refine K2 _ _ ?_;clear K2;refine lr H results35 O ?_;exact H.hp.kY O
section
section
variable {N:Nat} {D:List Deferred} {w0:World} {F:Nat->Prop} {G0 G:GH} {L:OL} {T:List (Nat × aj)}
variable {r:Option Nat} {P:Program} {ops:Array Oper} {Q:Exit->Act->World->Prop} {rest:List Oper} {a:Act} {w:World}
variable {d:Nat} {ty:TypeId} {pos:String} {aC:Array Edge} {g:Option (Nat × Bool)}
theorem adW {t:TypeId} {x:Operand} {n c:Nat} (H:St N D w0 F G0 G L T a w) (hw:Region.wanted ⟨some d,.call { callee:=.builtin .unsafeSliceData,args:=#[x],argTypes:=#[t] },ty,pos,aC,g⟩ (yielded ops a.tmps)=true) (hx:ev T x=some (.slice none n c)) (hd:Nat.blt d N=true)
  (k:∀ a',St N D w0 F G0 G L ((d,.pointer none) :: T) a' w->WL r P ops Q rest a' w):WL r P ops Q (⟨some d,.call { callee:=.builtin .unsafeSliceData,args:=#[x],argTypes:=#[t] },ty,pos,aC,g⟩ :: rest) a w:=by
 refine bX (v:=.pointer none) (w':=w) hw O ?_ (k _ (H.put hd _ H.hp))
 have h:=Lib.run_unsafeSliceData_nil (P:=P) (w:=w) #[t] ty n c
 simp [execOp,resolve,invoke,builtin,H.ev hx,bE,h]
theorem aeb {pt it:TypeId} {x y:Operand} {p:Option Addr} (H:St N D w0 F G0 G L T a w)
  (hw:Region.wanted ⟨some d,.call { callee:=.builtin .unsafeString,args:=#[x,y],argTypes:=#[pt,it] },ty,pos,aC,g⟩ (yielded ops a.tmps)=true) (hx:ev T x=some (.pointer p)) (hy:ev T y=some (.int .i64 0)) (hd:Nat.blt d N=true)
  (k:∀ a',St N D w0 F G0 G L ((d,.string ⟨#[]⟩) :: T) a' w->WL r P ops Q rest a' w):WL r P ops Q (⟨some d,.call { callee:=.builtin .unsafeString,args:=#[x,y],argTypes:=#[pt,it] },ty,pos,aC,g⟩ :: rest) a w:=by
 have h:=Lib.run_unsafeString_none (P:=P) (w:=w) pt it ty p
 refine bX (v:=.string ⟨#[]⟩) (w':=w) hw O ?_ (k _ (H.put hd _ H.hp))
 simp [execOp,resolve,invoke,builtin,H.ev hx,H.ev hy,bE,h]
 rfl
end
end
theorem Pn (a b:List UInt8):Lib.byteCells (a++b)=Lib.byteCells a++Lib.byteCells b:=by simp [Lib.byteCells]
theorem aeI (G:GH) (Lo:OL) (w0:World) (b:Nat) (p:aj) (hO:jc G (bB b p (.slice none 0 0) :: Lo) w0) :
  Calls prog 35 #[(aD b 0)] w0 (jd w0 G (bB b p (.slice none 0 0) :: Lo) fun u G' L'=>u=.string ⟨#[]⟩):=by
 refine lS (N:=14) (T:=[(0,_)]) func35 O ntmps35 O O hO ?_;intro a H;refine kP H (SR fun _ K1=>au K1 O (SQ fun _ K2=>?_));clear H K1;intro a H;have H:=H.sub (T':=[(0,_)]) ⟨O,aH⟩;refine dI fF [[],[0],[0,1],[0,1,2],ra 0 4,[],[5],[5,6],[5,6,7],ra 5 4,ra 0 10,ra 0 11] [11] Z [_,_,_,.slice none 0 0,.pointer none,_,_,_,.slice none 0 0,_,.string ⟨#[]⟩] H (aF (Z0 O (Rm O)) (Z1 0 3 O (Rk O)) (Z1 1 4 O (Rf yJ O)) (Z1 2 5 O (Ro rZ 0 O)) (aF ?_ (Z0 O (Rm O)) (Z1 5 8 O (Rk O)) (Z1 6 9 O (Rf yJ O)) (aF (Z1 7 10 O (Ro rZ 0 O)) (Z1 8 11 O (Rl uo O)) ?_ (gB O) fB))) ?_
 ·refine CK 3 6 O O fun _ a w G1 hG HT H fin=>?_;refine adW H wn O O ?_;exact Dj
 ·refine LU 4 7 9 12 O O fun _ a w G1 hG HT H fin=>?_;refine aeb H wn O O O ?_;exact Dj
 clear H;intro a w G Ir H hv;have H:=H.ak (hv 10 13 O O) O;clear hv;refine kH H (Ra O ?_);clear H;intro a H;refine aB ⟨O,?_⟩;refine K2 _ _ ?_;clear K2;refine lr H results35 O ?_;exact H.hp.kY O
theorem Uu (G:GH) (Lo:OL) (w0:World) (b:Nat) (p v:aj) (l:List UInt8) (hO:jc G (bB b p v :: Lo) w0) (hrow:aZ 5 1 v l.length (Lib.byteCells l) Lo) (h0:l=[]->v=.slice none 0 0) :
  Calls prog 35 #[(aD b 0)] w0 (jd w0 G (bB b p v :: Lo) fun u G' L'=>u=.string ⟨l.toArray⟩):=by
 by_cases h:l=[]
 ·obtain rfl:=h0 h;subst h;exact aeI G Lo w0 b p hO
 exact aeL G Lo w0 b p v l hO hrow h
theorem ZG:fu prog 34 1 1:=⟨Z⟩
theorem Ho:bD 34:=bH func34 O
theorem Qp:bD 35:=bH func35 O
theorem U1:Ty prog 87 2 32 [.pointer none,.slice none 0 0] true:=⟨Z,Z⟩
theorem Yu:bD 39:=bH func39 O
theorem Gs {p:Prop} (h:p:=by
 intro a H;refine lr H results39 O ?_
 exact H.rt (ko Value.string (by
  unfold qx
  repeat (first|rw [iw]|rw [dh])))):p:=h
theorem WM {p:Prop} (h:p:=by
 refine lr H results39 O ?_
 exact H.rt (ko Value.string (by
  unfold qx
  repeat (first|rw [iw]|rw [dh])))):p:=h
theorem Gl {p:Prop} (h:p:=by
 intro h9 a H
 try have p9:=dT h9
 refine kP H (Kc K1 (Ct O h9 (SR fun _ K3=>au K3 O ?_)));clear H K1 K3;exact Gs):p:=h
theorem Gm {p:Prop} (h:p:=by
 refine kP H (SR fun _ K1=>au K1 O ?_);clear H K1;intro a H;exact WM):p:=h
theorem Gn {p:Prop} (h:p:=by
 refine kP H (SR fun _ K1=>au K1 O ?_);clear H K1;exact Gs):p:=h
theorem Xy (G:GH) (w0:World) (hG:Hold G w0) (x:aN) (cs:List aj) (hv:aT G x.dat cs) :
  Calls prog 39 #[.agg cs.toArray] w0 (bK w0 G fun u G'=>u=.string (qx x)):=by
 obtain ⟨pA,pn,pc,dA,dn,dc,yA,yn,yc,fA,fn,fc,rA,rn,rc,rfl,-⟩:=hv.item;refine eN [(0,_)] func39 O ntmps39 O O hG ?_;intro a H;refine iV (fun _ K1=>?_);refine lV (cs:=[_,_,_,_,_,_,_,_,_,_,_]) H wn O O O ?_;clear H;intro b1 a w hb1 H;refine kH H (au K1 O (SQ fun _ K2=>SR fun _ K3=>fJ DR aG 0 O O (Kz K3 (SB (SR fun _ K4=>Rc O (au K4 O (Cd O ?_ ?_))))))) <;> clear H K1 K3 K4
 ·intro h5 a H
  try have p5:=dT h5
  exact Gn
 intro h5 a H
 try have p5:=dF h5
 refine kP H (SR fun _ K1=>Rc O (au K1 O (Cd O ?_ ?_))) <;> clear H K1
 ·intro h7 a H
  try have p7:=dT h7
  exact Gn
 intro h7 a H
 try have p7:=dF h7
 refine kP H (SQ fun _ K1=>SR fun _ K3=>Rc O (au K3 O (Cd O ?_ ?_))) <;> clear H K3
 ·exact Gl
 intro h9 a H
 try have p9:=dF h9
 refine kP H (SR fun _ K3=>Rc O (au K3 O (Cd O ?_ ?_))) <;> clear H K3
 ·exact Gl
 intro h9 a H
 try have p9:=dF h9
 refine kP H (SR fun _ K3=>Rc O (au K3 O (Cd O ?_ ?_))) <;> clear H K3
 ·exact Gl
 intro h9 a H
 try have p9:=dF h9
 refine kP H (SC (Rc O (cO K1 O (Cd O ?_ ?_)))) <;> clear H K1
 ·intro h9 a H
  try have p9:=dT h9
  exact Gn
 intro h9 a H
 try have p9:=dF h9
 refine kP H (SR fun _ K1=>Rc O (au K1 O (Cd O ?_ ?_))) <;> clear H K1
 ·intro dQ a H
  try have jr:=dT dQ
  refine kP H (SR fun _ K1=>fJ ZG aG 0 O O (Kz K1 (SB (SR fun _ K3=>Rc O (au K3 O (Cd O ?_ ?_)))))) <;> clear H K1 K3
  ·intro h18 a H
   try have qJ:=dT h18
   exact Gm
  intro h18 a H
  try have qJ:=dF h18
  refine kP H (SR fun _ K1=>Rc O (au K1 O (Cd O ?_ ?_))) <;> clear H K1
  ·intro h20 a H
   try have qK:=dT h20
   exact Gm
  intro h20 a H
  try have qK:=dF h20
  refine kP H (SR fun _ K1=>Rc O (au K1 O (Cd O ?_ ?_))) <;> clear H K1
  ·intro h22 a H
   try have og:=dT h22
   exact Gm
  intro h22 a H
  try have og:=dF h22
  refine kP H (Kc K2 (SR fun _ K1=>au K1 O ?_));clear H K2 K1;exact Gs
 intro dQ a H
 try have jr:=dF dQ
 refine kP H (Kc K2 (SR fun _ K1=>au K1 O ?_));clear H K2 K1;intro a H;refine lr H results39 O ?_
 exact H.rt (ko Value.string (by
  unfold qx
  repeat (first|rw [iw]|rw [dh])))
theorem Mw {p:Prop} (h:p:=by
 exact ⟨V,.inl O,aZ.nil,fun _=>rfl,fun _ _ h=>h⟩):p:=h
theorem Mx {p:Prop} (h:p:=by
 exact ⟨V,.inr O,by rw [hbs,Pn,gW,hts];exact Er,fun e=>RA (hnl (List.eq_nil_of_length_eq_zero (by rw [e] at hbz;simp only [List.length_nil] at hbz;omega))) (by rw [e] at hbz;simp only [List.length_nil] at hbz;omega),by first|exact hgm|exact fun b o h=>kV b o (hgm b o h)⟩):p:=h
theorem JX (G:GH) (w0:World) (hG:Hold G w0) (l:List aN) (v:aj) (hv:ay G (.sl 11 (l.map aN.dat)) v) (hz:fI l<=1073741824) :
  Calls prog 30 #[v] w0 (bK w0 G fun u G'=>u=.string ⟨(fH l).toArray⟩):=by
 obtain ⟨A,c,rfl,hc1,hc2,hg⟩:=hv.slice;rw [bG] at *;have hll:=Le l;refine eN [(0,_)] func30 O ntmps30 O O hG ?_;intro a H;refine kP H (SR fun _ K1=>au K1 O (SR fun _ K2=>?_));clear H K1;intro a H;refine jv U1 H wn O ?_;clear H;intro b3 a w hb3 H;refine K2 _ _ ?_;clear K2;refine kP H (SQ fun _ K1=>SR fun _ K2=>Rm O (Rl jy O (Rm O (Kz K2 (SB ?_)))));clear H K2;intro a H;skip;refine dz (ι:=Nat × aj × aj × OL × GH) (Tc:=[(3,_),(6,_),(7,_)]) (Lc:=[]) (fun gh=>[(8,vi gh.1)]) (fun gh=>[bB b3 gh.2.1 gh.2.2.1]++gh.2.2.2.1) (fun gh=>gh.2.2.2.2) (fun gh=>gh.1<=l.length∧(gh.2.1=.pointer none∨gh.2.1=(aD b3 0))∧aZ 5 1 gh.2.2.1 (fH (l.take gh.1)).length (Lib.byteCells (fH (l.take gh.1))) gh.2.2.2.1∧(fH (l.take gh.1)=[]->gh.2.2.1=.slice none 0 0)∧(∀ b o,G b=some o->gh.2.2.2.2 b=some o)) (fun gh=>l.length - gh.1) ((0,.pointer none,.slice none 0 0,[],G)) (by exact H.sub ⟨O,O,O,O,aH⟩) ?_ ?_
 ·exact Mw
 clear H;rintro ⟨k,p,v,Lo,g⟩ a w hI H;dsimp only at hI H;obtain ⟨hk,hp,hrw,hnl,hgm⟩:=hI;dsimp only [lca,bR] at H;refine kP H (SR fun _ K2=>Rc O (Kz K2 (SQ fun _ K3=>Cd O ?_ ?_))) <;> clear H K2
 ·intro h9 a H
  try have p9:=dT h9
  have hk2:k < l.length:=by omega
  obtain ⟨b,o,cs,rfl,hcl,hrow,hrep⟩:=hg k l[k].dat (by simp [hk2]);obtain ⟨pA,pn,pc,dA,dn,dc,yA,yn,yc,fA,fn,fc,rA,rn,rc,rfl,-⟩:=hrep.item;replace hrow:=fun j u hj=>aK hgm (hrow j u hj);replace hrep:=hrep.mono hgm;have hbl:=Cm (l.take (k+1))
  have hzt:fI l=fI (l.take (k+1))+fI (l.drop (k+1)):=by
   have h:=E9 ((l.take (k+1)).map aN.dat) ((l.drop (k+1)).map aN.dat);rw [<- ku,List.take_append_drop] at h;exact h
  have hbs:=afm hk2;have hbz:=ko List.length hbs;rw [gW] at hbz;have hts:(mF l[k]).data.toList.length=(mF l[k]).size:=Array.length_toList;refine kP H (Kc K3 (SQ fun _ K2=>SB (SR fun _ K4=>Ri jy iG O O ?_)));clear H K3;intro a H;refine dL iG (cs:=[_,_,_,_,_,_,_,_,_,_,_]) H wn O O (fun j v hj=>H.hp.aQ (hrow j v hj)) O ?_;clear H;intro a H;refine jv iG H wn O ?_;clear H;intro b5 a w hb5 H;refine eZ iG 0 (vs:=[_,_,_,_,_,_,_,_,_,_,_]) H wn O ?_;clear H;intro w H;refine K4 _ _ ?_;clear K4;refine kP H (SR fun _ K3=>fJ DR aG 0 O O (Rc O (Kz K3 (Cd O ?_ ?_)))) <;> clear H K3
  ·intro dQ a H
   try have jr:=dT dQ
   have hch:mF l[k]=l[k].text:=aM jr;refine kP H (SC (fJ DT iZ 0 O O ?_));clear H;intro a H
   first|rw [<- hch] at H|skip
   refine jR Ho (Li:=[_]) (L:=bB b3 p v :: Lo) H wn O (La _ _ _ b3 p v _ _ (mF l[k]) hp (Hp.owns (Li:=[_]) H.hp) hrw V) O ?_;clear H;rintro v_ _ LJ a w ⟨v17,Ac,rfl,Er,rfl,RA⟩ yV H;refine kH H (Kn K2 (SC (Rd O (Rm O ?_))));clear H K2;intro a H;refine aB ?_;refine aX ((k+1,(aD b3 0),v17,Ac,_)) (by exact (H.dB (Pl:=[_,_]) (bS:=[_]) [1] Y O).sub ⟨O,O,O,O,aH⟩) ?_
   (try dsimp only);exact Mx
  intro dQ a H
  try have jr:=dF dQ
  have hch:mF l[k]=qx l[k]:=aL jr;refine qw ?_;refine dL iG (cs:=[_,_,_,_,_,_,_,_,_,_,_]) H wn O O (H.hp.dw 0 O O) O ?_;clear H;intro a H;refine s_call Yu H wn O (Xy _ _ H.ro l[k] [_,_,_,_,_,_,_,_,_,_,_] hrep) O ?_;clear H;rintro v19 oU a w rfl kV H;rw [<- hch] at H
  first|rw [<- hch] at H|skip
  refine jR Ho (Li:=[_]) (L:=bB b3 p v :: Lo) H wn O (La _ _ _ b3 p v _ _ (mF l[k]) hp (Hp.owns (Li:=[_]) H.hp) hrw V) O ?_;clear H;rintro v_ _ LJ a w ⟨v17,Ac,rfl,Er,rfl,RA⟩ yV H;refine kH H (Kn K2 (SC (Rd O (Rm O ?_))));clear H K2;intro a H;refine aB ?_;refine aX ((k+1,(aD b3 0),v17,Ac,_)) (by exact (H.dB (Pl:=[_,_]) (bS:=[_]) [1] Y O).sub ⟨O,O,O,O,aH⟩) ?_
  (try dsimp only);exact Mx
 intro h9 a H
 try have p9:=dF h9
 refine bQ ?_;refine K1 _ _ ?_;clear K1;refine fT (fun _ K1=>?_);rw [show l.take k=l from gX V] at hrw hnl;refine qw ?_;refine jR Qp (Li:=[]) (L:=bB b3 p v :: Lo) H wn O (Uu _ _ _ b3 p v (fH l) (Hp.owns (Li:=[]) H.hp) hrw hnl) O ?_;clear H;rintro v22 zZ VF a w rfl wD H;exact kH H (cO K1 O (LR results30 O fun H=>H.rt O))
theorem jI:prog.underlying 47=some (.slice 76):=by kernel_rfl
theorem jG:Ty prog 76 7 120 [.int .i64 0,.slice none 0 0,.int .i64 0,.int .i64 0,.slice none 0 0,.slice none 0 0,.slice none 0 0] true:=⟨Z,Z⟩
theorem yI:fu prog 76 2 6:=⟨Z⟩
theorem oP:Ty prog 32 1 24 [.slice none 0 0] false:=⟨Z,Z⟩
theorem Qq:bD 38:=bH func38 O
theorem jH:prog.underlying 22=some (.slice 49):=by kernel_rfl
theorem jw:Ty prog 49 6 112 [.slice none 0 0,.int .i64 0,.int .i64 0,.slice none 0 0,.slice none 0 0,.slice none 0 0] true:=⟨Z,Z⟩
theorem nU:fu prog 49 1 5:=⟨Z⟩
theorem mY:Ty prog 47 1 24 [.slice none 0 0] false:=⟨Z,Z⟩
theorem Hg:bD 27:=bH func27 O
theorem YB:bD 48:=bH func48 O
theorem DU:fu prog 34 5 9:=⟨Z⟩
theorem yH:fu prog 34 6 10:=⟨Z⟩
theorem zU:Ty prog 22 1 24 [.slice none 0 0] false:=⟨Z,Z⟩
theorem Hf:bD 18:=bH func18 O
theorem DK:bD 7:=bH func7 O
theorem Ym:bD 23:=bH func23 O
mutual
/-- All texts are valid. -/
def vT:aN->Bool
 | .mk k _ _ tx _ f r=>(decide (¬ k=1) || dW tx) && kD f && jD r
def vU:bg->Bool
 | .mk _ cs=>kL cs
def yx:bL->Bool
 | .mk _ _ f=>kD f
def kD:List aN->Bool
 | []=>true
 | x :: l=>vT x && kD l
def jD:List bg->Bool
 | []=>true
 | x :: l=>vU x && jD l
def kL:List bL->Bool
 | []=>true
 | x :: l=>yx x && kL l
end
theorem uR (x:aN):vT x=((decide (¬ x.kind=1) || dW x.text) && kD x.flow && jD x.rows):=by cases x;rw [vT];rfl
theorem yD (x:bg):vU x=kL x.cells:=by cases x;rw [vU];rfl
theorem yB (x:bL):yx x=kD x.flow:=by cases x;rw [yx];rfl
theorem tF:∀ l:List aN,kD l=l.all vT
 | []=>by rw [kD];rfl
 | x :: l=>by rw [kD,tF l,List.all_cons]
theorem vV:∀ l:List bg,jD l=l.all vU
 | []=>by rw [jD];rfl
 | x :: l=>by rw [jD,vV l,List.all_cons]
theorem yC:∀ l:List bL,kL l=l.all yx
 | []=>by rw [kL];rfl
 | x :: l=>by rw [kL,yC l,List.all_cons]
theorem xQ {α:Type} {p:α->Bool} {l:List α} {k:Nat} (hk:k < l.length) (h:(l.take k).all p=true) (h2:p l[k]=true):(l.take (k+1)).all p=true:=by
 rw [kg hk,List.all_append,h];simp [h2]
theorem sN {α:Type} {p:α->Bool} {l:List α} {k:Nat} (hk:k < l.length) (h:p l[k]=false):l.all p=false:=by
 rw [List.all_eq_false];exact ⟨_,dK hk,by simp [h]⟩
theorem xP {α:Type} {p:α->Bool} {l:List α} {k:Nat} (hk:¬ k < l.length) (h:(l.take k).all p=true):l.all p=true:=by
 rwa [gX V] at h
theorem GX {l:List aN} (h:kD l=true):∀ x∈l,x.kind=1->dW x.text=true:=fun x hx hk=>by
 rw [tF,fM] at h;have:=h x hx;rw [uR] at this
 simp [hk] at this
 exact this.1.1
theorem Yd {l:List aN} (h:kD l=true):tT l=0:=by
 unfold tT
 rw [aM]
 unfold pF
 rw [fM];intro x hx
 unfold vH zV
 by_cases hk:x.kind=1
 ·simp [hk,GX h x hx hk]
 simp [hk]
theorem Yc {l:List aN} (h:¬ tT l=0):kD l=false:=by
 cases e:kD l with
 | false=>rfl
 | true=>exact absurd (Yd e) h
theorem ach {l:List aN} (h:tT l=0) {x:aN} (hx:x∈l):(decide (¬ x.kind=1) || dW x.text)=true:=by
 have hd:pF l=true:=by
  unfold tT at h
  split at h
  ·assumption
  exact absurd h Y
 unfold pF at hd
 rw [fM] at hd;have:=hd x hx
 by_cases hk:x.kind=1
 ·cases e:dW x.text with
  | true=>simp
  | false=>simp [vH,zV,hk,e] at this
 simp [hk]
def zX (f n:Nat):Prop:=∀ (G:GH) (w0:World),Hold G w0->∀ (l:List aN) (v:aj),ay G (.sl 11 (l.map aN.dat)) v->fI l < n ->
 Calls prog f #[v] w0 (bK w0 G fun u G'=>u=.bool (kD l))
theorem Am {p:Prop} (h:p:=by
 exact ⟨dO _,O,fun _ _ h=>h⟩):p:=h
set_option maxHeartbeats 1000000 in
theorem GU {n:Nat} (ih:zX 38 n) (G:GH) (w0:World) (hG:Hold G w0) (l:List bL) (v:aj) (hv:ay G (.sl 7 (l.map bL.dat)) v) (hz:iT l < n) :
  Calls prog 27 #[v] w0 (bK w0 G fun u G'=>u=.bool (kL l)):=by
 obtain ⟨A,c,rfl,hc1,hc2,hg⟩:=hv.slice;have hml:maxLen=9223372036854775807:=rfl;rw [bG] at *;refine eN [(0,_)] func27 O ntmps27 O O hG ?_;intro a H;refine kP H (SR fun _ K1=>au K1 O (SQ fun _ K2=>SR fun _ K3=>Rm O (Rl jI O (Rm O (Kz K3 (SB ?_))))));clear H K1 K3;intro a H;skip;refine dz (ι:=Nat × GH) (Tc:=[(5,_),(6,_)]) (Lc:=[]) (fun gh=>[(7,vi gh.1)]) (fun gh=>[]) (fun gh=>gh.2) (fun gh=>gh.1<=l.length∧(l.take gh.1).all yx=true∧(∀ b o,G b=some o->gh.2 b=some o)) (fun gh=>l.length - gh.1) ((0,G)) (by exact H.sub ⟨O,O,O,aH⟩) ?_ ?_
 ·exact Am
 clear H;rintro ⟨k,g⟩ a w hI H;dsimp only at hI H;obtain ⟨hk,hd,hgm⟩:=hI;dsimp only [lca,bR] at H;refine kP H (SR fun _ K1=>Rc O (Kz K1 (SQ fun _ K3=>Cd O ?_ ?_))) <;> clear H K1
 ·intro h8 a H
  try have p8:=dT h8
  have hk2:k < l.length:=by omega
  obtain ⟨b,o,cs,rfl,hcl,hrow,hrep⟩:=hg k l[k].dat (by simp [hk2]);obtain ⟨pA,pn,pc,dA,dn,dc,yA,yn,yc,fA,fn,fc,rfl,hh,hf⟩:=hrep.cell;replace hrow:=fun j u hj=>aK hgm (hrow j u hj);have he:=qU l[k];have hm:=uq (dK hk2);refine kP H (Kc K3 (SQ fun _ K1=>SB (SR fun _ K4=>Ri jI jG O O ?_)));clear H K3;intro a H;refine dL jG (cs:=[_,_,_,_,_,_,_]) H wn O O (fun j v hj=>H.hp.aQ (hrow j v hj)) O ?_;clear H;intro a H;refine jv jG H wn O ?_;clear H;intro b4 a w hb4 H;refine eZ jG 0 (vs:=[_,_,_,_,_,_,_]) H wn O ?_;clear H;intro w H;refine K4 _ _ ?_;clear K4;refine kP H (SR fun _ K3=>fJ yI oP 0 O O ?_);clear H;intro a H;refine s_call Qq H wn O (ih _ _ H.ro l[k].flow _ (hf.mono hgm) V) O ?_;clear H;rintro v13 FH a w rfl vg H;refine kH H (Rn O (Kz K3 (Cd O ?_ ?_))) <;> clear H K3
  ·intro dQ a H
   exact kP H (SR fun _ K3=>au K3 O (LR results27 O fun H=>H.rt (nT (by rw [yC];exact (sN hk2 (by rw [yB];simpa using dQ)).symm))))
  intro dQ a H
  try have jr:=dF dQ
  refine kP H (Kc K1 (SC (Rd O (Rm O ?_))));clear H K1;intro a H;refine aB ?_;refine aX ((k+1,_)) (by exact (H.dB (Pl:=[_]) (bS:=[]) [] Y O).sub ⟨O,O,O,aH⟩) ?_
  (try dsimp only);exact ⟨V,xQ hk2 hd (by rw [yB];simpa using dQ),fun b o h=>vg b o (hgm b o h)⟩
 intro h8 a H
 try have p8:=dF h8
 refine bQ ?_;refine K2 _ _ ?_;clear K2;exact kP H (SR fun _ K1=>au K1 O (LR results27 O fun H=>H.rt (nT (by rw [yC];exact (xP V hd).symm))))
set_option maxHeartbeats 1000000 in
theorem GV {n:Nat} (ih:zX 38 n) (G:GH) (w0:World) (hG:Hold G w0) (l:List bg) (v:aj) (hv:ay G (.sl 6 (l.map bg.dat)) v) (hz:jl l < n) :
  Calls prog 18 #[v] w0 (bK w0 G fun u G'=>u=.bool (jD l)):=by
 obtain ⟨A,c,rfl,hc1,hc2,hg⟩:=hv.slice;have hml:maxLen=9223372036854775807:=rfl;rw [bG] at *;refine eN [(0,_)] func18 O ntmps18 O O hG ?_;intro a H;refine kP H (SR fun _ K1=>au K1 O (SQ fun _ K2=>SR fun _ K3=>Rm O (Rl jH O (Rm O (Kz K3 (SB ?_))))));clear H K1 K3;intro a H;skip;refine dz (ι:=Nat × GH) (Tc:=[(5,_),(6,_)]) (Lc:=[]) (fun gh=>[(7,vi gh.1)]) (fun gh=>[]) (fun gh=>gh.2) (fun gh=>gh.1<=l.length∧(l.take gh.1).all vU=true∧(∀ b o,G b=some o->gh.2 b=some o)) (fun gh=>l.length - gh.1) ((0,G)) (by exact H.sub ⟨O,O,O,aH⟩) ?_ ?_
 ·exact Am
 clear H;rintro ⟨k,g⟩ a w hI H;dsimp only at hI H;obtain ⟨hk,hd,hgm⟩:=hI;dsimp only [lca,bR] at H;refine kP H (SR fun _ K1=>Rc O (Kz K1 (SQ fun _ K3=>Cd O ?_ ?_))) <;> clear H K1
 ·intro h8 a H
  try have p8:=dT h8
  have hk2:k < l.length:=by omega
  obtain ⟨b,o,cs,rfl,hcl,hrow,hrep⟩:=hg k l[k].dat (by simp [hk2]);obtain ⟨pA,pn,pc,dA,dn,dc,yA,yn,yc,fA,fn,fc,rfl,hh,hf⟩:=hrep.row;replace hrow:=fun j u hj=>aK hgm (hrow j u hj);have he:=sD l[k];have hm:=uw (dK hk2);refine kP H (Kc K3 (SQ fun _ K1=>SB (SR fun _ K4=>Ri jH jw O O ?_)));clear H K3;intro a H;refine dL jw (cs:=[_,_,_,_,_,_]) H wn O O (fun j v hj=>H.hp.aQ (hrow j v hj)) O ?_;clear H;intro a H;refine jv jw H wn O ?_;clear H;intro b4 a w hb4 H;refine eZ jw 0 (vs:=[_,_,_,_,_,_]) H wn O ?_;clear H;intro w H;refine K4 _ _ ?_;clear K4;refine kP H (SR fun _ K3=>fJ nU mY 0 O O ?_);clear H;intro a H;refine s_call Hg H wn O (GU ih _ _ H.ro l[k].cells _ (hf.mono hgm) V) O ?_;clear H;rintro v13 FH a w rfl vg H;refine kH H (Rn O (Kz K3 (Cd O ?_ ?_))) <;> clear H K3
  ·intro dQ a H
   exact kP H (SR fun _ K3=>au K3 O (LR results18 O fun H=>H.rt (nT (by rw [vV];exact (sN hk2 (by rw [yD];simpa using dQ)).symm))))
  intro dQ a H
  try have jr:=dF dQ
  refine kP H (Kc K1 (SC (Rd O (Rm O ?_))));clear H K1;intro a H;refine aB ?_;refine aX ((k+1,_)) (by exact (H.dB (Pl:=[_]) (bS:=[]) [] Y O).sub ⟨O,O,O,aH⟩) ?_
  (try dsimp only);exact ⟨V,xQ hk2 hd (by rw [yD];simpa using dQ),fun b o h=>vg b o (hgm b o h)⟩
 intro h8 a H
 try have p8:=dF h8
 refine bQ ?_;refine K2 _ _ ?_;clear K2;exact kP H (SR fun _ K1=>au K1 O (LR results18 O fun H=>H.rt (nT (by rw [vV];exact (xP V hd).symm))))
set_option maxHeartbeats 1000000 in
theorem AY:∀ n:Nat,n<=4294967297->zX 38 n
 | 0,_=>fun _ _ _ _ _ _ h=>absurd h V
 | n+1,hn=>by
  intro G w0 hG l v hv hz;have ih:=AY n V;obtain ⟨A,c,rfl,hc1,hc2,hg⟩:=hv.slice;have hml:maxLen=9223372036854775807:=rfl;rw [bG] at *;refine eN [(0,_)] func38 O ntmps38 O O hG ?_;intro a H;refine kP H (SR fun _ K1=>au K1 O (SQ fun _ K2=>SR fun _ K3=>Rm O ?_));clear H K1;intro a H;refine s_call YB H wn O (aci _ _ H.ro l _ hv V) O ?_;clear H;rintro v9 _ a w ⟨rfl,rfl⟩ - H;refine kH H (Rm O ?_);clear H;intro a H;(iterate 2 refine fG H wn O O O ?_;clear H;intro a H);refine kH H (Ra O (au K3 O (SR fun _ K1=>Rm O (Rc O (Kz K1 (Cd O ?_ ?_)))))) <;> clear H K3 K1
  ·intro iW a H
   try have pR:=dT iW
   exact kP H (SR fun _ K1=>au K1 O (LR results38 O fun H=>H.rt (nT (Yc pR).symm)))
  intro iW a H
  try have pR:=dF iW
  have hl0:tT l=0:=xO.1 pR;refine kP H (Kc K2 (SQ fun _ K1=>SR fun _ K3=>Rm O (Rl jy O (Rm O (Kz K3 (SB ?_))))));clear H K2 K3;intro a H;skip;refine dz (ι:=Nat × GH) (Tc:=[(14,_),(15,_)]) (Lc:=[]) (fun gh=>[(16,vi gh.1)]) (fun gh=>[]) (fun gh=>gh.2) (fun gh=>gh.1<=l.length∧(l.take gh.1).all vT=true∧(∀ b o,G b=some o->gh.2 b=some o)) (fun gh=>l.length - gh.1) ((0,G)) (by exact H.sub ⟨O,O,O,aH⟩) ?_ ?_
  ·exact Am
  clear H;rintro ⟨k,g⟩ a w hI H;dsimp only at hI H;obtain ⟨hk,hd,hgm⟩:=hI;dsimp only [lca,bR] at H;refine kP H (SR fun _ K2=>Rc O (Kz K2 (SQ fun _ K3=>Cd O ?_ ?_))) <;> clear H K2
  ·intro dH a H
   try have jY:=dT dH
   have hk2:k < l.length:=by omega
   obtain ⟨b,o,pA,pn,pc,dA,dn,dc,yA,yn,yc,fA,fn,fc,rA,rn,rc,rfl,hrow,hh,hf,hr⟩:=DW hk2 hg;replace hrow:=fun j u hj=>aK hgm (hrow j u hj);have he:=xD l[k];have hm:=Lg (dK hk2);refine kP H (Kc K3 (SQ fun _ K2=>SB (SR fun _ K4=>Ri jy iG O O ?_)));clear H K3;intro a H;refine dL iG (cs:=[_,_,_,_,_,_,_,_,_,_,_]) H wn O O (fun j v hj=>H.hp.aQ (hrow j v hj)) O ?_;clear H;intro a H;refine jv iG H wn O ?_;clear H;intro b6 a w hb6 H;refine eZ iG 0 (vs:=[_,_,_,_,_,_,_,_,_,_,_]) H wn O ?_;clear H;intro w H;refine K4 _ _ ?_;clear K4;refine kP H (SR fun _ K3=>fJ DU oP 0 O O ?_);clear H;intro a H;refine s_call Qq H wn O (ih _ _ H.ro l[k].flow _ (hf.mono hgm) V) O ?_;clear H;rintro v22 zZ a w rfl wD H;refine kH H (Rn O (Rm O (Sp 24 O ?_ ?_))) <;> clear H
   ·intro aS a H
    exact kH H (aR aS O (aR aS O (Pt aS O (Kz K3 (Ct O O (SR fun _ K4=>au K4 O (LR results38 O fun H=>H.rt (nT (by rw [tF];exact (sN hk2 (by rw [uR,show kD l[k].flow=false by simpa using aS];simp)).symm)))))))))
   intro aS a H
   try have gH:=dF aS
   have hf1:kD l[k].flow=true:=by simpa using aS
   refine kH H (YF yH aS O (YO zU 0 aS O ?_));clear H;intro a H;refine s_call Hf H (wg H O O aS) O (GV ih _ _ H.ro l[k].rows _ ((hr.mono hgm).mono wD) V) O ?_;clear H;rintro v27 G27 a w rfl abb H;refine kH H (YN aS O (Pf aS O (Kz K3 (Cd O ?_ ?_)))) <;> clear H K3
   ·intro uU a H
    exact kP H (SR fun _ K3=>au K3 O (LR results38 O fun H=>H.rt (nT (by rw [tF];exact (sN hk2 (by rw [uR,show jD l[k].rows=false by simpa using uU];simp)).symm))))
   intro uU a H
   try have p29:=dF uU
   have hr1:jD l[k].rows=true:=by simpa using uU
   refine kP H (Kc K2 (SC (Rd O (Rm O ?_))));clear H K2;intro a H;refine aB ?_;refine aX ((k+1,_)) (by exact (H.dB (Pl:=[_]) (bS:=[]) [] Y O).sub ⟨O,O,O,aH⟩) ?_
   (try dsimp only);exact ⟨V,xQ hk2 hd (by rw [uR,ach hl0 (dK hk2),hf1,hr1];rfl),fun b o h=>abb b o (wD b o (hgm b o h))⟩
  intro dH a H
  try have jY:=dF dH
  refine bQ ?_;refine K1 _ _ ?_;clear K1;exact kP H (SR fun _ K1=>au K1 O (LR results38 O fun H=>H.rt (nT (by rw [tF];exact (xP V hd).symm))))
set_option maxHeartbeats 1000000 in
theorem acF {n:Nat} (ih:zX 7 n) (G:GH) (w0:World) (hG:Hold G w0) (l:List bL) (v:aj) (hv:ay G (.sl 7 (l.map bL.dat)) v) (hz:iT l < n) :
  Calls prog 23 #[v] w0 (bK w0 G fun u G'=>u=.bool (kL l)):=by
 obtain ⟨A,c,rfl,hc1,hc2,hg⟩:=hv.slice;have hml:maxLen=9223372036854775807:=rfl;rw [bG] at *;refine eN [(0,_)] func23 O ntmps23 O O hG ?_;intro a H;refine kP H (SR fun _ K1=>au K1 O (SQ fun _ K2=>SR fun _ K3=>au K3 O (SB ?_)));clear H K1 K3;intro a H;skip;refine dz (ι:=Nat × GH) (Tc:=[(0,_)]) (Lc:=[]) (fun gh=>[(3,vi gh.1)]) (fun gh=>[]) (fun gh=>gh.2) (fun gh=>gh.1<=l.length∧(l.take gh.1).all yx=true∧(∀ b o,G b=some o->gh.2 b=some o)) (fun gh=>l.length - gh.1) ((0,G)) (by exact H.sub ⟨O,O,aH⟩) ?_ ?_
 ·exact Am
 clear H;rintro ⟨k,g⟩ a w hI H;dsimp only at hI H;obtain ⟨hk,hd,hgm⟩:=hI;dsimp only [lca,bR] at H;refine kP H (SQ fun _ K1=>SR fun _ K3=>Rm O (Rm O (Rl jI O (Rc O (Kz K3 (Cd O ?_ ?_)))))) <;> clear H K3
 ·intro h7 a H
  try have p7:=dT h7
  have hk2:k < l.length:=by omega
  obtain ⟨b,o,cs,rfl,hcl,hrow,hrep⟩:=hg k l[k].dat (by simp [hk2]);obtain ⟨pA,pn,pc,dA,dn,dc,yA,yn,yc,fA,fn,fc,rfl,hh,hf⟩:=hrep.cell;replace hrow:=fun j u hj=>aK hgm (hrow j u hj);have he:=qU l[k];have hm:=uq (dK hk2);refine kP H (Kc K1 (SQ fun _ K3=>SB (SR fun _ K4=>Rm O (Rm O (Ri jI jG O O (Rf yI O (Rg oP O (hrow 6 _ O) ?_)))))));clear H K1;intro a H;refine s_call DK H wn O (ih _ _ H.ro l[k].flow _ (hf.mono hgm) V) O ?_;clear H;rintro v15 Vs a w rfl I5 H;refine kH H (Rn O (Kz K4 (Cd O ?_ ?_))) <;> clear H K4
  ·intro h16 a H
   exact kP H (SR fun _ K1=>au K1 O (LR results23 O fun H=>H.rt (nT (by rw [yC];exact (sN hk2 (by rw [yB];simpa using h16)).symm))))
  intro h16 a H
  try have p16:=dF h16
  refine kP H (Kc K3 (SC (Rm O (Rd O (Ra O ?_)))));clear H K3;intro a H;refine aB ?_;refine aX ((k+1,_)) (by exact H.sub ⟨O,O,aH⟩) ?_
  (try dsimp only);exact ⟨V,xQ hk2 hd (by rw [yB];simpa using h16),fun b o h=>I5 b o (hgm b o h)⟩
 intro h7 a H
 try have p7:=dF h7
 refine bQ ?_;refine K2 _ _ ?_;clear K2;exact kP H (SR fun _ K2=>au K2 O (LR results23 O fun H=>H.rt (nT (by rw [yC];exact (xP V hd).symm))))
theorem MB {p:Prop} (h:p:=by
 exact kP H (SR fun _ K1=>au K1 O (LR results7 O fun H=>H.rt (nT (by rw [tF];exact (sN hk2 (by rw [uR,show kD l[k].flow=false by simpa using iX];simp)).symm))))):p:=h
theorem MC {p:Prop} (h:p:=by
 exact ⟨dO _,O,fun b o h=>I6 b o (hgm b o h),I6⟩):p:=h
theorem Ww {p:Prop} (h:p:=by
 exact kP H (SR fun _ K1=>au K1 O (LR results7 O fun H=>H.rt (nT (by rw [tF];exact (sN hk2 (by rw [uR,vV,sN hj2 (by rw [yD];simpa using D7)];simp)).symm))))):p:=h
theorem Wx {p:Prop} (h:p:=by
 exact ⟨V,xQ hj2 hd2 (by rw [yD];simpa using D7),fun b o h=>Rz b o (fE b o h),fun b o h=>Rz b o (hgg b o h)⟩):p:=h
theorem ME {p:Prop} (h:p:=by
 exact ⟨V,xQ hk2 hd (by rw [uR,vV,htx,hfl,xP V hd2];rfl),fE⟩):p:=h
theorem Od {p:Prop} (h:p:=by
 intro iO a H
 try have p42:=dT iO
 have hj2:j < l[k].rows.length:=by omega
 obtain ⟨rA',rc',e',-,-,hrg⟩:=hr.slice;obtain ⟨GY,-,-⟩:=Value.slice.inj e';subst GY;obtain ⟨b2,o2,cs2,rfl,-,hrow2,pQ⟩:=hrg j l[k].rows[j].dat (by simp [hj2]);obtain ⟨qA,qn,qc,uA,un,uc,zA,zn,zc,xA,xn,xc,rfl,qE,hfc⟩:=pQ.row;replace hrow2:=fun j u hj=>aK fE (hrow2 j u hj);have he2:=sD l[k].rows[j];have hm2:=uw (dK hj2);refine kP H (Kc K1 (SQ fun _ K4=>SB (SR fun _ K5=>Rm O (Rm O (Ri jy iG O O (Rf yH O (Rg zU O (aK hgg (hrow 10 _ O)) (Rm O (Ri jH jw O O (Rf nU O (Rg mY O (hrow2 5 _ O) ?_)))))))))));clear H K1;intro a H;refine s_call Ym H wn O (acF ih _ _ H.ro l[k].rows[j].cells _ (hfc.mono fE) V) O ?_;clear H;rintro v54 G54 a w rfl Rz H;refine kH H (Rn O (Kz K5 (Cd O ?_ ?_))) <;> clear H K5
 ·intro D7 a H
  exact Ww
 intro D7 a H
 try have p55:=dF D7
 refine kP H (Kc K4 (SC (Rm O (Rd O (Ra O ?_)))));clear H K4;intro a H;refine aB ?_;refine aX ((j+1,_)) (by exact H.sub ⟨O,O,O,aH⟩) ?_
 (try dsimp only);exact Wx):p:=h
theorem Az {p:Prop} (h:p:=by
 obtain ⟨-,e2,-⟩:=Value.slice.inj e;rw [e2,bG]):p:=h
theorem OP {p:Prop} (h:p:=by
 first
 | (simp [jY];done)
 | (simp [show dW l[k].text=true by simpa using ig];done)):p:=h
set_option maxHeartbeats 1000000 in
set_option maxRecDepth 8000 in
theorem SK:∀ n:Nat,n<=1073741824->zX 7 n
 | 0,_=>fun _ _ _ _ _ _ h=>absurd h V
 | n+1,hn=>by
  intro G w0 hG l v hv hz;have ih:=SK n V;obtain ⟨A,c,rfl,hc1,hc2,hg⟩:=hv.slice;have hml:maxLen=9223372036854775807:=rfl;rw [bG] at *;refine eN [(0,_)] func7 O ntmps7 O O hG ?_;intro a H;refine kP H (SR fun _ K1=>au K1 O (SQ fun _ K2=>SR fun _ K3=>au K3 O (SB ?_)));clear H K1 K3;intro a H;skip;refine dz (ι:=Nat × GH) (Tc:=[(0,_)]) (Lc:=[]) (fun gh=>[(3,vi gh.1)]) (fun gh=>[]) (fun gh=>gh.2) (fun gh=>gh.1<=l.length∧(l.take gh.1).all vT=true∧(∀ b o,G b=some o->gh.2 b=some o)) (fun gh=>l.length - gh.1) ((0,G)) (by exact H.sub ⟨O,O,aH⟩) ?_ ?_
  ·exact Am
  clear H;rintro ⟨k,g⟩ a w hI H;dsimp only at hI H;obtain ⟨hk,hd,hgm⟩:=hI;dsimp only [lca,bR] at H;refine kP H (SQ fun _ K1=>SR fun _ K3=>Rm O (Rm O (Rl jy O (Rc O (Kz K3 (Cd O ?_ ?_)))))) <;> clear H K3
  ·intro h8 a H
   try have p8:=dT h8
   have hk2:k < l.length:=by omega
   obtain ⟨b,o,pA,pn,pc,dA,dn,dc,yA,yn,yc,fA,fn,fc,rA,rn,rc,rfl,hrow,hh,hf,hr⟩:=DW hk2 hg;replace hrow:=fun j u hj=>aK hgm (hrow j u hj);have he:=xD l[k];have hm:=Lg (dK hk2)
   obtain rfl:rn=l[k].rows.length:=by
    obtain ⟨_,_,e,-⟩:=hr.slice;exact Az
   refine kP H (Kc K1 (SQ fun _ K3=>SB (SQ fun _ K4=>SR fun _ K5=>Rm O (Rm O (Ri jy iG O O (Rf DR O (Rg aG O (hrow 0 _ O) (Rc O (Rm O (Sp 17 O ?_ ?_)))))))))) <;> clear H K1
   ·intro dH a H
    try have jY:=dT dH
    refine kH H (YM dH O (YM dH O (YI jy iG dH O O (YF DT dH O (YR iZ dH O (hrow 3 _ O) ?_)))));clear H;intro a H;refine s_call AZ H (wg H O O dH) O (Cw _ _ H.ro l[k].text V) O ?_;clear H;rintro v23 _ a w ⟨rfl,rfl⟩ - H;refine kH H (YN dH O (Pt dH O (Rm O (Sp 26 O ?_ ?_)))) <;> clear H
    ·intro ig a H
     exact kH H (aU ig O (aR ig O (aR ig O (Pt ig O (Kz K5 (Ct O O (SR fun _ K1=>au K1 O (LR results7 O fun H=>H.rt (nT (by rw [tF];exact (sN hk2 (by rw [uR,show dW l[k].text=false by simpa using ig,jY];simp)).symm))))))))))
    intro ig a H
    try have p26:=dF ig
    refine kH H (YM ig O (YM ig O (YI jy iG ig O O (YF DU ig O (YR oP ig O (hrow 9 _ O) ?_)))));clear H;intro a H;refine s_call DK H (wg H O O ig) O (ih _ _ H.ro l[k].flow _ (hf.mono hgm) V) O ?_;clear H;rintro v32 Vv a w rfl I6 H;refine kH H (YN ig O (Pf ig O (Kz K5 (Cd O ?_ ?_)))) <;> clear H K5
    ·intro iX a H
     exact MB
    intro iX a H
    try have p34:=dF iX
    have htx:(decide (¬ l[k].kind=1) || dW l[k].text)=true:=by
     exact OP
    have hfl:kD l[k].flow=true:=by simpa using iX
    have hrl:=Fy l[k].rows;refine kP H (Kc K4 (SR fun _ K1=>au K1 O (SB ?_)));clear H K4 K1;intro a H;skip;refine dz (ι:=Nat × GH) (Tc:=[(0,_),(3,_)]) (Lc:=[]) (fun gh=>[(4,vi gh.1)]) (fun gh=>[]) (fun gh=>gh.2) (fun gh=>gh.1<=l[k].rows.length∧(l[k].rows.take gh.1).all vU=true∧(∀ b o,G b=some o->gh.2 b=some o)∧(∀ b o,g b=some o->gh.2 b=some o)) (fun gh=>l[k].rows.length - gh.1) ((0,_)) (by exact H.sub ⟨O,O,O,aH⟩) ?_ ?_
    ·exact MC
    clear H;rintro ⟨j,g2⟩ a w hI H;dsimp only at hI H;obtain ⟨hj,hd2,fE,hgg⟩:=hI;dsimp only [lca,bR] at H;refine kP H (SQ fun _ K1=>SR fun _ K4=>Rm O (Rm O (Rm O (Ri jy iG O O (Rf yH O (Rg zU O (aK hgg (hrow 10 _ O)) (Rl jH O (Rc O (Kz K4 (Cd O ?_ ?_)))))))))) <;> clear H K4
    ·exact Od
    intro iO a H
    try have p42:=dF iO
    refine bQ ?_;refine K3 _ _ ?_;clear K3;refine kP H (SC (Rm O (Rd O (Ra O ?_))));clear H;intro a H;refine aB ?_;refine aX ((k+1,g2)) (by exact H.sub ⟨O,O,aH⟩) ?_
    (try dsimp only);exact ME
   intro dH a H
   try have jY:=dF dH
   refine kH H (aU dH O (aR dH O (aR dH O (Pf dH O (Rm O ?_)))));clear H;intro a H;(iterate 2 refine zI H (wg H O O O) O O ?_;clear H;intro a H);refine bO jy iG _ H (wg H O O O) O O O (by first|assumption|omega) rfl ?_;clear H;intro a H;refine EM DU H (wg H O O O) O O ?_;clear H;intro a H;refine iF oP H (wg H O O O) O (H.hp.aQ (hrow 9 _ O)) O ?_;clear H;intro a H;refine s_call DK H (wg H O O O) O (ih _ _ H.ro l[k].flow _ (hf.mono hgm) V) O ?_;clear H;rintro v32 Vv a w rfl I6 H;refine EP H (wg H O O O) O O ?_;clear H;intro a H;refine kH H (Pf O O (Kz K5 (Cd O ?_ ?_))) <;> clear H K5
   ·intro iX a H
    exact MB
   intro iX a H
   try have p34:=dF iX
   have htx:(decide (¬ l[k].kind=1) || dW l[k].text)=true:=by
    exact OP
   have hfl:kD l[k].flow=true:=by simpa using iX
   have hrl:=Fy l[k].rows;refine kP H (Kc K4 (SR fun _ K1=>au K1 O (SB ?_)));clear H K4 K1;intro a H;skip;refine dz (ι:=Nat × GH) (Tc:=[(0,_),(3,_)]) (Lc:=[]) (fun gh=>[(4,vi gh.1)]) (fun gh=>[]) (fun gh=>gh.2) (fun gh=>gh.1<=l[k].rows.length∧(l[k].rows.take gh.1).all vU=true∧(∀ b o,G b=some o->gh.2 b=some o)∧(∀ b o,g b=some o->gh.2 b=some o)) (fun gh=>l[k].rows.length - gh.1) ((0,_)) (by exact H.sub ⟨O,O,O,aH⟩) ?_ ?_
   ·exact MC
   clear H;rintro ⟨j,g2⟩ a w hI H;dsimp only at hI H;obtain ⟨hj,hd2,fE,hgg⟩:=hI;dsimp only [lca,bR] at H;refine kP H (SQ fun _ K1=>SR fun _ K4=>Rm O (Rm O (Rm O (Ri jy iG O O (Rf yH O (Rg zU O (aK hgg (hrow 10 _ O)) (Rl jH O (Rc O (Kz K4 (Cd O ?_ ?_)))))))))) <;> clear H K4
   ·exact Od
   intro iO a H
   try have p42:=dF iO
   refine bQ ?_;refine K3 _ _ ?_;clear K3;refine kP H (SC (Rm O (Rd O (Ra O ?_))));clear H;intro a H;refine aB ?_;refine aX ((k+1,g2)) (by exact H.sub ⟨O,O,aH⟩) ?_
   (try dsimp only);exact ME
  intro h8 a H
  try have p8:=dF h8
  refine bQ ?_;refine K2 _ _ ?_;clear K2;exact kP H (SR fun _ K2=>au K2 O (LR results7 O fun H=>H.rt (nT (by rw [tF];exact (xP V hd).symm))))
theorem acw (G:GH) (w0:World) (hG:Hold G w0) (l:List aN) (v:aj) (hv:ay G (.sl 11 (l.map aN.dat)) v) (hz:fI l<=1073741823) :
  Calls prog 7 #[v] w0 (bK w0 G fun u G'=>u=.bool (kD l)):=SK 1073741824 (aV _) G w0 hG l v hv V
section
section
variable {N:Nat} {D:List Deferred} {w0:World} {F:Nat->Prop} {G0 G:GH} {L Lo:OL} {T:List (Nat × aj)}
variable {r:Option Nat} {P:Program} {ops:Array Oper} {Q:Exit->Act->World->Prop} {rest:List Oper} {a:Act} {w:World}
variable {d:Nat} {ty:TypeId} {pos:String} {aC:Array Edge} {g:Option (Nat × Bool)}
end
end
theorem aZ.at {w0 w:World} {F:Nat->Prop} {G0 G:GH} {L Lo:OL} {e sz n c b o:Nat} {xs:List aj} (h:aZ e sz (.slice (some ⟨b,o,none⟩) n c) n xs Lo) (H:Hp w0 F G0 G L w) (hsub:∀ x∈Lo,x∈L) {i:Nat} {u:aj} (hi:xs[i]?=some u):w.cell? ⟨b,i,none⟩=some u:=by
 rcases h.2 with ⟨h1,_⟩|⟨b2,cap,cur,he,hl,h1,h2,h3,h4⟩
 ·cases h1
 ·injection he with e1
  injection e1 with e1
  injection e1 with e1
  subst e1
  refine H.SI (c:=cur) (e:=e) (fz:=(0,0)) (hsub _ (by rw [hl];exact List.mem_singleton_self _)) ?_
  have hx:i < xs.length:=(fV.1 hi).1
  rw [h.1] at hx
  rw [<- h4,oZ,aM hx,Array.getElem?_toList] at hi
  exact hi
theorem flat_get {sz:Nat}:∀ {css:List (List aj)} {k:Nat} (hk:k < css.length) (h:∀ cs∈css,cs.length=sz) (j:Nat),j < sz->css.flatten[k*sz+j]?=css[k][j]?
 | c :: css,0,_,h,j,hj=>by
  rw [List.flatten_cons,Nat.zero_mul,eP,List.getElem_cons_zero,sK (by rw [h c nP];exact hj)]
 | c :: css,k+1,hk,h,j,hj=>by
  have ih:=flat_get (css:=css) (k:=k) (by simpa using hk) (fun cs hc=>h cs (List.mem_cons_of_mem _ hc)) j hj
  rw [List.flatten_cons,List.getElem_cons_succ,uJ (by rw [h c nP,Nat.succ_mul];omega),h c nP,show (k+1)*sz+j - sz=k*sz+j by rw [Nat.succ_mul];omega]
  exact ih
theorem bU.at {G:GH} {sz:Nat} {rows:List (List Dat)} {xs:List aj} (h:bU G sz rows xs) {k:Nat} {r:List Dat} (hk:rows[k]?=some r):∃ cs,cs.length=sz∧(∀ j u,cs[j]?=some u->xs[k*sz+j]?=some u)∧aT G r cs:=by
 obtain ⟨css,rfl,h2,h3⟩:=h
 have hkl:k < css.length:=by rw [h2];exact (fV.1 hk).1
 obtain ⟨hr,hl⟩:=h3 k r css[k] hk (gU hkl)
 refine ⟨css[k],hl,fun j u hj=>?_,hr⟩
 rw [flat_get hkl (fun cs hc=>?_) j (by rw [<- hl];exact (fV.1 hj).1)]
 ·exact hj
 ·obtain ⟨i,hi,rfl⟩:=List.getElem_of_mem hc
  exact (h3 i rows[i] css[i] (gU V) (gU hi)).2
section
section
variable {N:Nat} {D:List Deferred} {w0:World} {F:Nat->Prop} {G0 G:GH} {L:OL} {T:List (Nat × aj)}
variable {r:Option Nat} {P:Program} {ops:Array Oper} {Q:Exit->Act->World->Prop} {rest:List Oper} {a:Act} {w:World}
variable {d:Nat} {ty:TypeId} {pos:String} {aC:Array Edge} {g:Option (Nat × Bool)}
theorem J3 {t yt:TypeId} {x y:Operand} {p q:ByteArray} (H:St N D w0 F G0 G L T a w) (hw:Region.wanted ⟨some d,.binOp .add t x y yt,ty,pos,aC,g⟩ (yielded ops a.tmps)=true) (hx:ev T x=some (.string p)) (hy:ev T y=some (.string q)) (hs:p.size+q.size<=4611686018427387904) (hd:Nat.blt d N=true)
  (k:∀ a',St N D w0 F G0 G L ((d,.string (p++q)) :: T) a' w->WL r P ops Q rest a' w):WL r P ops Q (⟨some d,.binOp .add t x y yt,ty,pos,aC,g⟩ :: rest) a w:=by
 refine bX (v:=.string (p++q)) (w':=w) hw O ?_ (k _ (H.put hd _ H.hp))
 have h:¬ ((p.size+q.size:Nat):Int) > IntKind.i64.max:=by
  rw [show IntKind.i64.max=9223372036854775807 by decide];omega
 simp only [execOp,H.ev hx,H.ev hy,bE,eqGuard,binOp,Op.stringOp,aL h]
 rfl
end
end
theorem Hl:bD 30:=bH func30 O
theorem Yl:bD 21:=bH func21 O
theorem Yk:bD 20:=bH func20 O
theorem Yp:bD 29:=bH func29 O
def fQ (l:List bL):List UInt8:=l.flatMap fun c=>fH c.flow++[10]
abbrev dY (l:List UInt8):ByteArray:=⟨l.toArray⟩
theorem TD {l:List bL} {k:Nat} (hk:k < l.length):fQ (l.take (k+1))=fQ (l.take k)++(fH l[k].flow++[10]):=by
 rw [kg hk];simp only [fQ,List.flatMap_append,List.flatMap_cons,List.flatMap_nil,kr]
theorem EF:∀ l:List bL,(fQ l).length<=iT l
 | []=>aV _
 | x :: l=>by
  have:=EF l;have h2:=Cm x.flow;have h3:=qU x
  simp only [fQ,List.flatMap_cons,gW,List.length_singleton,iT,gV,gY] at *;omega
theorem EG {l:List bL} {k:Nat}:(fQ (l.take k)).length<=(fQ l).length:=by
 have h:fQ l=fQ (l.take k)++fQ (l.drop k):=by
  simp only [fQ];rw [<- List.flatMap_append,List.take_append_drop]
 rw [h,gW];omega
theorem qp (l:List UInt8):(dY l).size=l.length:=by simp [dY,ByteArray.size]
theorem xZ (a b:List UInt8):dY (a++b)=dY a++dY b:=by apply ByteArray.ext;simp [dY]
theorem acJ:dW (dY [10])=true:=(Ez (s:=⟨#[10]⟩) (c:=10) (n:=1) O Y Y Y (fun j h3 h4=>by omega)).1
theorem TB:∀ {l:List bL},kL l=true->dW (dY (fQ l))=true
 | [],_=>Qf.1
 | x :: l,h=>by
  rw [kL,yB,gq] at h;have h1:=(KG (GX h.1)).1;have h2:=TB h.2
  have e:fQ (x :: l)=(fH x.flow++[10])++fQ l:=by simp [fQ]
  rw [e,xZ,xZ];exact Fw (Fw h1 acJ) h2
set_option maxHeartbeats 1000000 in
theorem WZ (G:GH) (w0:World) (hG:Hold G w0) (x:bg) (cs:List aj) (hv:aT G x.dat cs) (hz:fK x.dat<=1073741824) :
  Calls prog 21 #[.agg cs.toArray] w0 (bK w0 G fun u G'=>u=.string (dY (fQ x.cells))):=by
 have he:=sD x;have hrl:=EF x.cells;have hcl:=Fx x.cells;obtain ⟨pA,pn,pc,dA,dn,dc,yA,yn,yc,fA,fn,fc,rfl,hh,hf⟩:=hv.row;obtain ⟨A,c,Yf,hc1,hc2,hg⟩:=hf.slice;obtain ⟨rfl,rfl,rfl⟩:=Value.slice.inj Yf;rw [bG] at *;refine eN [(0,_)] func21 O ntmps21 O O hG ?_;intro a H;refine iV (fun _ K1=>?_);refine lV (cs:=[_,_,_,_,_,_]) H wn O O O ?_;clear H;intro b1 a w hb1 H;refine kH H (au K1 O (SR fun _ K2=>?_));clear H K1;intro a H;refine jv U1 H wn O ?_;clear H;intro b3 a w hb3 H;refine K2 _ _ ?_;clear K2;refine kP H (SQ fun _ K1=>SR fun _ K2=>fJ nU mY 1 O O (Rl jI O (Rm O (Kz K2 (SB ?_)))));clear H K2;intro a H;skip;refine dz (ι:=Nat × aj × aj × OL × GH) (Tc:=[(3,_),(7,_),(8,_)]) (Lc:=[(_,_)]) (fun gh=>[(9,vi gh.1)]) (fun gh=>[bB b3 gh.2.1 gh.2.2.1]++gh.2.2.2.1) (fun gh=>gh.2.2.2.2) (fun gh=>gh.1<=x.cells.length∧(gh.2.1=.pointer none∨gh.2.1=(aD b3 0))∧aZ 5 1 gh.2.2.1 (fQ (x.cells.take gh.1)).length (Lib.byteCells (fQ (x.cells.take gh.1))) gh.2.2.2.1∧(fQ (x.cells.take gh.1)=[]->gh.2.2.1=.slice none 0 0)∧(∀ b o,G b=some o->gh.2.2.2.2 b=some o)) (fun gh=>x.cells.length - gh.1) ((0,.pointer none,.slice none 0 0,[],G)) (by exact (H.dB (Pl:=[_,_]) (bS:=[_,_]) [1,0] Y O).sub ⟨O,O,O,O,aH⟩) ?_ ?_
 ·exact Mw
 clear H;rintro ⟨k,p,v,Lo,g⟩ a w hI H;dsimp only at hI H;obtain ⟨hk,hp,hrw,hnl,hgm⟩:=hI;dsimp only [lca,bR] at H;refine kP H (SR fun _ K2=>Rc O (Kz K2 (SQ fun _ K3=>Cd O ?_ ?_))) <;> clear H K2
 ·intro h10 a H
  try have nE:=dT h10
  have hk2:k < x.cells.length:=by omega
  obtain ⟨b,o,cs,rfl,rO,hrow,hrep⟩:=hg k x.cells[k].dat (by simp [hk2]);obtain ⟨qA,qn,qc,uA,un,uc,zA,zn,zc,xA,xn,xc,rfl,qE,hfc⟩:=hrep.cell;replace hrow:=fun j u hj=>aK hgm (hrow j u hj);have hpz:=EG (l:=x.cells) (k:=k);have abn:=EG (l:=x.cells) (k:=k+1);have hbs:=TD hk2;have hbz:=ko List.length hbs;rw [gW,gW] at hbz;have hce:=qU x.cells[k];have hcm:=uq (dK hk2)
  have hts:(dY (fH x.cells[k].flow++[10])).size=(fH x.cells[k].flow).length+1:=by rw [qp];simp
  refine kP H (Kc K3 (SQ fun _ K2=>SB (SR fun _ K4=>Ri jI jG O O ?_)));clear H K3;intro a H;refine dL jG (cs:=[_,_,_,_,_,_,_]) H wn O O (fun j v hj=>H.hp.aQ (hrow j v hj)) O ?_;clear H;intro a H;refine jv jG H wn O ?_;clear H;intro b5 a w hb5 H;refine eZ jG 0 (vs:=[_,_,_,_,_,_,_]) H wn O ?_;clear H;intro w H;refine K4 _ _ ?_;clear K4;refine kP H (SC (fJ yI oP 0 O O ?_));clear H;intro a H;refine s_call Hl H wn O (JX _ _ H.ro x.cells[k].flow _ (hfc.mono hgm) V) O ?_;clear H;rintro v15 Vs a w rfl I5 H;refine J3 H wn O O (by rw [qp];show _+1<=_;omega) rfl ?_;clear H;intro a H;rw [show dY (fH x.cells[k].flow)++(⟨#[10]⟩:ByteArray)=dY (fH x.cells[k].flow++[10]) from (xZ _ [10]).symm] at H;refine jR Ho (Li:=[_,_]) (L:=bB b3 p v :: Lo) H wn O (afP _ _ _ b3 p v _ _ (dY (fH x.cells[k].flow++[10])) hp (Hp.owns (Li:=[_,_]) H.hp) hrw (by rw [hts];omega)) rfl ?_;clear H;rintro v_ _ LJ a w ⟨v17,Ac,rfl,Er,rfl⟩ yV H;refine kH H (Kn K2 (SC (Rd O (Rm O ?_))));clear H K2;intro a H;refine aB ?_;refine aX ((k+1,(aD b3 0),v17,Ac,_)) (by exact (H.dB (Pl:=[_,_,_]) (bS:=[_,_]) [1,2] Y O).sub ⟨O,O,O,O,aH⟩) ?_
  (try dsimp only);exact ⟨V,.inr O,by rw [hbs,Pn];have h:=Er;rw [qp,<- gW] at h;exact h,fun e=>by rw [hbs] at e;simp at e,fun b o h=>I5 b o (hgm b o h)⟩
 intro h10 a H
 try have nE:=dF h10
 refine bQ ?_;refine K1 _ _ ?_;clear K1;refine fT (fun _ K1=>?_);rw [show x.cells.take k=x.cells from gX V] at hrw hnl;refine qw ?_;refine jR Qp (Li:=[_]) (L:=bB b3 p v :: Lo) H wn O (Uu _ _ _ b3 p v (fQ x.cells) (Hp.owns (Li:=[_]) H.hp) hrw hnl) O ?_;clear H;rintro v19 oU VE a w rfl kV H;exact kH H (cO K1 O (LR results21 O fun H=>H.rt O))
def xJ (fv:aj) (w0:World) (G:GH) (d:List Dat) (k:Int) (s:ByteArray):Prop:=∀ (G1:GH) (w1:World) (cs:List aj),(∀ b o,G b=some o->G1 b=some o)->Hold G1 w1->aT G1 d cs ->
 qV prog fv [.agg cs.toArray] w1 (bK w1 G1 fun u G'=>u=.tuple #[vi k,.string s])
theorem adh (G:GH) (w0:World) (hG:Hold G w0) (x:bg) (cs:List aj) (hv:aT G x.dat cs) (hz:fK x.dat<=1073741824) :
  Calls prog 20 #[.agg cs.toArray] w0 (bK w0 G fun u G'=>u=.tuple #[vi 0,.string (dY (fQ x.cells))]):=by
 obtain ⟨pA,pn,pc,dA,dn,dc,yA,yn,yc,fA,fn,fc,rfl,hh,hf⟩:=hv.row;refine eN [(0,_)] func20 O ntmps20 O O hG ?_;intro a H;refine iV (fun _ K1=>?_);refine lV (cs:=[_,_,_,_,_,_]) H wn O O O ?_;clear H;intro b1 a w hb1 H;refine kH H (Ra O (au K1 O (SR fun _ K2=>?_)));clear H K1;intro a H;refine dL jw (cs:=[_,_,_,_,_,_]) H wn O O (H.hp.dw 0 O O) O ?_;clear H;intro a H;refine s_call Yl H wn O (WZ _ _ H.ro x [_,_,_,_,_,_] hv hz) O ?_;clear H;rintro v5 G5 a w rfl I9 H;refine kH H (Ra O (au K2 O ?_));clear H K2;intro a H;refine bN ?_;refine (bZ H results20 (.cons (aJ H O) (.cons (aJ H O) .nil)) ?_).1;exact H.rt O
theorem Xp (G:GH) (w0:World) (hG:Hold G w0) (x:bL) (cs:List aj) (hv:aT G x.dat cs) (hz:fK x.dat<=1073741824) :
  Calls prog 29 #[.agg cs.toArray] w0 (bK w0 G fun u G'=>u=.tuple #[vi 0,.string (dY (fH x.flow))]):=by
 have he:=qU x;obtain ⟨pA,pn,pc,dA,dn,dc,yA,yn,yc,fA,fn,fc,rfl,hh,hf⟩:=hv.cell;refine eN [(0,_)] func29 O ntmps29 O O hG ?_;intro a H;refine iV (fun _ K1=>?_);refine lV (cs:=[_,_,_,_,_,_,_]) H wn O O O ?_;clear H;intro b1 a w hb1 H;refine kH H (Ra O (au K1 O (SR fun _ K2=>fJ yI oP 0 O O ?_)));clear H K1;intro a H;refine s_call Hl H wn O (JX _ _ H.ro x.flow _ hf V) O ?_;clear H;rintro v6 G6 a w rfl hm6 H;refine kH H (Ra O (au K2 O ?_));clear H K2;intro a H;refine bN ?_;refine (bZ H results29 (.cons (aJ H O) (.cons (aJ H O) .nil)) ?_).1;exact H.rt O
theorem TF {G:GH} {w0:World} (x:bg) (hz:fK x.dat<=1073741824):xJ (.func (.func 20) #[] #[]) w0 G x.dat 0 (dY (fQ x.cells)):=by
 intro G1 w1 cs hm1 hG1 hr;exact rE (P:=prog) (caps:=[]) (args:=[.agg cs.toArray]) Yk (adh _ _ hG1 x cs hr hz)
theorem Py {G:GH} {w0:World} (x:bL) (hz:fK x.dat<=1073741824):xJ (.func (.func 29) #[] #[]) w0 G x.dat 0 (dY (fH x.flow)):=by
 intro G1 w1 cs hm1 hG1 hr;exact rE (P:=prog) (caps:=[]) (args:=[.agg cs.toArray]) Yp (Xp _ _ hG1 x cs hr hz)
set_option maxHeartbeats 1000000 in
theorem SS (G:GH) (w0:World) (hG:Hold G w0) (l:List bL) (hA:aj) (v1 v2 v3 v4:aj) (v:aj) (hv:ay G (.sl 7 (l.map bL.dat)) v) (hz:iT l<=1073741824) :
  Calls prog 24 #[.agg #[hA,v1,v2,v3,v4,v]] w0 (bK w0 G fun u G'=>u=.string (dY (fQ l))):=by
 have hrl:=EF l;have hcl:=Fx l;obtain ⟨A,c,rfl,hc1,hc2,hg⟩:=hv.slice;rw [bG] at *;refine eN [(0,_)] func24 O ntmps24 O O hG ?_;intro a H;refine iV (fun _ K1=>?_);refine lV (cs:=[_,_,_,_,_,_]) H wn O O O ?_;clear H;intro b1 a w hb1 H;refine kH H (au K1 O (SR fun _ K2=>au K2 O (SQ fun _ K3=>SR fun _ K4=>au K4 O (SB ?_))));clear H K1 K2 K4;intro a H;skip;refine dz (ι:=Nat × GH) (Tc:=[(1,_)]) (Lc:=[(_,_)]) (fun gh=>[(3,.string (dY (fQ (l.take gh.1)))),(4,vi gh.1)]) (fun gh=>[]) (fun gh=>gh.2) (fun gh=>gh.1<=l.length∧(∀ b o,G b=some o->gh.2 b=some o)) (fun gh=>l.length - gh.1) ((0,G)) (by exact H.sub ⟨O,O,O,aH⟩) ?_ ?_
 ·exact ⟨V,fun _ _ h=>h⟩
 clear H;rintro ⟨k,g⟩ a w hI H;dsimp only at hI H;obtain ⟨hk,hgm⟩:=hI;dsimp only [lca,bR] at H;refine kP H (SQ fun _ K1=>SR fun _ K2=>Rm O (fJ nU mY 0 O O (Rl jI O (Rc O (Kz K2 (Cd O ?_ ?_)))))) <;> clear H K2
 ·intro h9 a H
  try have p9:=dT h9
  have hk2:k < l.length:=by omega
  obtain ⟨b,o,cs,rfl,rO,hrow,hrep⟩:=hg k l[k].dat (by simp [hk2]);obtain ⟨qA,qn,qc,uA,un,uc,zA,zn,zc,xA,xn,xc,rfl,qE,hfc⟩:=hrep.cell;replace hrow:=fun j u hj=>aK hgm (hrow j u hj);have hpz:=EG (l:=l) (k:=k);have abn:=EG (l:=l) (k:=k+1);have hbs:=TD hk2;have hbz:=ko List.length hbs;rw [gW,gW,List.length_singleton] at hbz;have hce:=qU l[k];have hcm:=uq (dK hk2);refine kP H (Kc K1 (SQ fun _ K2=>SB (SC (Rm O (fJ nU mY 0 O O (Rm O (Ri jI jG O O (Rf yI O (Rg oP O (hrow 6 _ O) ?_)))))))));clear H K1;intro a H;refine s_call Hl H wn O (JX _ _ H.ro l[k].flow _ (hfc.mono hgm) V) O ?_;clear H;rintro v19 oU a w rfl kV H;refine J3 H wn O O (by rw [qp,qp];omega) rfl ?_;clear H;intro a H;rw [<- xZ] at H;refine J3 H wn O O (by rw [qp,gW];show _+1<=_;omega) rfl ?_;clear H;intro a H;rw [show dY (fQ (l.take k)++fH l[k].flow)++(⟨#[10]⟩:ByteArray)=dY (fQ (l.take (k+1))) by rw [hbs,<- lK];exact (xZ _ [10]).symm] at H;refine kH H (cO K2 O (SC (Rm O (Rd O (Ra O ?_)))));clear H K2;intro a H;refine aB ?_;refine aX ((k+1,_)) (by exact H.sub ⟨O,O,O,aH⟩) ?_
  (try dsimp only);exact ⟨V,fun b o h=>kV b o (hgm b o h)⟩
 intro h9 a H
 try have p9:=dF h9
 refine bQ ?_;refine K3 _ _ ?_;clear K3;exact kP H (SR fun _ K2=>Rm O (au K2 O (LR results24 O fun H=>H.rt (by rw [gX V]))))
theorem qP:prog.underlying 35=some (.slice 62):=by kernel_rfl
theorem uj:Ty prog 62 3 24 [.int .i64 0,.int .i64 0,.int .i64 0] true:=⟨Z,Z⟩
theorem Ki:ow prog 62 [(0,1),(1,1),(2,1)] [.int .i64 0,.int .i64 0,.int .i64 0]:=⟨Z,Z⟩
def tZ (x:Int):Bool:=decide (0<=x) && decide (x<=1000)
def om (m:Nat) (r:List Int):Int:=if 1024 < r.length then 9 else if ¬ r.length=m then 15 else if r.all tZ then 0 else 2
def tJ:List Int->Int
 | []=>0
 | e :: l=>if e=0 then tJ l else e
def kS (S:List (List Int)):Int:=if 1024 < S.length then 9 else tJ (S.map (om (S.headD []).length))
theorem QM {f:List Int->Int}:∀ {S:List (List Int)} {i:Nat} (hi:i < S.length),(∀ j (hj:j < i),f (S[j]'V)=0)->¬ f S[i]=0->tJ (S.map f)=f S[i]
 | [],i,hi,_,_=>by simp at hi
 | r :: S,0,hi,_,h=>by rw [gV,tJ];exact aL h
 | r :: S,i+1,hi,h0,h=>by
  have h1:f r=0:=h0 0 V;rw [gV,tJ,aM h1];exact QM (S:=S) (i:=i) (by simpa using hi) (fun j hj=>h0 (j+1) V) h
theorem H8 {f:List Int->Int}:∀ {S:List (List Int)},(∀ j (hj:j < S.length),f S[j]=0)->tJ (S.map f)=0
 | [],_=>rfl
 | r :: S,h=>by
  have h1:f r=0:=h 0 (by simp);rw [gV,tJ,aM h1];exact H8 fun j hj=>h (j+1) (by simpa using hj)
def jM (S:List (List Int)):List fD:=if kS S=0 then jf (aP S) S.length (S.headD []).length 0 0 else []
theorem Me:kS []=0∧jM []=[]:=by
 have h:kS []=0:=by decide
 refine ⟨h,?_⟩;rw [jM,aM h,jf,dif_neg (by simp)]
def nH (bf n W j:Nat):List aj:=(List.range (n+1)).map fun i=>if i < j then .slice (some ⟨bf,i*W,none⟩) W ((n+1)*W - i*W) else .slice none 0 0
theorem adl (bf n W:Nat):nH bf n W 0=List.replicate (n+1) (.slice none 0 0):=by
 apply List.ext_getElem
 ·simp [nH]
 intro i h1 h2;simp [nH]
theorem adk {bf n W j:Nat} (hj:j < n+1):(nH bf n W j).set j (.slice (some ⟨bf,j*W,none⟩) W ((n+1)*W - j*W))=nH bf n W (j+1):=by
 apply List.ext_getElem
 ·simp [nH]
 intro i h1 h2;rw [List.getElem_set]
 by_cases e:j=i
 ·subst e;simp [nH]
 have:(i < j+1)=(i < j):=by apply propext;omega
 simp [nH,e,this]
theorem adi {bf n W i:Nat} (hi:i<=n):(nH bf n W (n+1))[i]?=some (.slice (some ⟨bf,i*W,none⟩) W ((n+1)*W - i*W)):=by
 simp [nH,List.getElem?_range,show i < n+1 by omega]
theorem adj (bf n W j:Nat):(nH bf n W j).length=n+1:=by simp [nH]
def uy (s:Nat->Nat->Int) (n m:Nat) (fl:List Int) (P:Nat->Nat->Prop):Prop:=fl.length=(n+1)*(m+1)∧∀ i k,i<=n->k<=m->P i k->fl[i*(m+1)+k]?=some (tot s n m i k)
theorem ZN {s:Nat->Nat->Int} {n m:Nat}:uy s n m (List.replicate ((n+1)*(m+1)) 0) (fun i k=>n<=i∨k=m):=by
 refine ⟨by simp,fun i k hi hk hp=>?_⟩;rw [zP V]
 have:i*(m+1)+k < (n+1)*(m+1):=by
  have:=Nat.mul_le_mul_right (m+1) hi;rw [Nat.succ_mul];omega
 simp [List.getElem?_replicate,this]
theorem ZM {s:Nat->Nat->Int} {n m i k:Nat} {fl:List Int} {P P':Nat->Nat->Prop} (h:uy s n m fl P) (hi:i < n) (hk:k < m) (hP:∀ i' k',P' i' k'->P i' k'∨(i'=i∧k'=k)):uy s n m (fl.set (i*(m+1)+k) (tot s n m i k)) P':=by
 have hlt:i*(m+1)+k < (n+1)*(m+1):=by
  have:=Nat.mul_le_mul_right (m+1) (show i<=n by omega);rw [Nat.succ_mul];omega
 refine ⟨by simp [h.1],fun i' k' hi' hk' hp=>?_⟩;rw [List.getElem?_set]
 by_cases e:i*(m+1)+k=i'*(m+1)+k'
 ·obtain ⟨rfl,rfl⟩:=abW V V e;rw [aM O,aM (by rw [h.1];exact hlt)]
 rw [aL e]
 rcases hP i' k' hp with h2|⟨rfl,rfl⟩
 ·exact h.2 i' k' hi' hk' h2
 exact absurd O e
theorem uy.weak {s:Nat->Nat->Int} {n m:Nat} {fl:List Int} {P P':Nat->Nat->Prop} (h:uy s n m fl P) (hp:∀ i k,i<=n->k<=m->P' i k->P i k):uy s n m fl P':=⟨h.1,fun i k hi hk h'=>h.2 i k hi hk (hp i k hi hk h')⟩
theorem MF {p:Prop} (h:p:=by
 first
  | (have hr:om m S[i]=2:=by
      rw [om,dh,dh,aL (fun h=>by
        have:=fM.1 h _ (dK hk2)
        simp only [tZ,gq,gG] at this
        omega)]
     exact H.rt ⟨_,by rw [yR 2 Y hr],by rw [hbl 2 Y (yR 2 Y hr)];exact ay.nY O Y⟩)
  | (have hS:S=[]:=List.eq_nil_of_length_eq_zero V
     subst hS
     exact H.rt ⟨_,by rw [Me.1],by rw [Me.2];exact ay.nY O Y⟩)
  | exact H.rt ⟨_,by rw [Bj],by rw [jM,aM Bj,<- hm];exact hrep⟩):p:=h
theorem F7 {p:Prop} (h:p:=by
 exact ⟨dO _,fun _ _ h=>h⟩):p:=h
theorem MG {p:Prop} (h:p:=by
 exact ⟨V,V,hrw,lU.mono Bn,heq,fun b o h=>Bn b o (nC b o h)⟩):p:=h
theorem Dc {p:Prop} (h:p:=by
 intro a H;refine bN ?_;refine (bZ H results16 (.cons (aJ H O) (.cons (aJ H O) .nil)) ?_).1
 exact MF):p:=h
theorem vP {p:Prop} (h:p:=by
 have Hb:=H.full;have H:=Hb;clear hc;refine bO gI bI i H wn O O O V O ?_;exact aI):p:=h
theorem xY {p:Prop} (h:p:=by
 have Hb:=H.full;have H:=Hb;clear hc;refine bO bP aG k H wn O O O V O ?_;exact aI):p:=h
theorem Gg {p:Prop} (h:p:=by
 intro av a w G1 _ ah hc hG HT hv;have H:=HT;clear ah;have Hb:=H.full;have H:=Hb;clear hc;refine kH H (Rg nK O (aK hG t0) ?_);exact aI):p:=h
theorem Gj {p:Prop} (h:p:=by
 intro av a w G1 _ ah hc hG HT hv;have H:=HT;clear ah;have Hb:=H.full;have H:=Hb;clear hc;refine kH H (Ro nK 0 O ?_);exact aI):p:=h
theorem Nj {p:Prop} (h:p:=by
 have Hb:=H.full;have H:=Hb;clear hc;refine kH H (Rg bI O (aK hG (by rw [eP,Nat.mul_one];exact t1)) ?_);exact aI):p:=h
set_option maxHeartbeats 4000000 in
theorem FX (G:GH) (w0:World) (hG:Hold G w0) (S:List (List Int)) (v:aj) (hv:ay G (.sl 1 (S.map jF)) v) :
    Calls prog 16 #[v] w0 (bK w0 G fun u G'=>∃ x,u=.tuple #[x,vi (kS S)]∧ay G' (.sl 3 ((jM S).map fD.dat)) x):=by
  obtain ⟨A,c,rfl,hc1,hc2,-⟩:=hv.slice;have hml:maxLen=9223372036854775807:=rfl;rw [bG] at *;obtain ⟨m,hm⟩:∃ m,m=(S.headD []).length:=⟨_,O⟩;refine eN [(0,_)] func16 O ntmps16 O O hG ?_;intro a H;refine iV (fun _ K1=>?_);refine lV (cs:=[_]) H wn O O O ?_;clear H;intro b1 a w hb1 H;refine kH H (Ra O (au K1 O (SQ fun _ K2=>SR fun _ K3=>Ro nK 0 O (Rl gI O (Rc O (Kz K3 (Cd O ?_ ?_))))))) <;> clear H K1 K3
  · intro h21 a H
    try have kN:=dT h21
    have Bj:kS S=9:=by rw [kS,iw]
    have hbl:jM S=[]:=by rw [jM,aL (by rw [Bj];decide)]
    refine kP H (SR fun _ K1=>Ra O (au K1 O ?_));clear H K1;intro a H;refine bN ?_;refine (bZ H results16 (.cons (aJ H O) (.cons (aJ H O) .nil)) ?_).1;exact H.rt ⟨_,by rw [Bj],by rw [hbl];exact ay.nY O Y⟩
  intro h21 a H
  try have kN:=dF h21
  refine kP H (Kc K2 (SQ fun _ K1=>SR fun _ K3=>Ro nK 0 O (Rl gI O (Rm O (Kz K3 (SB ?_))))));clear H K2 K3;intro a H;skip;refine dz (ι:=Nat) (Tc:=[(1,_),(22,_),(23,_)]) (Lc:=[(_,_)]) (fun gh=>[(24,vi gh)]) (fun gh=>[]) (fun gh=>G) (fun gh=>gh<=S.length∧∀ j (hj:j < gh) (hj2:j < S.length),om m S[j]=0) (fun gh=>S.length - gh) (0) (by exact H.sub ⟨O,O,O,O,aH⟩) ?_ ?_
  · exact ⟨V,fun j hj=>absurd hj (Nat.not_lt_zero _)⟩
  clear H;intro i a w hI H;obtain ⟨hi,hno⟩:=hI;dsimp only [lca,bR] at H;refine kP H (SR fun _ K2=>Rc O (Kz K2 (SQ fun _ K3=>Cd O ?_ ?_))) <;> clear H K2
  · intro gK a H
    try have p25:=dT gK
    have hi2:i < S.length:=by omega
    obtain ⟨b,o,rA,rc,hA,g1,g2⟩:=tX hv hi2;subst hA;obtain ⟨b',o',rA0,rc0,D8,g3,g4⟩:=tX hv (show 0 < S.length by omega)
    obtain ⟨rfl,rfl⟩:b=b'∧o=o':=by simpa using D8
    have hm0:S[0].length=m:=by rw [hm];cases S with|nil=>simp at hi2|cons r S=>rfl
    have yR:∀ e,¬ e=0->om m S[i]=e->kS S=e:=fun e he h=>by
      rw [kS,dh,<- hm,QM hi2 (fun j hj=>hno j hj V) (by rw [h];exact he),h]
    have hbl:∀ e,¬ e=0->kS S=e->jM S=[]:=fun e he h=>by rw [jM,aL (by rw [h];exact he)]
    refine kP H (Kc K3 (SQ fun _ K2=>SB (SR fun _ K4=>Ri gI bI O O (Rg bI O (by assumption) ?_))));clear H K3;intro a H;refine kH H (au K4 O (SQ fun _ K3=>SB (SR fun _ K5=>Rm O (Rl bP O (Rc O (au K5 O (Cd O ?_ ?_))))))) <;> clear H K4 K5
    · intro gy a H
      try have p28:=dT gy
      refine kP H (SR fun _ K4=>Ra O (au K4 O ?_));clear H K4;intro a H;refine bN ?_;refine (bZ H results16 (.cons (aJ H O) (.cons (aJ H O) .nil)) ?_).1
      have hr:om m S[i]=9:=by rw [om,iw]
      exact H.rt ⟨_,by rw [yR 9 Y hr],by rw [hbl 9 Y (yR 9 Y hr)];exact ay.nY O Y⟩
    intro gy a H
    try have p28:=dF gy
    refine kP H (SR fun _ K4=>Rm O (Rl bP O (Ro nK 0 O ?_)));clear H;intro a H;refine bO gI bI 0 H wn O O O V O ?_;clear H;intro a H;refine kH H (Rg bI O (by assumption) ?_);clear H;intro a H;refine kH H (Rl bP O (Rc O (au K4 O (Cd O ?_ ?_)))) <;> clear H K4
    · intro h32 a H
      try have p32:=dT h32
      refine kP H (SR fun _ K4=>Ra O (au K4 O ?_));clear H K4;intro a H;refine bN ?_;refine (bZ H results16 (.cons (aJ H O) (.cons (aJ H O) .nil)) ?_).1
      have hr:om m S[i]=15:=by rw [om,dh,iw]
      exact H.rt ⟨_,by rw [yR 15 Y hr],by rw [hbl 15 Y (yR 15 Y hr)];exact ay.nY O Y⟩
    intro h32 a H
    try have p32:=dF h32
    refine kP H (Kc K3 (SR fun _ K4=>Rm O (Rl bP O (Rm O (Kz K4 (SB ?_))))));clear H K3 K4;intro a H;skip;refine dz (ι:=Nat) (Tc:=[(1,_),(22,_),(23,_),(24,_),(40,_),(41,_)]) (Lc:=[(_,_)]) (fun gh=>[(42,vi gh)]) (fun gh=>[]) (fun gh=>G) (fun gh=>gh<=S[i].length∧∀ q (hq:q < gh) (hq2:q < S[i].length),tZ S[i][q]=true) (fun gh=>S[i].length - gh) (0) (by exact H.sub ⟨O,O,O,O,O,O,O,aH⟩) ?_ ?_
    · exact Mr
    clear H;intro k a w hI H;obtain ⟨hk,Bt⟩:=hI;dsimp only [lca,bR] at H;refine kP H (SR fun _ K3=>Rc O (Kz K3 (SQ fun _ K4=>Cd O ?_ ?_))) <;> clear H K3
    · intro h43 a H
      try have p43:=dT h43
      have hk2:k < S[i].length:=by omega
      obtain ⟨b2,o2,hA2,g5⟩:=mO g2 hk2;subst hA2;refine kP H (Kc K4 (SQ fun _ K3=>SB (SR fun _ K5=>Ri bP aG O O (Rg aG O (by assumption) ?_))));clear H K4;intro a H;refine kH H (au K5 O (SR fun _ K4=>Rm O (Rc O (Rm O (Sp 48 O ?_ ?_))))) <;> clear H K5
      · intro h48 a H
        try have p48:=dT h48
        refine kH H (aR h48 O (Pt h48 O (Kz K4 (Ct O O (SR fun _ K5=>Ra O (au K5 O ?_))))));clear H K4 K5;exact Dc
      intro h48 a H
      try have p48:=dF h48
      refine kH H (YM h48 O (YC h48 O (Pf h48 O (Kz K4 (Cd O ?_ ?_))))) <;> clear H K4
      · intro jE a H
        try have p51:=dT jE
        refine kP H (SR fun _ K4=>Ra O (au K4 O ?_));clear H K4;exact Dc
      intro jE a H
      try have p51:=dF jE
      refine kP H (Kc K3 (SC (Rd O (Rm O ?_))));clear H K3;intro a H;refine aB ?_;refine aX ((k+1)) (by exact H.sub ⟨O,O,O,O,O,O,O,aH⟩) ?_
      exact ⟨V,fun q hq hq2=>by
          by_cases e:q=k
          · subst e;simp only [tZ,gq,gG];omega
          exact Bt q V hq2⟩
    intro h43 a H
    try have p43:=dF h43
    refine bQ ?_;refine K2 _ _ ?_;clear K2;refine kP H (SC (Rd O (Rm O ?_)));clear H;intro a H;refine aB ?_;refine aX ((i+1)) (by exact H.sub ⟨O,O,O,O,aH⟩) ?_
    exact ⟨V,fun j hj hj2=>by
        by_cases e:j=i
        · subst e
          rw [om,dh,dh,aM (fM.2 fun x hx=>by
            obtain ⟨q,hq,rfl⟩:=List.getElem_of_mem hx
            exact Bt q V hq)]
        exact hno j V hj2⟩
  intro gK a H
  try have p25:=dF gK
  refine bQ ?_;refine K1 _ _ ?_;clear K1;refine kP H (SQ fun _ K1=>SR fun _ K2=>Ro nK 0 O (Rl gI O (Rc O (Kz K2 (Cd O ?_ ?_))))) <;> clear H K2
  · intro dS a H
    try have p56:=dT dS
    refine kP H (SR fun _ K2=>Ra O (au K2 O ?_));clear H K2;exact Dc
  intro dS a H
  try have p56:=dF dS
  have hn0:0 < S.length:=by omega
  have hno':∀ j (hj:j < S.length),om m S[j]=0:=fun j hj=>hno j V hj
  have Bj:kS S=0:=by rw [kS,dh,<- hm];exact H8 hno'
  have Et:∀ r∈S,r.length=m∧r.length<=1024∧r.all tZ=true:=fun r hr=>by
    obtain ⟨j,hj,rfl⟩:=List.getElem_of_mem hr;have:=hno' j hj;rw [om] at this
    split at this
    · cases this
    split at this
    · cases this
    split at this
    · rename_i h1 h2 h3;exact ⟨V,V,h3⟩
    cases this
  obtain ⟨b,o,rA,rc,hA,g1,g2⟩:=tX hv hn0;subst hA;have hm0:S[0].length=m:=(Et _ (dK hn0)).1
  have hm1:m<=1024:=by have:=(Et _ (dK hn0)).2.1;omega
  rw [hm0] at g1 g2;have hN:(S.length+1)*(m+1)<=1025*1025:=Nat.mul_le_mul V V
  have hok:∀ i k,i < S.length->k < m->0<=aP S i k∧aP S i k<=1000:=fun i k hi hk=>by
    have h1:=Et _ (dK hi);rw [zF hi V];have h2:=fM.1 h1.2.2 _ (dK (show k < S[i].length by omega))
    simpa [tZ] using h2
  have htb:=fun i k=>zO (n:=S.length) (m:=m) (fun i k hi hk=>(hok i k hi hk).2) ((S.length - i)+(m - k)) i k (aV _);refine kI ?_;refine K1 _ _ ?_;clear K1;refine fT (fun _ K1=>?_);refine dI fF [[],[0],[],[2],[2,3],[2,3,4],[0,1],ra 0 7] [] Z [.slice (some ⟨b,o,none⟩) S.length c,vi S.length,.slice (some ⟨b,o,none⟩) S.length c,(aD b (o+0*1)),.slice rA m rc,vi m,vi S.length,vi m] H (aF ?_ ?_ ?_ ?_ (aF ?_ ?_ ?_ ?_ fB)) ?_
  · exact Gj
  · intro av a w G1 _ ah hc hG HT hv;have H:=HT;clear ah;have H:=H.ak (hv 0 57 (hc 0 Y) O) O;have Hb:=H.full;have H:=Hb;clear hc;refine kH H (Rl gI O ?_);exact aI
  · exact Gj
  · intro av a w G1 _ ah hc hG HT hv;have H:=HT;clear ah;have H:=H.ak (hv 2 59 (hc 2 Y) O) O;have Hb:=H.full;have H:=Hb;clear hc;refine bO gI bI 0 H wn O O O V O ?_;exact aI
  · intro av a w G1 _ ah hc hG HT hv;have H:=HT;clear ah;have H:=H.ak (hv 3 60 (hc 3 Y) O) O;exact CZ
  · intro av a w G1 _ ah hc hG HT hv;have H:=HT;clear ah;have H:=H.ak (hv 4 61 (hc 4 Y) O) O;have Hb:=H.full;have H:=Hb;clear hc;refine kH H (Rl bP O ?_);exact aI
  · intro av a w G1 _ ah hc hG HT hv;have H:=HT;clear ah;have H:=H.ak (hv 1 58 (hc 1 Y) O) O;exact uO
  · intro av a w G1 _ ah hc hG HT hv;have H:=HT;clear ah;have H:=H.ak (hv 5 62 (hc 5 Y) O) O;exact uO
  clear H;intro a w G aae H hv;have H:=H.ak (hv 6 8 O O) O;have H:=H.ak (hv 7 9 O O) O;clear hv;refine aB ⟨O,?_⟩;refine K1 _ _ ?_;clear K1;refine fT (fun _ K1=>?_);replace hv:=hv.mono aae;refine kP H (SC (Rm O (Rd O (Rm O (Rd O ?_)))));clear H;intro a H;refine wV (((S.length+1)*(m+1):Nat):Int) H wn O O (by push_cast;rfl) V V rfl ?_;clear H;intro a H;refine lW ((S.length+1)*(m+1)) bP aG H wn O O O V V O ?_;clear H;intro jU a w IC H;refine kH H (cO K1 O (SR fun _ K2=>Rm O (Rd O ?_)));clear H K1;intro a H;refine lW (S.length+1) gI bI H wn O O V V V O ?_;clear H;intro pE a w agY H;rw [<- adl jU S.length (m+1)] at H;refine jv nK H wn O ?_;clear H;intro b11 a w Q5 H;refine eZ nK 0 (vs:=[_]) H wn O ?_;clear H;intro w H;refine K2 _ _ ?_;clear K2;refine kP H (SQ fun _ K1=>SR fun _ K2=>Ro nK 0 O (Rl gI O (Rm O (Kz K2 (SB ?_)))));clear H K2;intro a H;skip;refine dz (ι:=Nat × GH) (Tc:=[(1,_),(8,_),(9,_),(10,_),(11,_),(73,_)]) (Lc:=[(_,_),(_,_),(_,_)]) (fun gh=>[(74,vi gh.1)]) (fun gh=>[(pE,.cells (nH jU S.length (m+1) gh.1).toArray 46 (0,0))]) (fun gh=>gh.2) (fun gh=>gh.1<=S.length+1∧(∀ b o,G b=some o->gh.2 b=some o)) (fun gh=>S.length+1 - gh.1) ((0,G)) (by exact (H.dB (Pl:=[_,_,_,_]) (bS:=[_,_,_,_]) [0,2,3,1] Y O).sub ⟨O,O,O,O,O,O,O,aH⟩) ?_ ?_
  · exact F7
  clear H;rintro ⟨j,g⟩ a w hI H;dsimp only at hI H;obtain ⟨hj,hgm⟩:=hI;dsimp only [lca,bR] at H;refine kP H (SR fun _ K2=>Rc O (Kz K2 (SQ fun _ K4=>Cd O ?_ ?_))) <;> clear H K2
  · intro Io a H
    try have p75:=dT Io
    have hj2:j < S.length+1:=by omega
    have hmu:(j+1)*(m+1)<=(S.length+1)*(m+1):=Nat.mul_le_mul_right _ V;have ahl:(j+1)*(m+1)=j*(m+1)+(m+1):=Nat.succ_mul _ _
    have hsub:(j+1)*(m+1) - j*(m+1)=m+1:=by omega
    have hne:¬ (S.length+1)*(m+1)=j*(m+1):=by omega
    refine kP H (Kc K4 (SQ fun _ K2=>SB (SR fun _ K5=>Rm O (au K5 O ?_))));clear H K4 K5;intro a H;refine dI fF [[],[],[],[],[],[4],[3,4,5],[],[7],[],[9],ra 7 4,ra 2 10,ra 0 13,ra 0 14] [14] Z [.slice (some ⟨pE,0,none⟩) (S.length+1) (S.length+1),vi j,.slice (some ⟨jU,0,none⟩) ((S.length+1)*(m+1)) ((S.length+1)*(m+1)),vi j,vi m,vi ((m:Int)+1),vi ((j*(m+1):Nat):Int),vi j,vi ((j:Int)+1),vi m,vi ((m:Int)+1),vi (((j+1)*(m+1):Nat):Int),.slice (some ⟨jU,j*(m+1),none⟩) (m+1) ((S.length+1)*(m+1) - j*(m+1)),(aD pE (0+j*1))] H (aF ?_ ?_ ?_ ?_ (aF ?_ ?_ ?_ ?_ (aF ?_ ?_ ?_ ?_ (gN ?_ (gN ?_ (gN (gB O) fB)))))) ?_
    · exact Gj
    · exact aO
    · exact aO
    · exact aO
    · exact aO
    · intro av a w G1 _ ah hc hG HT hv;have H:=HT;clear ah;have H:=H.ak (hv 4 81 (hc 4 Y) O) O;exact lQ
    · intro av a w G1 _ ah hc hG HT hv;have H:=HT;clear ah;have H:=H.ak (hv 3 80 (hc 3 Y) O) O;have H:=H.ak (hv 5 82 (hc 5 Y) O) O;have Hb:=H.full;have H:=Hb;clear hc;refine wV ((j*(m+1):Nat):Int) H wn O O (by push_cast;rfl) V V rfl ?_;exact aI
    · exact aO
    · intro av a w G1 _ ah hc hG HT hv;have H:=HT;clear ah;have H:=H.ak (hv 7 84 (hc 7 Y) O) O;exact lQ
    · exact aO
    · intro av a w G1 _ ah hc hG HT hv;have H:=HT;clear ah;have H:=H.ak (hv 9 86 (hc 9 Y) O) O;exact lQ
    · intro av a w G1 _ ah hc hG HT hv;have H:=HT;clear ah;have H:=H.ak (hv 8 85 (hc 8 Y) O) O;have H:=H.ak (hv 10 87 (hc 10 Y) O) O;have Hb:=H.full;have H:=Hb;clear hc;refine wV (((j+1)*(m+1):Nat):Int) H wn O O (by push_cast;rfl) V V rfl ?_;exact aI
    · intro av a w G1 _ ah hc hG HT hv;have H:=HT;clear ah;have H:=H.ak (hv 2 79 (hc 2 Y) O) O;have H:=H.ak (hv 6 83 (hc 6 Y) O) O;have H:=H.ak (hv 11 88 (hc 11 Y) O) O;have Hb:=H.full;have H:=Hb;clear hc;refine J6 bP aG (j*(m+1)) ((j+1)*(m+1)) H wn O O O O O V hmu O ?_;clear H;intro a H;rw [aL hne,oF,add_lit,eP,Nat.mul_one,hsub] at H;refine aB ⟨O,?_⟩;exact Ao
    · intro av a w G1 _ ah hc hG HT hv;have H:=HT;clear ah;have H:=H.ak (hv 0 77 (hc 0 Y) O) O;have H:=H.ak (hv 1 78 (hc 1 Y) O) O;have Hb:=H.full;have H:=Hb;clear hc;refine bO gI bI j H wn O O O V O ?_;exact aI
    clear H;intro a w G aaf H hv;have H:=H.ak (hv 12 89 O O) O;have H:=H.ak (hv 13 90 O O) O;clear hv;refine nI bI 3 (c:=nH jU S.length (m+1) j) (vs:=[_]) (nH jU S.length (m+1) (j+1)) H wn O O O O O O (Eq.mpr Nat.ble_eq (by rw [adj];simp only [List.length_singleton];omega)) (by rw [eP,Nat.mul_one];exact adk hj2) ?_;clear H;intro w H;dsimp only [List.set] at H;refine aB ⟨O,?_⟩;refine K2 _ _ ?_;clear K2;refine kP H (SC (Rd O (Rm O ?_)));clear H;intro a H;refine aB ?_;refine aX ((j+1,G)) (by exact H.sub ⟨O,O,O,O,O,O,O,aH⟩) ?_
    (try dsimp only);exact ⟨V,fun b o h=>aaf b o (hgm b o h)⟩
  intro Io a H
  try have p75:=dF Io
  refine bQ ?_;refine K1 _ _ ?_;clear K1;refine fT (fun _ K1=>?_)
  have IW:j=S.length+1:=by omega
  rw [IW] at H;have H:=H.dB (Pl:=[_,_,_,_]) (bS:=[_,_,_,_]) [0,2,3,1] Y O;obtain ⟨Ga,hma,aat,H⟩:=H.gP;obtain ⟨Gb,hmb,hb1',H⟩:=H.gP;obtain ⟨Gc,hmc,aaz,H⟩:=H.gP;have hT:Ag Gc b1 b11 pE jU S m:=⟨⟨_,c,(by unfold aQ;rw [hmc _ _ hb1'];rfl),hv.mono fun b o h=>hmc b o (hmb b o (hma b o (hgm b o h)))⟩,fun r hr=>(Et r hr).1,(by unfold aQ;rw [hmc _ _ (hmb _ _ aat)];rfl),(fun i hi=>by unfold aQ;rw [aaz];simpa using adi hi),⟨V,hm1⟩,hok⟩;rw [show List.replicate ((S.length+1)*(m+1)) (Value.int .i64 0)=(List.replicate ((S.length+1)*(m+1)) (0:Int)).map vi from List.map_replicate.symm] at H;refine qw ?_;refine Cc H wn O O ?_;clear H;intro a H;refine kH H (cO K1 O (SQ fun _ K2=>SR fun _ K5=>Rm O (Rs O (au K5 O (SB ?_)))));clear H K1 K5;intro a H;skip;refine dz (ι:=Nat × List Int × GH) (Tc:=[(1,_),(8,_),(9,_),(11,_),(13,_)]) (Lc:=[]) (fun gh=>[(14,vi ((gh.1:Int) - 1))]) (fun gh=>[bF jU gh.2.1]) (fun gh=>gh.2.2) (fun gh=>gh.1<=S.length∧uy (aP S) S.length m gh.2.1 (fun i' k'=>gh.1<=i'∨k'=m)∧(∀ b o,Gc b=some o->gh.2.2 b=some o)) (fun gh=>gh.1) ((S.length,List.replicate ((S.length+1)*(m+1)) 0,Gc)) (by exact H.sub ⟨O,O,O,O,O,O,aH⟩) ?_ ?_
  · exact ⟨aV _,ZN,fun _ _ h=>h⟩
  clear H;rintro ⟨j,fl,g⟩ a w hI H;dsimp only at hI H;obtain ⟨hj,hfl,hgm⟩:=hI;dsimp only [lca,bR] at H;refine kP H (SQ fun _ K1=>SR fun _ K5=>Rm O (Rc O (Kz K5 (Cd O ?_ ?_)))) <;> clear H K5
  · intro Ip a H
    try have p96:=dT Ip
    obtain ⟨i,rfl⟩:∃ i,j=i+1:=⟨j - 1,V⟩;rw [show (((i+1:Nat):Int) - 1)=(i:Int) by omega] at H
    have hi2:i < S.length:=by omega
    refine kP H (Kc K1 (SQ fun _ K5=>SB (SR fun _ K6=>Rm O (Rs O (au K6 O (SB ?_))))));clear H K1 K6;intro a H;skip;refine dz (ι:=Nat × List Int × GH) (Tc:=[(1,_),(8,_),(9,_),(11,_),(13,_),(14,_)]) (Lc:=[]) (fun gh=>[(15,vi ((gh.1:Int) - 1))]) (fun gh=>[bF jU gh.2.1]) (fun gh=>gh.2.2) (fun gh=>gh.1<=m∧uy (aP S) S.length m gh.2.1 (fun i' k'=>i+1<=i'∨k'=m∨(i'=i∧gh.1<=k'))∧(∀ b o,Gc b=some o->gh.2.2 b=some o)) (fun gh=>gh.1) ((m,fl,g)) (by exact H.sub ⟨O,O,O,O,O,O,O,aH⟩) ?_ ?_
    · exact ⟨aV _,hfl.weak (fun i' k' h1 h2 h=>by omega),hgm⟩
    clear H;rintro ⟨q,Bb,g2⟩ a w hI H;dsimp only at hI H;obtain ⟨hq,yQ,fE⟩:=hI;dsimp only [lca,bR] at H;refine kP H (SQ fun _ K1=>SR fun _ K6=>Rm O (Rc O (Kz K6 (Cd O ?_ ?_)))) <;> clear H K6
    · intro Ia a H
      try have acO:=dT Ia
      obtain ⟨k,rfl⟩:∃ k,q=k+1:=⟨q - 1,V⟩;rw [show (((k+1:Nat):Int) - 1)=(k:Int) by omega] at H
      have hk2:k < m:=by omega
      have e1:=yQ.2 (i+1) k V V (.inl (aV _));have e2:=yQ.2 i (k+1) V V V;have e3:=yQ.2 (i+1) (k+1) V V (.inl (aV _));have Ee:=hT.mono fE;have t0:=Ee.tb;have t1:=Ee.rows i V;have t2:=Ee.rows (i+1) V;have hb3:=htb (i+1) (k+1)
      have hlt:i*(m+1)+k < (S.length+1)*(m+1):=by
        have:=Nat.mul_le_mul_right (m+1) (show i<=S.length by omega);rw [Nat.succ_mul];omega
      refine kP H (Kc K1 (SQ fun _ K6=>SB ?_));clear H K1;intro a H;refine dI fF [[],[],[0,1],[0,1,2],[],[],[],[6],[5,6,7],ra 5 4,[],ra 5 6,ra 5 7,[],[],[13,14],[13,14,15],[],[17],ra 13 6,ra 13 7,[],[],[],[21,22,23],ra 5 20,ra 0 26,ra 0 27] [27] Z [.slice (some ⟨pE,0,none⟩) (S.length+1) (S.length+1),vi i,(aD pE (0+i*1)),.slice (some ⟨jU,i*(m+1),none⟩) (m+1) ((S.length+1)*(m+1) - i*(m+1)),vi k,.slice (some ⟨pE,0,none⟩) (S.length+1) (S.length+1),vi i,vi ((i:Int)+1),(aD pE (0+(i+1)*1)),.slice (some ⟨jU,(i+1)*(m+1),none⟩) (m+1) ((S.length+1)*(m+1) - (i+1)*(m+1)),vi k,(aD jU ((i+1)*(m+1)+k*1)),vi (tot (aP S) S.length m (i+1) k),.slice (some ⟨pE,0,none⟩) (S.length+1) (S.length+1),vi i,(aD pE (0+i*1)),.slice (some ⟨jU,i*(m+1),none⟩) (m+1) ((S.length+1)*(m+1) - i*(m+1)),vi k,vi ((k:Int)+1),(aD jU (i*(m+1)+(k+1)*1)),vi (tot (aP S) S.length m i (k+1)),.func (.func 33) #[] #[(aD b1 0),(aD b11 0)],vi i,vi k,vi (qQ (aP S) S.length m i k),vi (tot (aP S) S.length m i k),(aD jU (i*(m+1)+k*1))] H (aF ?_ ?_ ?_ ?_ (aF ?_ ?_ ?_ ?_ (aF ?_ ?_ ?_ ?_ (aF ?_ ?_ ?_ ?_ (aF ?_ ?_ ?_ ?_ (aF ?_ ?_ ?_ ?_ (aF ?_ ?_ ?_ (gB O) fB))))))) ?_
      · exact Gg
      · exact aO
      · intro av a w G1 _ ah hc hG HT hv;have H:=HT;clear ah;have H:=H.ak (hv 0 105 (hc 0 Y) O) O;have H:=H.ak (hv 1 106 (hc 1 Y) O) O;exact vP
      · intro av a w G1 _ ah hc hG HT hv;have H:=HT;clear ah;have H:=H.ak (hv 2 107 (hc 2 Y) O) O;exact Nj
      · exact aO
      · exact Gg
      · exact aO
      · intro av a w G1 _ ah hc hG HT hv;have H:=HT;clear ah;have H:=H.ak (hv 6 111 (hc 6 Y) O) O;exact lQ
      · intro av a w G1 _ ah hc hG HT hv;have H:=HT;clear ah;have H:=H.ak (hv 5 110 (hc 5 Y) O) O;have H:=H.ak (hv 7 112 (hc 7 Y) O) O;exact C8
      · intro av a w G1 _ ah hc hG HT hv;have H:=HT;clear ah;have H:=H.ak (hv 8 113 (hc 8 Y) O) O;have Hb:=H.full;have H:=Hb;clear hc;refine kH H (Rg bI O (aK hG (by rw [eP,Nat.mul_one];exact t2)) ?_);exact aI
      · exact aO
      · intro av a w G1 _ ah hc hG HT hv;have H:=HT;clear ah;have H:=H.ak (hv 9 114 (hc 9 Y) O) O;have H:=H.ak (hv 10 115 (hc 10 Y) O) O;exact xY
      · intro av a w G1 _ ah hc hG HT hv;have H:=HT;clear ah;have H:=H.ak (hv 11 116 (hc 11 Y) O) O;have Hb:=H.full;have H:=Hb;clear hc;refine iF aG H wn O (H.hp.jh 0 O (by rw [Nat.mul_one];exact pI e1)) O ?_;exact aI
      · exact Gg
      · exact aO
      · intro av a w G1 _ ah hc hG HT hv;have H:=HT;clear ah;have H:=H.ak (hv 13 118 (hc 13 Y) O) O;have H:=H.ak (hv 14 119 (hc 14 Y) O) O;exact vP
      · intro av a w G1 _ ah hc hG HT hv;have H:=HT;clear ah;have H:=H.ak (hv 15 120 (hc 15 Y) O) O;exact Nj
      · exact aO
      · intro av a w G1 _ ah hc hG HT hv;have H:=HT;clear ah;have H:=H.ak (hv 17 122 (hc 17 Y) O) O;exact lQ
      · intro av a w G1 _ ah hc hG HT hv;have H:=HT;clear ah;have H:=H.ak (hv 16 121 (hc 16 Y) O) O;have H:=H.ak (hv 18 123 (hc 18 Y) O) O;exact AB
      · intro av a w G1 _ ah hc hG HT hv;have H:=HT;clear ah;have H:=H.ak (hv 19 124 (hc 19 Y) O) O;have Hb:=H.full;have H:=Hb;clear hc;refine iF aG H wn O (H.hp.jh 0 O (by rw [Nat.mul_one];exact pI e2)) O ?_;exact aI
      · exact aO
      · exact aO
      · exact aO
      · intro av a w G1 _ ah hc hG HT hv;have H:=HT;clear ah;have H:=H.ak (hv 21 126 (hc 21 Y) O) O;have H:=H.ak (hv 22 127 (hc 22 Y) O) O;have H:=H.ak (hv 23 128 (hc 23 Y) O) O;have Hb:=H.full;have H:=Hb;clear hc;refine zG (Li:=[]) (L:=[bF jU Bb]) H wn O O (Vj (Ee.mono hG) (Hp.owns (Li:=[]) H.hp) hi2 hk2 e3 V) O ?_;clear H;rintro ahH aga agj a w ⟨rfl,rfl⟩ Z6 H;refine aB ⟨O,?_⟩;exact iN Z (fun _ _ _ _ _ h=>h) O O HT Hb hG hv Z6 (rfl) H
      · intro av a w G1 _ ah hc hG HT hv;have H:=HT;clear ah;have H:=H.ak (hv 12 117 (hc 12 Y) O) O;have H:=H.ak (hv 20 125 (hc 20 Y) O) O;have H:=H.ak (hv 24 129 (hc 24 Y) O) O;have Hb:=H.full;have H:=Hb;clear hc;refine adL H wn O O O O ?_;clear H;intro a H;refine aB ⟨O,?_⟩;exact iN Z (fun _ _ _ _ _ h=>h) O O HT Hb hG hv (fun _ _ h=>h) (by rw [KD hi2 hk2];rfl) H
      · intro av a w G1 _ ah hc hG HT hv;have H:=HT;clear ah;have H:=H.ak (hv 3 108 (hc 3 Y) O) O;have H:=H.ak (hv 4 109 (hc 4 Y) O) O;exact xY
      clear H;intro a w G aag H hv;have H:=H.ak (hv 25 130 O O) O;have H:=H.ak (hv 26 131 O O) O;clear hv;refine nI aG 0 (c:=Bb.map vi) (vs:=[_]) ((Bb.set (i*(m+1)+k) (tot (aP S) S.length m i k)).map vi) H wn O O O O O O (Eq.mpr Nat.ble_eq (by rw [bG,yQ.1];simp only [List.length_singleton];omega)) (by rw [Nat.mul_one,List.map_set];rfl) ?_;clear H;intro w H;dsimp only [List.set] at H;refine aB ⟨O,?_⟩;refine K6 _ _ ?_;clear K6;refine kP H (SC (Rm O (Rs O (Ra O ?_))));clear H;intro a H;refine aB ?_;refine aX ((k,Bb.set (i*(m+1)+k) (tot (aP S) S.length m i k),G)) (by exact H.sub ⟨O,O,O,O,O,O,O,aH⟩) ?_
      (try dsimp only);exact ⟨V,ZM yQ hi2 hk2 (fun i' k' h=>by omega),fun b o h=>aag b o (fE b o h)⟩
    intro Ia a H
    try have acO:=dF Ia
    refine bQ ?_;refine K5 _ _ ?_;clear K5;refine kP H (SC (Rm O (Rs O (Ra O ?_))));clear H;intro a H;refine aB ?_;refine aX ((i,Bb,g2)) (by exact H.sub ⟨O,O,O,O,O,O,aH⟩) ?_
    (try dsimp only);exact ⟨V,yQ.weak (fun i' k' h1 h2 h=>by omega),fE⟩
  intro Ip a H
  try have p96:=dF Ip
  refine bQ ?_;refine K2 _ _ ?_;clear K2;refine fT (fun _ K2=>?_)
  have hj0:j=0:=by omega
  subst hj0;have hall:∀ i k,i<=S.length->k<=m->fl[i*(m+1)+k]?=some (tot (aP S) S.length m i k):=fun i k hi hk=>hfl.2 i k hi hk (.inl (dO _));have aaF:=Ai (aP S) S.length m (S.length+m) 0 0 V;refine kP H (SC (cO K2 O (SQ fun _ K5=>SR fun _ K6=>Ra O (au K6 O (SB ?_)))));clear H K2 K6;intro a H;skip;refine dz (ι:=Nat × Nat × List fD × aj × List aj × OL × GH) (Tc:=[(1,_),(8,_),(9,_),(11,_),(13,_)]) (Lc:=[(_,_)]) (fun gh=>[(16,gh.2.2.2.1),(17,vi gh.1),(18,vi gh.2.1)]) (fun gh=>[]++gh.2.2.2.2.2.1) (fun gh=>gh.2.2.2.2.2.2) (fun gh=>gh.1<=S.length∧gh.2.1<=m∧aZ 62 3 gh.2.2.2.1 gh.2.2.1.length gh.2.2.2.2.1 gh.2.2.2.2.2.1∧bU gh.2.2.2.2.2.2 3 (gh.2.2.1.map fD.dat) gh.2.2.2.2.1∧gh.2.2.1++jf (aP S) S.length m gh.1 gh.2.1=jf (aP S) S.length m 0 0∧(∀ b o,Gc b=some o->gh.2.2.2.2.2.2 b=some o)) (fun gh=>(S.length - gh.1)+(m - gh.2.1)) ((0,0,[],.slice none 0 0,[],[],g)) (by exact H.sub ⟨O,O,O,O,O,O,O,O,aH⟩) ?_ ?_
  · exact ⟨dO _,dO _,aZ.nil,bU.nil,O,hgm⟩
  clear H;rintro ⟨i,k,B,v,xs,Lo,g3⟩ a w hI H;dsimp only at hI H;obtain ⟨hi,hk,hrw,lU,heq,nC⟩:=hI
  have hBl:B.length<=1024:=by have:=ko List.length heq;rw [gW] at this;omega
  dsimp only [lca,bR] at H;refine kP H (SQ fun _ K2=>SR fun _ K6=>Rm O (Rm O (Rc O (Rm O (Sp 135 O ?_ ?_))))) <;> clear H
  · intro tK a H
    try have acS:=dT tK
    refine kH H (YM tK O (YM tK O (YC tK O (Pt tK O (Kz K6 (Cd O ?_ ?_)))))) <;> clear H K6
    · intro Ic a H
      try have acT:=dT Ic
      have hi2:i < S.length:=by omega
      have hk2:k < m:=by omega
      have Ef:=hT.mono nC;have t0:=Ef.tb
      have t1:aQ g3 pE (0+i*1)=some (.slice (some ⟨jU,i*(m+1),none⟩) (m+1) ((S.length+1)*(m+1) - i*(m+1))):=by rw [eP,Nat.mul_one];exact Ef.rows i V
      have hb3:=htb (i+1) (k+1);rw [jf,dif_pos ⟨hi2,hk2⟩] at heq;refine kP H (Kc K2 (SB (SR fun _ K6=>Rg nK O (by assumption) ?_)));clear H K2;intro a H;refine kH H (Rm O (Ri gI bI O O (Rg bI O (by assumption) ?_)));clear H;intro a H;refine kH H (Rm O (Ri bP aG O O ?_));clear H;intro a H;refine iF aG H wn O (H.hp.jh 0 O (by rw [Nat.mul_one];exact pI (hall i k V V))) O ?_;clear H;intro a H;refine K6 _ _ ?_;clear K6;refine kP H (SB (SR fun _ K2=>Rm O (Rm O (Rm O ?_))));clear H;intro a H;refine zG (Li:=[]) (L:=bF jU fl :: Lo) H wn O O (Vj Ef (Hp.owns (Li:=[]) H.hp) hi2 hk2 (hall (i+1) (k+1) V V) V) O ?_;clear H;rintro ahL Cy agk a w ⟨rfl,rfl⟩ Bn H;dsimp only [List.nil_append] at H;have yP:=Ef.mono Bn;have t0:=yP.tb
      have t2:aQ Cy pE (0+(i+1)*1)=some (.slice (some ⟨jU,(i+1)*(m+1),none⟩) (m+1) ((S.length+1)*(m+1) - (i+1)*(m+1))):=by rw [eP,Nat.mul_one];exact yP.rows (i+1) V
      obtain ⟨A4,c4,s1,s2⟩:=yP.sc;obtain ⟨sb,so,sA,sc,rfl,g1,g2⟩:=tX s2 hi2;obtain ⟨J7,Ke,rfl,g5⟩:=mO g2 (show k < S[i].length by rw [yP.wid _ (dK hi2)];exact hk2);rw [<- zF hi2 (by rw [yP.wid _ (dK hi2)];exact hk2)] at g5;have hwi:=yP.wid _ (dK hi2);refine kH H (Rc O (au K2 O (Cd O ?_ ?_))) <;> clear H K2
      · intro Ie a H
        try have JG:=dT Ie
        rw [aM (show tot (aP S) S.length m i k=qQ (aP S) S.length m i k from JG)] at heq;refine kP H (SR fun _ K2=>Rm O (Rm O (Rm O (Rg nK O (by assumption) ?_))));clear H;intro a H;refine kH H (Rm O (Ri gI bI O O (Rg bI O (by assumption) ?_)));clear H;intro a H;refine kH H (Rm O (Ri bP aG O O (Rg aG O (by assumption) ?_)));clear H;intro a H;refine jQ Ki [_,_,_] H wn O O O O ?_;clear H;intro a H;refine eU qP uj [_,_,_] [_,_,_] H wn O O O O O (by intro i q h;match i,h with|0,h=>exact h|n+1,h=>simp at h) O O ?_;clear H;intro agp a w agI H;refine dV (Li:=[_,_]) (Lo:=Lo) (news:=[vi i,vi k,vi (aP S i k)]) qP uj O O H wn O O hrw O (H.hp.dw 0 O O) O V V O ?_;clear H;intro v167 VI a w abv H;refine kH H (au K2 O (SC (Rm O (Rd O (Rm O (Rd O (Ra O (Ra O ?_))))))));clear H K2;intro a H;refine aB ?_;refine aX ((i+1,k+1,B++[⟨i,k,aP S i k⟩],v167,xs++[vi i,vi k,vi (aP S i k)],VI,Cy)) (by exact (H.dB (Pl:=[_,_]) (bS:=[_]) [1] Y O).sub ⟨O,O,O,O,O,O,O,O,aH⟩) ?_
        (try dsimp only);exact ⟨V,V,by rw [gW];exact abv,by rw [ku];exact (lU.mono Bn).snoc (SF _ ⟨i,k,aP S i k⟩) O,by simpa using heq,fun b o h=>Bn b o (nC b o h)⟩
      intro Ie a H
      try have JG:=dF Ie
      rw [aL (show ¬ tot (aP S) S.length m i k=qQ (aP S) S.length m i k from JG)] at heq;refine kP H (SR fun _ K2=>Rg nK O (by assumption) ?_);clear H;intro a H;refine kH H (Rm O (Rd O ?_));clear H;intro a H;refine bO gI bI (i+1) H wn O O V V O ?_;clear H;intro a H;refine kH H (Rg bI O (by assumption) ?_);clear H;intro a H;refine kH H (Rm O (Ri bP aG O O ?_));clear H;intro a H;refine iF aG H wn O (H.hp.jh 0 O (by rw [Nat.mul_one];exact pI (hall (i+1) k V V))) O ?_;clear H;intro a H;refine kH H (Rc O (au K2 O (Cd O ?_ ?_))) <;> clear H K2
      · intro Ig a H
        try have JH:=dT Ig
        rw [aM JH] at heq;refine kP H (SC (Rm O (Rd O (Ra O ?_))));clear H;intro a H;refine aB ?_;refine aX ((i+1,k,B,v,xs,Lo,Cy)) (by exact H.sub ⟨O,O,O,O,O,O,O,O,aH⟩) ?_
        (try dsimp only);exact MG
      intro Ig a H
      try have JH:=dF Ig
      rw [aL JH] at heq;refine kP H (SC (Rm O (Rd O (Ra O ?_))));clear H;intro a H;refine aB ?_;refine aX ((i,k+1,B,v,xs,Lo,Cy)) (by exact H.sub ⟨O,O,O,O,O,O,O,O,aH⟩) ?_
      (try dsimp only);exact MG
    intro Ic a H
    try have acT:=dF Ic
    refine bQ ?_;refine K5 _ _ ?_;clear K5;refine fT (fun _ K5=>?_);rw [jf,dif_neg V,kr] at heq;obtain ⟨Gr,hmr,hrep,H⟩:=St.kU (Li:=[_]) H hrw (rows:=B.map fD.dat) (by simp) lU;rw [heq] at hrep;refine kP H (SC (Rm O (Ra O (cO K5 O ?_))));clear H K5;exact Dc
  intro tK a H
  try have acS:=dF tK
  refine kH H (aU tK O (Pf tK O (Kz K6 (Cf O O ?_))));clear H K6;intro a H;refine bQ ?_;refine K5 _ _ ?_;clear K5;refine fT (fun _ K5=>?_);rw [jf,dif_neg V,kr] at heq;obtain ⟨Gr,hmr,hrep,H⟩:=St.kU (Li:=[_]) H hrw (rows:=B.map fD.dat) (by simp) lU;rw [heq] at hrep;refine kP H (SC (Rm O (Ra O (cO K5 O ?_))));clear H K5;intro a H;refine bN ?_;refine (bZ H results16 (.cons (aJ H O) (.cons (aJ H O) .nil)) ?_).1
  exact MF
abbrev vC:ByteArray:=⟨#[116,104,101,32,99,97,116]⟩
abbrev sA:ByteArray:=⟨#[97,32,99,97,116]⟩
theorem aeV:dW vC=true:=by kernel_rfl
theorem VY:dW sA=true:=by kernel_rfl
theorem aeU:jS vC=[⟨1,3⟩,⟨2,1⟩,⟨3,3⟩]:=by kernel_rfl
theorem VX:mg vC sA=[⟨4,1⟩,⟨2,1⟩,⟨3,3⟩]:=by kernel_rfl
theorem aeR:qZ (jS vC) (mg vC sA)=666:=by kernel_rfl
theorem aeS:jM [[500,900],[1000,600]]=[⟨0,0,500⟩,⟨1,1,600⟩]:=by kernel_rfl
theorem aeT:kS [[500,900],[1000,600]]=0:=by kernel_rfl
theorem UF:iC (fun _=>none) vC:=⟨Y,aeV,xK.ascii Y Y,Z⟩
theorem LV:iC (fun _=>none) sA:=⟨Y,VY,xK.ascii Y Y,Z⟩
theorem Qj:bD 14:=bH func14 O
theorem Qo:bD 32:=bH func32 O
theorem Pg {G0:GH} (G:GH) (w0:World) (hG:Hold G w0) (h0:∀ b o,G0 b=some o->G b=some o) (s t:ByteArray) (hs:iC G0 s) (ht:iC G0 t) :
  Calls prog 15 #[.string s,.string t] w0 (bK w0 G fun u G'=>u=.tuple #[vi (qZ (jS s) (mg s t)),vi 0]):=by
 refine eN [(0,_),(1,_)] func15 O ntmps15 O O hG ?_;intro a H;refine kP H (SR fun _ K1=>Ra O (au K1 O (SR fun _ K2=>Rm O (Rm O ?_))));clear H K1;intro a H;refine s_call Qj H wn O (Pj _ _ H.ro h0 s t hs ht hs.size ht.size) O ?_;clear H;rintro v12 Ls a w ⟨Vp,y12,rfl,zl,Jv⟩ I4 H;refine kH H (Rm O ?_);clear H;intro a H;(iterate 3 refine fG H wn O O O ?_;clear H;intro a H);refine kH H (Ra O (Ra O (au K2 O (SQ fun _ K1=>SR fun _ K3=>Rm O (Rc O (Kz K3 (Cd O ?_ ?_))))))) <;> clear H K2 K3
 ·intro dH a H
  exact absurd dH Y
 intro dH a H
 refine kP H (Kc K1 (SR fun _ K2=>Rm O (Rm O ?_)));clear H K1;intro a H;refine s_call Qo H wn O (LZ _ _ H.ro _ _ _ _ zl Jv (UU s) (afj s t) (Fj s) (KE s t)) O ?_;clear H;rintro v21 vK a w rfl oK H;(iterate 2 refine fG H wn O O O ?_;clear H;intro a H);refine kH H (Ra O (au K2 O ?_));clear H K2;intro a H;refine bN ?_;refine (bZ H results15 (.cons (aJ H O) (.cons (aJ H O) .nil)) ?_).1;exact H.rt O
end Go.Proofs.YtomebajfpcjoeaaDoor
