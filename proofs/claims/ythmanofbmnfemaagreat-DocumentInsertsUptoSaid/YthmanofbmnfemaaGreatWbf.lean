/-
  What the claim stands on, part 6: Mhd Mow Mro Mfl Sms13 Par It Div Cl Rc Nrm Pas L14 L14b L14c L14d L14e Sl Txt Sec K14 K14b Sml Mdk In13 Brs.
-/
import Derived.Test.YthmanofbmnfemaaGreatWbe
namespace Go.Proofs.YthmanofbmnfemaaGreat
open Go.Proofs.Tryz
section
open Go.RowKit
theorem KE:∀ args w,(callFunc 96 args).run prog w=.ok (.enter 96 args) w:=enters func96 rfl (by kernel_rfl)
theorem Rt:∀ args w,(callFunc 97 args).run prog w=.ok (.enter 97 args) w:=enters func97 rfl (by kernel_rfl)
variable {us:List Int} {uo:aj}
set_option maxHeartbeats 8000000 in
theorem akX (G:GH) (w0:World) (hG:Hold G w0) (D:jT) (st:List bL) (li:List dM) (rv:List dU) (b:Nat) (v:aj) (n:Int) (hck:Au us uo G D st li rv) (hmz:Eh st li rv) (hb:G b=some (iP uo D b v n).2)
  (e:Int) (h:jl) (p d l:aj) (hh:qC G h p d l) (hz:oV h≤4294967296) :
  Calls prog 43 #[(aQ b 0),vi e,EI h p d l] w0 (bY w0 G fun u G'=>u=vi (fK (aK us st li rv) e h)):=by
 obtain ⟨pA,pc,rfl,-,-,-⟩:=hh.props.slice;obtain ⟨dA,dc,rfl,-,-,-⟩:=hh.bV.slice;obtain ⟨lA,lc,rfl,-,-,-⟩:=hh.layers.slice;have hml:maxLen=9223372036854775807:=rfl;have hzz:=CK h;have hz1:=mP (h.props.map jL.dat);have hz2:=mP (h.marks.bV.map nG.dat);have hz3:=mP (h.marks.layers.map mH.dat)
 simp only [bQ] at hh hz1 hz2 hz3 ⊢
 generalize oV h=zz at hz hzz
 refine eN [(0,_),(1,_),(2,_)] func43 rfl ntmps43 rfl rfl hG ?_;intro a H;refine dh (fun _ K1=>?_);refine fB (cs:=[_,_,_,_,_]) H wn rfl rfl rfl ?_;clear H;intro b5 a w hb5 H;refine kH H (ak K1 rfl (SQ fun _ K2=>SQ fun _ K3=>?_));clear H K1;intro a H;obtain ⟨Ga,hma,wC,H⟩:=H.dW;replace hck:=hck.mono hma;replace hb:=hma _ _ hb;replace hh:=hh.mono hma
 have R6:aG Ga b5 0=some (.slice pA h.props.length pc):=by unfold aG;rw [wC];rfl
 have R8:∀ (j:Nat) (u:aj),[vi h.marks.ins,vi h.marks.move,.slice dA h.marks.bV.length dc,.slice lA h.marks.layers.length lc][j]?=some u→aG Ga b5 (1+j)=some u:=by
  intro j u hj
  unfold aG;rw [wC]
  match j,hj with
  | 0,hj=>exact hj
  | 1,hj=>exact hj
  | 2,hj=>exact hj
  | 3,hj=>exact hj
  | n+4,hj=>simp at hj
 refine kP H (SC (Rm rfl (Rf BX rfl (Rg zx rfl R6 ?_))));clear H;intro a H;refine s_call Rq H wn rfl (Ep (Vz _ _ H.ro e h.props _ hh.props)) rfl ?_;clear H;rintro v19 _ a w ⟨⟨_,rfl⟩,rfl⟩ - H;refine kH H (aM K3 rfl (SR fun _ K4=>Rm rfl (Rc rfl (Kz K4 (Cd rfl ?_ ?_))))) <;> clear H K3 K4
 ·intro h21 a H
  try have nX:=dT h21
  refine aN (fun _ K5=>?_);have hE:=ZF (C:=aK us st li rv) (e:=e) (h:=h) nX;exact kP H (SC (Rm rfl (aM K5 rfl (LR results43 rfl fun H=>H.rt (by rw [hE])))))
 intro h21 a H
 try have nX:=dF h21
 have e1:iO e h.props=0:=by simpa using nX
 refine kP H (Kc K2 (SQ fun _ K6=>SR fun _ K7=>ak K7 rfl (SB ?_)));clear H K2 K7;intro a H;skip;refine eT (ι:=Nat × GH) (Tc:=[(0,_),(1,_),(5,_)]) (Lc:=[]) (fun gh=>[(8,vi gh.1)]) (fun gh=>[]) (fun gh=>gh.2) (fun gh=>gh.1≤h.props.length∧bK ((h.props.map fun p=>kK st (li.map dM.id) p.key p.value).drop gh.1)=xR (aK us st li rv) h.props∧∀ b o,Ga b=some o→gh.2 b=some o) (fun gh=>h.props.length - gh.1) ((0,Ga)) (by exact (H).sub ⟨rfl,rfl,rfl,rfl,aB⟩) ?_ ?_
 ·exact ⟨gX _,rfl,fun _ _ h=>h⟩
 clear H;rintro ⟨k,g⟩ a w hI H;dsimp only at hI H;obtain ⟨hk,heq,hgm⟩:=hI;have R7:=aH hgm R6;have hh':=hh.mono hgm;dsimp only [lca,aO] at H;refine kP H (SQ fun _ K8=>SR fun _ K9=>Rm rfl (Rf BX rfl (Rg zx rfl R7 (Rl sQ rfl (Rc rfl (Kz K9 (Cd rfl ?_ ?_))))))) <;> clear H K9
 ·intro h27 a H
  try have p27:=dT h27
  have hk2:k < h.props.length:=by omega
  obtain ⟨xb,xo,rfl,hrow⟩:=Mi hh'.props hk2;have r0:=hrow 0 _ rfl;have r1:=hrow 1 _ rfl;refine kP H (Kc K8 (SQ fun _ aV=>SB (SQ fun _ bF=>?_)));clear H K8;intro a H;refine dI hmx [[],[],[1],[],[1,2,3],(ra 1 4),(ra 1 5),[],[7],[],[7,8,9],(ra 7 4),(ra 7 5),(ra 0 13),(ra 0 14)] [14] (by kernel_rfl) [_,_,_,_,_,_,_,_,_,_,_,_,_,vi (kK st (li.map dM.id) h.props[k].key h.props[k].value)] H (aI (Z0 rfl (Rm rfl)) (Z0 rfl (Rf BX rfl)) (X1 1 31 rfl fun hG=>Rg zx rfl (aH hG R7)) (Z0 rfl (Rm rfl)) (aI (Z2 2 32 3 33 rfl (Ri sQ sP rfl rfl)) (Z1 4 34 rfl (Rf xB rfl)) (X1 5 35 rfl fun hG=>Rg aD rfl (aH hG r0)) (Z0 rfl (Rf BX rfl)) (aI (X1 7 37 rfl fun hG=>Rg zx rfl (aH hG R7)) (Z0 rfl (Rm rfl)) (Z2 8 38 9 39 rfl (Ri sQ sP rfl rfl)) (Z1 10 40 rfl (Rf RD rfl)) (bC (X1 11 41 rfl fun hG=>Rg aD rfl (aH hG r1)) (bC ?_ (bC (cu rfl) dN)))))) ?_
  ·refine vK 0 30 6 36 12 42 rfl rfl fun _ a w G1 hG HT H fin=>?_;refine s_call KE H wn rfl (LZ _ _ H.ro D st li rv b v n ((hck.mono hgm).mono hG) hmz (hG _ _ (hgm _ _ hb)) h.props[k].key h.props[k].value) rfl ?_;clear H;rintro v43 Ap a w ⟨rfl,-⟩ ahO H;exact fin H ahO (rfl)
  clear H;intro a w G SN H hv;have H:=H.bg (hv 13 43 rfl rfl) rfl;clear hv;refine kH H (Ra rfl ?_);clear H;intro a H;refine aJ ⟨rfl,?_⟩;refine bF _ _ ?_;clear bF;refine kP H (SR fun _ bG=>Rm rfl (Rc rfl (Kz bG (Cd rfl ?_ ?_)))) <;> clear H bG
  ·intro h45 a H
   try have p45:=dT h45
   refine aN (fun _ bM=>?_)
   have hr:xR (aK us st li rv) h.props=kK st (li.map dM.id) h.props[k].key h.props[k].value:=by rw [← heq];exact (Pn (C:=aK us st li rv) hk2).trans (au p45)
   have hE:=(ZG (C:=aK us st li rv) (e:=e) (h:=h) e1 (by rw [hr];exact p45)).trans hr;exact kP H (SC (Rm rfl (aM bM rfl (LR results43 rfl fun H=>H.rt (by rw [hE])))))
  intro h45 a H
  try have p45:=dF h45
  refine kP H (Kc aV (SC (Rm rfl (Rd rfl (Ra rfl ?_)))));clear H aV;intro a H;refine aJ ?_;refine dH ((k+1,G)) (by exact (H).sub ⟨rfl,rfl,rfl,rfl,aB⟩) ?_ ?_
  ·(try dsimp only);exact ⟨by omega,by rw [Pn (C:=aK us st li rv) hk2,ah (by simpa using p45)] at heq;exact heq,fun b o h=>SN b o (hgm b o h)⟩
  first|omega|(dsimp only;omega)
 intro h27 a H
 try have p27:=dF h27
 refine dR ?_;refine K6 _ _ ?_;clear K6;refine aN (fun _ bN=>?_)
 have e2:xR (aK us st li rv) h.props=0:=by rw [← heq,fI (by rw [bQ];omega)];rfl
 refine kP H (SC (Rf zP rfl ?_));clear H;intro a H;refine bP Ai (cs:=[vi h.marks.ins,vi h.marks.move,.slice dA h.marks.bV.length dc,.slice lA h.marks.layers.length lc]) H wn rfl rfl (fun j v hj=>H.hp.aG (aH hgm (R8 j v hj))) rfl ?_;clear H;intro a H;refine eH Ai H wn rfl ?_;clear H;intro b10 a w I9 H;refine bT Ai 0 (vs:=[_,_,_,_]) _ H wn rfl rfl rfl rfl rfl rfl rfl rfl ?_;clear H;intro w H;dsimp only [List.set,setRow] at H;obtain ⟨Gb,hmb,Oc,H⟩:=H.dW;have hgb:∀ b o,Ga b=some o→Gb b=some o:=fun b o h=>hmb b o (hgm b o h);replace hck:=hck.mono hgb;replace hb:=hgb _ _ hb;replace hh:=hh.mono hgb
 have q0:aG Gb b10 0=some (vi h.marks.ins):=by unfold aG;rw [Oc];rfl
 have q1:aG Gb b10 1=some (vi h.marks.move):=by unfold aG;rw [Oc];rfl
 have q2:aG Gb b10 2=some (.slice dA h.marks.bV.length dc):=by unfold aG;rw [Oc];rfl
 have q3:aG Gb b10 3=some (.slice lA h.marks.layers.length lc):=by unfold aG;rw [Oc];rfl
 refine aJ ?_;refine bN _ _ ?_;clear bN;refine oF (ι:=Unit) (Tc:=[(0,_),(1,_),(10,_)]) (Lc:=[]) (fun gh=>[]) (fun gh=>[]) (fun gh=>Gb) (fun gh=>fU (aK us st li rv) h.marks=0) (by exact (H).sub ⟨rfl,rfl,rfl,aB⟩) ?_ ?_
 ·skip;refine kP H (SB (SR fun _ bW=>Rf vW rfl (Rg aD rfl q0 (Rc rfl (Rm rfl (Sp 53 rfl ?_ ?_)))))) <;> clear H
  ·intro gL a H
   try have p53:=dT gL
   refine kH H (YM gL rfl (YF vW gL rfl (YR aD gL rfl q0 ?_)));clear H;intro a H;refine s_call Rt H (wg H rfl rfl gL) rfl (U4 _ _ H.ro D st li rv b v n hck hmz hb h.marks.ins) rfl ?_;clear H;rintro v57 _ a w ⟨rfl,rfl⟩ - H;refine kH H (YN gL rfl (Pt gL rfl (ak bW rfl (Cd rfl ?_ ?_)))) <;> clear H bW
   ·intro pG a H
    try have p49:=dT pG
    refine aN (fun _ cK=>?_);have e3:fU (aK us st li rv) h.marks=22:=au (by first|(simp_all;done)|exact ⟨p52,by simpa using pG⟩);have hE:=(qJ (C:=aK us st li rv) (e:=e) (h:=h) e1 e2 (by rw [e3];decide)).trans e3;exact kP H (SC (aM cK rfl (LR results43 rfl fun H=>H.rt (by rw [hE]))))
   intro pG a H
   try have p49:=dF pG
   refine aN (fun _ bS=>?_)
   have hno:¬ (h.marks.ins≠0∧h.marks.ins∉(aK us st li rv).Cy):=by first|(simp_all;done)|exact fun h=>p52 h.1
   refine kP H (SC (Rf yM rfl (Rg aD rfl q1 (Rc rfl (Rm rfl (Sp 64 rfl ?_ ?_)))))) <;> clear H
   ·intro h64 a H
    try have p64:=dT h64
    refine kH H (aZ h64 rfl (Pt h64 rfl (Rm rfl (aS rfl rfl (aS rfl rfl (Ku rfl (Ku rfl (Ku rfl (Ks rfl rfl (Pt rfl rfl (aM bS rfl (Ct rfl rfl (SQ fun _ dD=>?_)))))))))))));clear H bS;intro a H
    have e3:fU (aK us st li rv) h.marks=21:=by unfold fU;rw [ah hno,au (by first|(simp_all;done)|(simp_all;omega)|omega)]
    have hE:=(qJ (C:=aK us st li rv) (e:=e) (h:=h) e1 e2 (by rw [e3];decide)).trans e3;exact kP H (SC (aM dD rfl (LR results43 rfl fun H=>H.rt (by rw [hE]))))
   intro h64 a H
   try have p64:=dF h64
   refine kH H (YF yM h64 rfl (YR aD h64 rfl q1 (YC h64 rfl (Pf h64 rfl (Rm rfl (Sp 69 rfl ?_ ?_)))))) <;> clear H
   ·intro gU a H
    try have p69:=dT gU
    refine kH H (aS gU rfl (aS gU rfl (Ku rfl (Ku rfl (Ku rfl (Ks gU rfl (Pt gU rfl (aM bS rfl (Ct rfl rfl (SQ fun _ dO=>?_))))))))));clear H bS;intro a H
    have e3:fU (aK us st li rv) h.marks=21:=by unfold fU;rw [ah hno,au (by first|(simp_all;done)|(simp_all;omega)|omega)]
    have hE:=(qJ (C:=aK us st li rv) (e:=e) (h:=h) e1 e2 (by rw [e3];decide)).trans e3;exact kP H (SC (aM dO rfl (LR results43 rfl fun H=>H.rt (by rw [hE]))))
   intro gU a H
   try have p69:=dF gU
   refine kH H (YF yM gU rfl (YR aD gU rfl q1 (YC gU rfl (YM gU rfl (Sp 73 rfl ?_ ?_))))) <;> clear H
   ·intro iR a H
    try have p73:=dT iR
    refine kH H (YF vW iR rfl (YR aD iR rfl q0 (YC iR rfl (PT gU iR rfl (Pf gU rfl (aM bS rfl (Cd rfl ?_ ?_))))))) <;> clear H bS
    ·intro eY a H
     try have p60:=dT eY
     refine aN (fun _ dK=>?_)
     have e3:fU (aK us st li rv) h.marks=21:=by unfold fU;rw [ah hno,au (by first|(simp_all;done)|(simp_all;omega)|omega)]
     have hE:=(qJ (C:=aK us st li rv) (e:=e) (h:=h) e1 e2 (by rw [e3];decide)).trans e3;exact kP H (SC (aM dK rfl (LR results43 rfl fun H=>H.rt (by rw [hE]))))
    intro eY a H
    try have p60:=dF eY
    refine aN (fun _ dS=>?_)
    have hn2:¬ (¬ (0≤h.marks.move∧h.marks.move≤1073741824)∨(h.marks.move≠0∧h.marks.ins=0)):=by first|(simp_all;done)|(simp_all;omega)|omega
    refine kP H (SC (Rf mY rfl (Rg nC rfl q2 (Rl mQ rfl (Rc rfl (aM dS rfl (Cd rfl ?_ ?_))))))) <;> clear H dS
    ·intro iH a H
     refine aN (fun _ eP=>?_)
     have e3:fU (aK us st li rv) h.marks=9:=by unfold fU;rw [ah hno,ah hn2,au (by simpa using iH)]
     have hE:=(qJ (C:=aK us st li rv) (e:=e) (h:=h) e1 e2 (by rw [e3];decide)).trans e3;exact kP H (SC (aM eP rfl (LR results43 rfl fun H=>H.rt (by rw [hE]))))
    intro iH a H
    have e3:fU (aK us st li rv) h.marks=0:=by unfold fU;rw [ah hno,ah hn2,ah (by simpa using iH)]
    refine fF ?_;refine ⟨(),by exact (H).sub ⟨rfl,rfl,rfl,aB⟩,?_⟩;exact e3
   intro iR a H
   try have p73:=dF iR
   refine kH H (aZ iR rfl (PF gU iR rfl (Pf gU rfl (aM bS rfl (Cf rfl rfl (SQ fun _ gG=>?_))))));clear H bS;intro a H
   have hn2:¬ (¬ (0≤h.marks.move∧h.marks.move≤1073741824)∨(h.marks.move≠0∧h.marks.ins=0)):=by first|(simp_all;done)|(simp_all;omega)|omega
   refine kP H (SC (Rf mY rfl (Rg nC rfl q2 (Rl mQ rfl (Rc rfl (aM gG rfl (Cd rfl ?_ ?_))))))) <;> clear H gG
   ·intro iH a H
    refine aN (fun _ gT=>?_)
    have e3:fU (aK us st li rv) h.marks=9:=by unfold fU;rw [ah hno,ah hn2,au (by simpa using iH)]
    have hE:=(qJ (C:=aK us st li rv) (e:=e) (h:=h) e1 e2 (by rw [e3];decide)).trans e3;exact kP H (SC (aM gT rfl (LR results43 rfl fun H=>H.rt (by rw [hE]))))
   intro iH a H
   have e3:fU (aK us st li rv) h.marks=0:=by unfold fU;rw [ah hno,ah hn2,ah (by simpa using iH)]
   refine fF ?_;refine ⟨(),by exact (H).sub ⟨rfl,rfl,rfl,aB⟩,?_⟩;exact e3
  intro gL a H
  try have p53:=dF gL
  refine kH H (aZ gL rfl (aS gL rfl (Pf gL rfl (ak bW rfl (Cf rfl rfl (SQ fun _ gM=>?_))))));clear H bW;intro a H
  have hno:¬ (h.marks.ins≠0∧h.marks.ins∉(aK us st li rv).Cy):=by first|(simp_all;done)|exact fun h=>p52 h.1
  refine kP H (SC (Rf yM rfl (Rg aD rfl q1 (Rc rfl (Rm rfl (Sp 64 rfl ?_ ?_)))))) <;> clear H
  ·intro h64 a H
   try have p64:=dT h64
   refine kH H (aZ h64 rfl (Pt h64 rfl (Rm rfl (aS rfl rfl (aS rfl rfl (Ku rfl (Ku rfl (Ku rfl (Ks rfl rfl (Pt rfl rfl (aM gM rfl (Ct rfl rfl (SQ fun _ jf=>?_)))))))))))));clear H gM;intro a H
   have e3:fU (aK us st li rv) h.marks=21:=by unfold fU;rw [ah hno,au (by first|(simp_all;done)|(simp_all;omega)|omega)]
   have hE:=(qJ (C:=aK us st li rv) (e:=e) (h:=h) e1 e2 (by rw [e3];decide)).trans e3;exact kP H (SC (aM jf rfl (LR results43 rfl fun H=>H.rt (by rw [hE]))))
  intro h64 a H
  try have p64:=dF h64
  refine kH H (YF yM h64 rfl (YR aD h64 rfl q1 (YC h64 rfl (Pf h64 rfl (Rm rfl (Sp 69 rfl ?_ ?_)))))) <;> clear H
  ·intro gU a H
   try have p69:=dT gU
   refine kH H (aS gU rfl (aS gU rfl (Ku rfl (Ku rfl (Ku rfl (Ks gU rfl (Pt gU rfl (aM gM rfl (Ct rfl rfl (SQ fun _ jq=>?_))))))))));clear H gM;intro a H
   have e3:fU (aK us st li rv) h.marks=21:=by unfold fU;rw [ah hno,au (by first|(simp_all;done)|(simp_all;omega)|omega)]
   have hE:=(qJ (C:=aK us st li rv) (e:=e) (h:=h) e1 e2 (by rw [e3];decide)).trans e3;exact kP H (SC (aM jq rfl (LR results43 rfl fun H=>H.rt (by rw [hE]))))
  intro gU a H
  try have p69:=dF gU
  refine kH H (YF yM gU rfl (YR aD gU rfl q1 (YC gU rfl (YM gU rfl (Sp 73 rfl ?_ ?_))))) <;> clear H
  ·intro iR a H
   try have p73:=dT iR
   refine kH H (YF vW iR rfl (YR aD iR rfl q0 (YC iR rfl (PT gU iR rfl (Pf gU rfl (aM gM rfl (Cd rfl ?_ ?_))))))) <;> clear H gM
   ·intro eY a H
    try have p60:=dT eY
    refine aN (fun _ iQ=>?_)
    have e3:fU (aK us st li rv) h.marks=21:=by unfold fU;rw [ah hno,au (by first|(simp_all;done)|(simp_all;omega)|omega)]
    have hE:=(qJ (C:=aK us st li rv) (e:=e) (h:=h) e1 e2 (by rw [e3];decide)).trans e3;exact kP H (SC (aM iQ rfl (LR results43 rfl fun H=>H.rt (by rw [hE]))))
   intro eY a H
   try have p60:=dF eY
   refine aN (fun _ kT=>?_)
   have hn2:¬ (¬ (0≤h.marks.move∧h.marks.move≤1073741824)∨(h.marks.move≠0∧h.marks.ins=0)):=by first|(simp_all;done)|(simp_all;omega)|omega
   refine kP H (SC (Rf mY rfl (Rg nC rfl q2 (Rl mQ rfl (Rc rfl (aM kT rfl (Cd rfl ?_ ?_))))))) <;> clear H kT
   ·intro iH a H
    refine aN (fun _ kU=>?_)
    have e3:fU (aK us st li rv) h.marks=9:=by unfold fU;rw [ah hno,ah hn2,au (by simpa using iH)]
    have hE:=(qJ (C:=aK us st li rv) (e:=e) (h:=h) e1 e2 (by rw [e3];decide)).trans e3;exact kP H (SC (aM kU rfl (LR results43 rfl fun H=>H.rt (by rw [hE]))))
   intro iH a H
   have e3:fU (aK us st li rv) h.marks=0:=by unfold fU;rw [ah hno,ah hn2,ah (by simpa using iH)]
   refine fF ?_;refine ⟨(),by exact (H).sub ⟨rfl,rfl,rfl,aB⟩,?_⟩;exact e3
  intro iR a H
  try have p73:=dF iR
  refine kH H (aZ iR rfl (PF gU iR rfl (Pf gU rfl (aM gM rfl (Cf rfl rfl (SQ fun _ jG=>?_))))));clear H gM;intro a H
  have hn2:¬ (¬ (0≤h.marks.move∧h.marks.move≤1073741824)∨(h.marks.move≠0∧h.marks.ins=0)):=by first|(simp_all;done)|(simp_all;omega)|omega
  refine kP H (SC (Rf mY rfl (Rg nC rfl q2 (Rl mQ rfl (Rc rfl (aM jG rfl (Cd rfl ?_ ?_))))))) <;> clear H jG
  ·intro iH a H
   refine aN (fun _ kZ=>?_)
   have e3:fU (aK us st li rv) h.marks=9:=by unfold fU;rw [ah hno,ah hn2,au (by simpa using iH)]
   have hE:=(qJ (C:=aK us st li rv) (e:=e) (h:=h) e1 e2 (by rw [e3];decide)).trans e3;exact kP H (SC (aM kZ rfl (LR results43 rfl fun H=>H.rt (by rw [hE]))))
  intro iH a H
  have e3:fU (aK us st li rv) h.marks=0:=by unfold fU;rw [ah hno,ah hn2,ah (by simpa using iH)]
  refine fF ?_;refine ⟨(),by exact (H).sub ⟨rfl,rfl,rfl,aB⟩,?_⟩;exact e3
 clear H;intro un a w hI H;have e3:=hI;dsimp only [lca,aO] at H;refine kP H (SQ fun _ lg=>SR fun _ lK=>ak lK rfl (SB ?_));clear H lK;intro a H;skip;refine eT (ι:=Nat × GH) (Tc:=[(0,_),(1,_),(10,_)]) (Lc:=[]) (fun gh=>[(11,vi gh.1)]) (fun gh=>[]) (fun gh=>gh.2) (fun gh=>gh.1≤h.marks.bV.length∧bK (((List.range h.marks.bV.length).map (tJ (aK us st li rv) h.marks.bV)).drop gh.1)=iC (tJ (aK us st li rv) h.marks.bV) h.marks.bV.length∧(∀ b o,Gb b=some o→gh.2 b=some o)) (fun gh=>h.marks.bV.length - gh.1) ((0,Gb)) (by exact (H).sub ⟨rfl,rfl,rfl,rfl,aB⟩) ?_ ?_
 ·exact ⟨gX _,rfl,fun _ _ h=>h⟩
 clear H;rintro ⟨k,g2⟩ a w hI H;dsimp only at hI H;obtain ⟨hk,heq,hgm⟩:=hI;have q2':=aH hgm q2;dsimp only [lca,aO] at H;refine kP H (SQ fun _ lM=>SR fun _ lN=>Rm rfl (Rf mY rfl (Rg nC rfl q2' (Rl mQ rfl (Rc rfl (Kz lN (Cd rfl ?_ ?_))))))) <;> clear H lN
 ·intro uR a H
  try have Mf:=dT uR
  have hk2:k < h.marks.bV.length:=by omega
  have hd2:=hh.bV.mono hgm;obtain ⟨xb,xo,rfl,hrow⟩:=Nq hd2 hk2
  have hk1:k - 1 < h.marks.bV.length:=by omega
  obtain ⟨b',o',he',hrow'⟩:=Nq hd2 hk1
  injection he' with he'
  injection he' with KC e2'
  subst KC;subst e2'
  have hde:tJ (aK us st li rv) h.marks.bV k=oI (aK us st li rv) k h.marks.bV[k] h.marks.bV[k - 1].rev:=by unfold tJ;rw [fP hk2,fP hk1];rfl
  have hX:∀ v,oI (aK us st li rv) k h.marks.bV[k] h.marks.bV[k - 1].rev=v→v≠0→fK (aK us st li rv) e h=v:=fun v h1 h2=>by
   have h4:iC (tJ (aK us st li rv) h.marks.bV) h.marks.bV.length=v:=by rw [← heq,qd hk2,hde,h1,au h2]
   exact (ZH e1 e2 e3 (by rw [h4];exact h2)).trans h4
  have hp:=hrow' 0 _ rfl;have r0:=hrow 0 _ rfl;have r1:=hrow 1 _ rfl;refine fF ?_;refine lM _ _ ?_;clear lM;refine aN (fun _ lY=>?_);(iterate 2 refine sD ?_);refine kP H (SR fun _ qD=>Rm rfl (Rf mY rfl (Rg nC rfl q2' (Rm rfl (Ri mQ wO rfl rfl (Rf BS rfl (Rg aD rfl r0 ?_)))))));clear H;intro a H;refine s_call Rt H wn rfl (U4 _ _ H.ro D st li rv b v n (hck.mono hgm) hmz (hgm _ _ hb) h.marks.bV[k].rev) rfl ?_;clear H;rintro v99 _ a w ⟨rfl,rfl⟩ - H;refine kH H (Rn rfl (ak qD rfl (Cd rfl ?_ ?_))) <;> clear H qD
  ·intro zQ a H
   refine aN (fun _ vH=>?_);have hE:=hX 22 (by unfold oI;rw [au (by simpa using zQ)]) (by decide);exact kP H (SC (aM vH rfl (LR results43 rfl fun H=>H.rt (by rw [hE]))))
  intro zQ a H
  try have zl:=dF zQ
  have GR:¬ (h.marks.bV[k].rev∉(aK us st li rv).Cy):=by simpa using zQ
  refine aN (fun _ kV=>?_)
  by_cases c3:0 < (k:Int)
  ·skip
   by_cases c4:h.marks.bV[k].rev≤h.marks.bV[k - 1].rev
   ·skip;refine dI hmx [[],[0],[0,1],[0,1,2],(ra 0 4),[0,1,2],(ra 0 6),(ra 0 7),(ra 0 8),[0,1,2],[0,1,2,9],[0,1,2],[0,1,2,11],([0,1,2]++ra 9 4),([0,1,2]++ra 9 5),([0,1,2]++ra 9 6),(ra 0 16),(ra 0 17),(ra 0 18)] [18] (by kernel_rfl) [_,_,_,_,_,_,_,_,_,_,_,_,vi ((k - 1:Nat):Int),_,_,_,_,_] H (aI (Z0 rfl (Rm rfl)) (Z1 0 102 rfl (Rc rfl)) (Z1 1 103 rfl (Rm rfl)) (Z1 2 104 rfl (YF mY (aF c3) rfl)) (aI (X2 3 105 2 104 rfl fun hG=>YR nC (aF c3) rfl (aH hG q2')) (Z1 2 104 rfl (YM (aF c3) rfl)) (Z3 4 106 5 107 2 104 rfl (YI mQ wO (aF c3) rfl rfl)) (Z2 6 108 2 104 rfl (YF BS (aF c3) rfl)) (aI (X2 7 109 2 104 rfl fun hG=>YR aD (aF c3) rfl (aH hG r0)) (Z1 2 104 rfl (YF mY (aF c3) rfl)) (X2 9 111 2 104 rfl fun hG=>YR nC (aF c3) rfl (aH hG q2')) (Z1 2 104 rfl (YM (aF c3) rfl)) (aI ?_ (Z3 10 112 12 114 2 104 rfl (YI mQ wO (aF c3) rfl rfl)) (Z2 13 115 2 104 rfl (YF BS (aF c3) rfl)) (X2 14 116 2 104 rfl fun hG=>YR aD (aF c3) rfl (aH hG hp)) (bC (Z3 8 110 15 117 2 104 rfl (YC (aF c3) rfl)) (bC (Z2 2 104 16 118 rfl (Pt (aF c3) rfl)) (bC (cu rfl) dN))))))) ?_
    ·refine eU 11 113 2 104 rfl rfl fun _ a w G1 hG HT H fin=>?_;refine mD _ H (wg H rfl rfl (aF c3)) rfl rfl rfl (by omega) (by omega) rfl ?_;clear H;intro a H;exact fin H iJ (by show _=_;first|rfl|exact av vi (by omega))
    clear H;intro a w G xE H hv;have H:=H.bg (hv 17 119 rfl rfl) rfl;clear hv;refine kH H (Ra rfl ?_);clear H;intro a H;refine aJ ⟨rfl,?_⟩;refine kV _ _ ?_;clear kV;refine Ay H rfl (aF c4) ?_;refine aN (fun _ yC=>?_);have hz:0 < k∧h.marks.bV[k].rev≤h.marks.bV[k - 1].rev:=⟨by omega,c4⟩;have hE:=hX 6 (by unfold oI;rw [ah GR,au hz]) (by decide);exact kP H (SC (aM yC rfl (LR results43 rfl fun H=>H.rt (by rw [hE]))))
   skip;refine dI hmx [[],[0],[0,1],[0,1,2],(ra 0 4),[0,1,2],(ra 0 6),(ra 0 7),(ra 0 8),[0,1,2],[0,1,2,9],[0,1,2],[0,1,2,11],([0,1,2]++ra 9 4),([0,1,2]++ra 9 5),([0,1,2]++ra 9 6),(ra 0 16),(ra 0 17),(ra 0 18)] [18] (by kernel_rfl) [_,_,_,_,_,_,_,_,_,_,_,_,vi ((k - 1:Nat):Int),_,_,_,_,_] H (aI (Z0 rfl (Rm rfl)) (Z1 0 102 rfl (Rc rfl)) (Z1 1 103 rfl (Rm rfl)) (Z1 2 104 rfl (YF mY (aF c3) rfl)) (aI (X2 3 105 2 104 rfl fun hG=>YR nC (aF c3) rfl (aH hG q2')) (Z1 2 104 rfl (YM (aF c3) rfl)) (Z3 4 106 5 107 2 104 rfl (YI mQ wO (aF c3) rfl rfl)) (Z2 6 108 2 104 rfl (YF BS (aF c3) rfl)) (aI (X2 7 109 2 104 rfl fun hG=>YR aD (aF c3) rfl (aH hG r0)) (Z1 2 104 rfl (YF mY (aF c3) rfl)) (X2 9 111 2 104 rfl fun hG=>YR nC (aF c3) rfl (aH hG q2')) (Z1 2 104 rfl (YM (aF c3) rfl)) (aI ?_ (Z3 10 112 12 114 2 104 rfl (YI mQ wO (aF c3) rfl rfl)) (Z2 13 115 2 104 rfl (YF BS (aF c3) rfl)) (X2 14 116 2 104 rfl fun hG=>YR aD (aF c3) rfl (aH hG hp)) (bC (Z3 8 110 15 117 2 104 rfl (YC (aF c3) rfl)) (bC (Z2 2 104 16 118 rfl (Pt (aF c3) rfl)) (bC (cu rfl) dN))))))) ?_
   ·refine eU 11 113 2 104 rfl rfl fun _ a w G1 hG HT H fin=>?_;refine mD _ H (wg H rfl rfl (aF c3)) rfl rfl rfl (by omega) (by omega) rfl ?_;clear H;intro a H;exact fin H iJ (by show _=_;first|rfl|exact av vi (by omega))
   clear H;intro a w G xE H hv;have H:=H.bg (hv 17 119 rfl rfl) rfl;clear hv;refine kH H (Ra rfl ?_);clear H;intro a H;refine aJ ⟨rfl,?_⟩;refine kV _ _ ?_;clear kV;refine oh H rfl (aP c4) ?_;refine aN (fun _ vI=>?_)
   have hz:¬ (0 < k∧h.marks.bV[k].rev≤h.marks.bV[k - 1].rev):=by first|exact fun h=>c4 h.2|exact fun h=>c3 (by omega)
   replace q2':=aH xE q2';replace r1:=aH xE r1;refine kP H (SC (Rf mY rfl (Rg nC rfl q2' (Rm rfl (Ri mQ wO rfl rfl (Rf IU rfl (Rg aD rfl r1 (Rc rfl (Rm rfl (Sp 128 rfl ?_ ?_)))))))))) <;> clear H
   ·intro h128 a H
    try have DJ:=dT h128
    refine kH H (aZ h128 rfl (aS h128 rfl (aS h128 rfl (Pt h128 rfl (aM vI rfl (Ct rfl rfl (SQ fun _ D7=>?_)))))));clear H vI;intro a H;have hE:=hX 21 (by unfold oI;rw [ah GR,ah hz,au (by first|omega|(simp_all;omega))]) (by decide);exact kP H (SC (aM D7 rfl (LR results43 rfl fun H=>H.rt (by rw [hE]))))
   intro h128 a H
   try have DJ:=dF h128
   refine kH H (YF mY h128 rfl (YR nC h128 rfl q2' (YM h128 rfl (YI mQ wO h128 rfl rfl (YF IU h128 rfl (YR aD h128 rfl r1 (YC h128 rfl (Pf h128 rfl (aM vI rfl (Cd rfl ?_ ?_)))))))))) <;> clear H vI
   ·intro mM a H
    try have EU:=dT mM
    refine aN (fun _ BG=>?_);have hE:=hX 21 (by unfold oI;rw [ah GR,ah hz,au (by first|omega|(simp_all;omega))]) (by decide);exact kP H (SC (aM BG rfl (LR results43 rfl fun H=>H.rt (by rw [hE]))))
   intro mM a H
   try have EU:=dF mM
   have GI:oI (aK us st li rv) k h.marks.bV[k] h.marks.bV[k - 1].rev=0:=by unfold oI;rw [ah GR,ah hz,ah (by first|omega|(simp_all;omega))]
   refine kP H (Kc lY (SC (Rm rfl (Rd rfl (Ra rfl ?_)))));clear H lY;intro a H;refine aJ ?_;refine dH ((k+1,G)) (by exact (H).sub ⟨rfl,rfl,rfl,rfl,aB⟩) ?_ ?_
   ·(try dsimp only);exact ⟨by omega,by rw [qd hk2,ah (by rw [hde];simpa using GI)] at heq;exact heq,fun b o h=>xE b o (hgm b o h)⟩
   first|omega|(dsimp only;omega)
  skip;refine dI hmx [[],[0],[0,1],[0,1,2],(ra 0 4),[0,1,2],(ra 0 6),(ra 0 7),(ra 0 8),[0,1,2],[0,1,2,9],[0,1,2],[0,1,2,11],([0,1,2]++ra 9 4),([0,1,2]++ra 9 5),([0,1,2]++ra 9 6),(ra 0 16),(ra 0 17),(ra 0 18)] [18] (by kernel_rfl) [_,_,_,undef,undef,undef,undef,undef,undef,undef,undef,undef,undef,undef,undef,undef,undef,_] H (aI (Z0 rfl (Rm rfl)) (Z1 0 102 rfl (Rc rfl)) (Z1 1 103 rfl (Rm rfl)) (aW (j:=2) (by kernel_rfl) (fun _ _ _ _ _ h=>h) rfl rfl rfl rfl rfl (fun _ _ h=>aY h (aL (aP c3))) rfl (fun _=>rfl)) (aI (aW (j:=2) (by kernel_rfl) (fun _ _ _ _ _ h=>h) rfl rfl rfl rfl rfl (fun _ _ h=>aY h (aL (aP c3))) rfl (fun _=>rfl)) (aW (j:=2) (by kernel_rfl) (fun _ _ _ _ _ h=>h) rfl rfl rfl rfl rfl (fun _ _ h=>aY h (aL (aP c3))) rfl (fun _=>rfl)) (aW (j:=2) (by kernel_rfl) (fun _ _ _ _ _ h=>h) rfl rfl rfl rfl rfl (fun _ _ h=>aY h (aL (aP c3))) rfl (fun _=>rfl)) (aW (j:=2) (by kernel_rfl) (fun _ _ _ _ _ h=>h) rfl rfl rfl rfl rfl (fun _ _ h=>aY h (aL (aP c3))) rfl (fun _=>rfl)) (aI (aW (j:=2) (by kernel_rfl) (fun _ _ _ _ _ h=>h) rfl rfl rfl rfl rfl (fun _ _ h=>aY h (aL (aP c3))) rfl (fun _=>rfl)) (aW (j:=2) (by kernel_rfl) (fun _ _ _ _ _ h=>h) rfl rfl rfl rfl rfl (fun _ _ h=>aY h (aL (aP c3))) rfl (fun _=>rfl)) (aW (j:=2) (by kernel_rfl) (fun _ _ _ _ _ h=>h) rfl rfl rfl rfl rfl (fun _ _ h=>aY h (aL (aP c3))) rfl (fun _=>rfl)) (aW (j:=2) (by kernel_rfl) (fun _ _ _ _ _ h=>h) rfl rfl rfl rfl rfl (fun _ _ h=>aY h (aL (aP c3))) rfl (fun _=>rfl)) (aI (aW (j:=2) (by kernel_rfl) (fun _ _ _ _ _ h=>h) rfl rfl rfl rfl rfl (fun _ _ h=>aY h (aL (aP c3))) rfl (fun _=>rfl)) (aW (j:=2) (by kernel_rfl) (fun _ _ _ _ _ h=>h) rfl rfl rfl rfl rfl (fun _ _ h=>aY h (aL (aP c3))) rfl (fun _=>rfl)) (aW (j:=2) (by kernel_rfl) (fun _ _ _ _ _ h=>h) rfl rfl rfl rfl rfl (fun _ _ h=>aY h (aL (aP c3))) rfl (fun _=>rfl)) (aW (j:=2) (by kernel_rfl) (fun _ _ _ _ _ h=>h) rfl rfl rfl rfl rfl (fun _ _ h=>aY h (aL (aP c3))) rfl (fun _=>rfl)) (bC (aW (j:=2) (by kernel_rfl) (fun _ _ _ _ _ h=>h) rfl rfl rfl rfl rfl (fun _ _ h=>aY h (aL (aP c3))) rfl (fun _=>rfl)) (bC (Z2 2 104 16 118 rfl (Pf (aP c3) rfl)) (bC (cu rfl) dN))))))) ?_
  clear H;intro a w G xE H hv;have H:=H.bg (hv 17 119 rfl rfl) rfl;clear hv;refine kH H (Ra rfl ?_);clear H;intro a H;refine aJ ⟨rfl,?_⟩;refine kV _ _ ?_;clear kV;refine oh H rfl rfl ?_;refine aN (fun _ Aq=>?_)
  have hz:¬ (0 < k∧h.marks.bV[k].rev≤h.marks.bV[k - 1].rev):=by first|exact fun h=>c4 h.2|exact fun h=>c3 (by omega)
  replace q2':=aH xE q2';replace r1:=aH xE r1;refine kP H (SC (Rf mY rfl (Rg nC rfl q2' (Rm rfl (Ri mQ wO rfl rfl (Rf IU rfl (Rg aD rfl r1 (Rc rfl (Rm rfl (Sp 128 rfl ?_ ?_)))))))))) <;> clear H
  ·intro h128 a H
   try have DJ:=dT h128
   refine kH H (aZ h128 rfl (aS h128 rfl (aS h128 rfl (Pt h128 rfl (aM Aq rfl (Ct rfl rfl (SQ fun _ zH=>?_)))))));clear H Aq;intro a H;have hE:=hX 21 (by unfold oI;rw [ah GR,ah hz,au (by first|omega|(simp_all;omega))]) (by decide);exact kP H (SC (aM zH rfl (LR results43 rfl fun H=>H.rt (by rw [hE]))))
  intro h128 a H
  try have DJ:=dF h128
  refine kH H (YF mY h128 rfl (YR nC h128 rfl q2' (YM h128 rfl (YI mQ wO h128 rfl rfl (YF IU h128 rfl (YR aD h128 rfl r1 (YC h128 rfl (Pf h128 rfl (aM Aq rfl (Cd rfl ?_ ?_)))))))))) <;> clear H Aq
  ·intro mM a H
   try have EU:=dT mM
   refine aN (fun _ CP=>?_);have hE:=hX 21 (by unfold oI;rw [ah GR,ah hz,au (by first|omega|(simp_all;omega))]) (by decide);exact kP H (SC (aM CP rfl (LR results43 rfl fun H=>H.rt (by rw [hE]))))
  intro mM a H
  try have EU:=dF mM
  have GI:oI (aK us st li rv) k h.marks.bV[k] h.marks.bV[k - 1].rev=0:=by unfold oI;rw [ah GR,ah hz,ah (by first|omega|(simp_all;omega))]
  refine kP H (Kc lY (SC (Rm rfl (Rd rfl (Ra rfl ?_)))));clear H lY;intro a H;refine aJ ?_;refine dH ((k+1,G)) (by exact (H).sub ⟨rfl,rfl,rfl,rfl,aB⟩) ?_ ?_
  ·(try dsimp only);exact ⟨by omega,by rw [qd hk2,ah (by rw [hde];simpa using GI)] at heq;exact heq,fun b o h=>xE b o (hgm b o h)⟩
  first|omega|(dsimp only;omega)
 intro uR a H
 try have Mf:=dF uR
 refine dR ?_;refine lg _ _ ?_;clear lg;refine aN (fun _ CQ=>?_);refine aN (fun _ BH=>?_)
 have e4:iC (tJ (aK us st li rv) h.marks.bV) h.marks.bV.length=0:=by rw [← heq,fI (by simp;omega)];rfl
 replace hck:=hck.mono hgm;replace hb:=hgm _ _ hb;replace hh:=hh.mono hgm;replace q3:=aH hgm q3;refine kP H (SC (Rf zO rfl (Rg Ah rfl q3 (Rl xX rfl (Rc rfl (Kn BH (Cd rfl ?_ ?_))))))) <;> clear H BH
 ·intro Sl a H
  try have Vn:=dT Sl
  refine aN (fun _ FB=>?_);have hE:=ZI (C:=aK us st li rv) (e:=e) (h:=h) e1 e2 e3 e4 Vn;exact kP H (SC (aM FB rfl (LR results43 rfl fun H=>H.rt (by rw [hE]))))
 intro Sl a H
 try have Vn:=dF Sl
 refine kP H (Kc CQ (SQ fun _ FC=>SQ fun _ uF=>?_));clear H CQ;intro a H;have hE:=ZJ (C:=aK us st li rv) (e:=e) (h:=h) e1 e2 e3 e4 Vn;refine kP H (SC (aM uF rfl (SB ?_)));clear H uF;intro a H;skip;refine eT (ι:=Nat × GH) (Tc:=[(0,_),(1,_),(10,_)]) (Lc:=[]) (fun gh=>[(12,vi gh.1)]) (fun gh=>[]) (fun gh=>gh.2) (fun gh=>gh.1≤h.marks.layers.length∧bK (((List.range h.marks.layers.length).map (Bp (aK us st li rv) e h.marks.layers)).drop gh.1)=iC (Bp (aK us st li rv) e h.marks.layers) h.marks.layers.length∧(∀ b o,g2 b=some o→gh.2 b=some o)) (fun gh=>h.marks.layers.length - gh.1) ((0,g2)) (by exact (H).sub ⟨rfl,rfl,rfl,rfl,aB⟩) ?_ ?_
 ·exact ⟨gX _,rfl,fun _ _ h=>h⟩
 clear H;rintro ⟨k,g3⟩ a w hI H;dsimp only at hI H;obtain ⟨hk,sI,qL⟩:=hI;have q3':=aH qL q3;dsimp only [lca,aO] at H;refine kP H (SQ fun _ D8=>SR fun _ FD=>Rm rfl (Rf zO rfl (Rg Ah rfl q3' (Rl xX rfl (Rc rfl (Kz FD (Cd rfl ?_ ?_))))))) <;> clear H FD
 ·intro Sn a H
  try have alJ:=dT Sn
  have hk2:k < h.marks.layers.length:=by omega
  have hl2:=hh.layers.mono qL;obtain ⟨xb,xo,rfl,hrow⟩:=OP hl2 hk2
  have hk1:k - 1 < h.marks.layers.length:=by omega
  obtain ⟨b',o',he',hrow'⟩:=OP hl2 hk1
  injection he' with he'
  injection he' with KC e2'
  subst KC;subst e2'
  have Dw:Bp (aK us st li rv) e h.marks.layers k=lI (aK us st li rv) e k h.marks.layers[k] h.marks.layers[k - 1].key:=by unfold Bp;rw [fP hk2,fP hk1];rfl
  have hX:∀ v,lI (aK us st li rv) e k h.marks.layers[k] h.marks.layers[k - 1].key=v→v≠0→fK (aK us st li rv) e h=v:=fun v h1 h2=>by rw [hE,← sI,qd hk2,Dw,h1,au h2]
  have hp:=hrow' 1 _ rfl;refine kP H (Kc D8 (SQ fun _ oZ=>SB (SR fun _ D9=>Rf zO rfl (Rg Ah rfl q3' (Rm rfl (Ri xX Ag rfl rfl ?_))))));clear H D8;intro a H;refine bP Ag (cs:=h.marks.layers[k].cells) H wn rfl rfl (fun j v hj=>H.hp.aG (hrow j v hj)) rfl ?_;clear H;intro a H;refine eH Ag H wn rfl ?_;clear H;intro b13 a w Od H;refine bT Ag 0 (vs:=[_,_,_,_]) _ H wn rfl rfl rfl rfl rfl rfl rfl rfl ?_;clear H;intro w H;dsimp only [List.set,setRow] at H;obtain ⟨Gc,hmc,Jb,H⟩:=H.dW;have hgc:∀ b o,g2 b=some o→Gc b=some o:=fun b o h=>hmc b o (qL b o h);replace hp:=aH hmc hp;replace q3':=aH hmc q3'
  have y0:aG Gc b13 0=some (vi h.marks.layers[k].rev):=by unfold aG;rw [Jb];rfl
  have y1:aG Gc b13 1=some (vi h.marks.layers[k].key):=by unfold aG;rw [Jb];rfl
  have y2:aG Gc b13 2=some (vi h.marks.layers[k].before):=by unfold aG;rw [Jb];rfl
  have y3:aG Gc b13 3=some (.bool h.marks.layers[k].had):=by unfold aG;rw [Jb];rfl
  refine D9 _ _ ?_;clear D9;refine kP H (SQ fun _ wX=>SB (SR fun _ Ea=>Rm rfl (Rf Y1 rfl (Rg aD rfl y0 ?_))));clear H;intro a H;refine s_call Rt H wn rfl (U4 _ _ H.ro D st li rv b v n (hck.mono hgc) hmz (hgc _ _ hb) h.marks.layers[k].rev) rfl ?_;clear H;rintro v157 _ a w ⟨rfl,rfl⟩ - H;refine kH H (Rn rfl (ak Ea rfl (Cd rfl ?_ ?_))) <;> clear H Ea
  ·intro NW a H
   refine aN (fun _ FE=>?_);have hE:=hX 22 (by unfold lI;rw [au (by simpa using NW)]) (by decide);exact kP H (SC (aM FE rfl (LR results43 rfl fun H=>H.rt (by rw [hE]))))
  intro NW a H
  try have aqi:=dF NW
  have zU:¬ (h.marks.layers[k].rev∉(aK us st li rv).Cy):=by simpa using NW
  refine kP H (SR fun _ Eb=>Rm rfl (Rf pF rfl (Rg aD rfl y1 ?_)));clear H;intro a H;refine s_call Ru H wn rfl (Ep (RQ _ _ H.ro e h.marks.layers[k].key)) rfl ?_;clear H;rintro aqO _ a w ⟨⟨_,rfl⟩,rfl⟩ - H;refine kH H (Rn rfl (ak Eb rfl (Cd rfl ?_ ?_))) <;> clear H Eb
  ·intro NY a H
   refine aN (fun _ FH=>?_);have hE:=hX 4 (by unfold lI;rw [ah zU,au (by simpa using NY)]) (by decide);exact kP H (SC (aM FH rfl (LR results43 rfl fun H=>H.rt (by rw [hE]))))
  intro NY a H
  try have aqk:=dF NY
  have Bd:¬ (AQ e h.marks.layers[k].key=false):=by simpa using NY
  refine aN (fun _ Ar=>?_)
  by_cases c3:0 < (k:Int)
  ·skip
   by_cases c4:h.marks.layers[k].key < h.marks.layers[k - 1].key
   ·skip;refine dI hmx [[],[0],[0,1],[0,1,2],(ra 0 4),[0,1,2],[0,1,2,5],[0,1,2],[0,1,2,7],[0,1,2,5,6,7,8],[0,1,2,5,6,7,8,9],([0,1,2]++ra 5 6),(ra 0 12),(ra 0 13),(ra 0 14)] [14] (by kernel_rfl) [_,_,_,_,_,_,_,_,vi ((k - 1:Nat):Int),_,_,_,_,_] H (aI (Z0 rfl (Rm rfl)) (Z1 0 166 rfl (Rc rfl)) (Z1 1 167 rfl (Rm rfl)) (Z1 2 168 rfl (YF pF (aF c3) rfl)) (aI (X2 3 169 2 168 rfl fun hG=>YR aD (aF c3) rfl (aH hG y1)) (Z1 2 168 rfl (YF zO (aF c3) rfl)) (X2 5 171 2 168 rfl fun hG=>YR Ah (aF c3) rfl (aH hG q3')) (Z1 2 168 rfl (YM (aF c3) rfl)) (aI ?_ (Z3 6 172 8 174 2 168 rfl (YI xX Ag (aF c3) rfl rfl)) (Z2 9 175 2 168 rfl (YF pF (aF c3) rfl)) (X2 10 176 2 168 rfl fun hG=>YR aD (aF c3) rfl (aH hG hp)) (bC (Z3 4 170 11 177 2 168 rfl (YC (aF c3) rfl)) (bC (Z2 2 168 12 178 rfl (Pt (aF c3) rfl)) (bC (cu rfl) dN)))))) ?_
    ·refine eU 7 173 2 168 rfl rfl fun _ a w G1 hG HT H fin=>?_;refine mD _ H (wg H rfl rfl (aF c3)) rfl rfl rfl (by omega) (by omega) rfl ?_;clear H;intro a H;exact fin H iJ (by show _=_;first|rfl|exact av vi (by omega))
    clear H;intro a w G Cg H hv;have H:=H.bg (hv 13 179 rfl rfl) rfl;clear hv;refine kH H (Ra rfl ?_);clear H;intro a H;refine aJ ⟨rfl,?_⟩;refine Ar _ _ ?_;clear Ar;refine Ay H rfl (aF c4) ?_;refine aN (fun _ sS=>?_);have hz:0 < k∧h.marks.layers[k].key < h.marks.layers[k - 1].key:=⟨by omega,c4⟩;have hE:=hX 6 (by unfold lI;rw [ah zU,ah Bd,au hz]) (by decide);exact kP H (SC (aM sS rfl (LR results43 rfl fun H=>H.rt (by rw [hE]))))
   skip;refine dI hmx [[],[0],[0,1],[0,1,2],(ra 0 4),[0,1,2],[0,1,2,5],[0,1,2],[0,1,2,7],[0,1,2,5,6,7,8],[0,1,2,5,6,7,8,9],([0,1,2]++ra 5 6),(ra 0 12),(ra 0 13),(ra 0 14)] [14] (by kernel_rfl) [_,_,_,_,_,_,_,_,vi ((k - 1:Nat):Int),_,_,_,_,_] H (aI (Z0 rfl (Rm rfl)) (Z1 0 166 rfl (Rc rfl)) (Z1 1 167 rfl (Rm rfl)) (Z1 2 168 rfl (YF pF (aF c3) rfl)) (aI (X2 3 169 2 168 rfl fun hG=>YR aD (aF c3) rfl (aH hG y1)) (Z1 2 168 rfl (YF zO (aF c3) rfl)) (X2 5 171 2 168 rfl fun hG=>YR Ah (aF c3) rfl (aH hG q3')) (Z1 2 168 rfl (YM (aF c3) rfl)) (aI ?_ (Z3 6 172 8 174 2 168 rfl (YI xX Ag (aF c3) rfl rfl)) (Z2 9 175 2 168 rfl (YF pF (aF c3) rfl)) (X2 10 176 2 168 rfl fun hG=>YR aD (aF c3) rfl (aH hG hp)) (bC (Z3 4 170 11 177 2 168 rfl (YC (aF c3) rfl)) (bC (Z2 2 168 12 178 rfl (Pt (aF c3) rfl)) (bC (cu rfl) dN)))))) ?_
   ·refine eU 7 173 2 168 rfl rfl fun _ a w G1 hG HT H fin=>?_;refine mD _ H (wg H rfl rfl (aF c3)) rfl rfl rfl (by omega) (by omega) rfl ?_;clear H;intro a H;exact fin H iJ (by show _=_;first|rfl|exact av vi (by omega))
   clear H;intro a w G Cg H hv;have H:=H.bg (hv 13 179 rfl rfl) rfl;clear hv;refine kH H (Ra rfl ?_);clear H;intro a H;refine aJ ⟨rfl,?_⟩;refine Ar _ _ ?_;clear Ar;refine oh H rfl (aP c4) ?_;refine aN (fun _ CU=>?_)
   have hz:¬ (0 < k∧h.marks.layers[k].key < h.marks.layers[k - 1].key):=by first|exact fun h=>c4 h.2|exact fun h=>c3 (by omega)
   replace y1:=aH Cg y1;replace y2:=aH Cg y2;replace y3:=aH Cg y3;have hge:=fun b o h=>Cg b o (hgc b o h);refine kP H (SC (Rf Ev rfl (Rg qQ rfl y3 (Rn rfl (Rm rfl (Sp 184 rfl ?_ ?_)))))) <;> clear H
   ·intro rD a H
    try have Vq:=dT rD
    refine kH H (YF uM rD rfl (YR aD rD rfl y2 (YC rD rfl (Pt rD rfl (aM CU rfl (Cd rfl ?_ ?_)))))) <;> clear H CU
    ·intro Gg a H
     try have Vp:=dT Gg
     refine aN (fun _ FI=>?_);have hE:=hX 21 (by unfold lI;rw [ah zU,ah Bd,ah hz];simp_all [bE]) (by decide);exact kP H (SC (aM FI rfl (LR results43 rfl fun H=>H.rt (by rw [hE]))))
    intro Gg a H
    try have Vp:=dF Gg
    refine kP H (Kc wX (SR fun _ FJ=>Rf Ev rfl (Rg qQ rfl y3 (Kz FJ (Cd rfl ?_ ?_))))) <;> clear H wX FJ
    ·intro wu a H
     try have HY:=dT wu
     have rP:lI (aK us st li rv) e k h.marks.layers[k] h.marks.layers[k - 1].key=bK [sF h.marks.layers[k].key h.marks.layers[k].before,kK st (li.map dM.id) h.marks.layers[k].key h.marks.layers[k].before]:=by unfold lI;rw [ah zU,ah Bd,ah hz,ah (by simp_all)]
     refine kP H (SQ fun _ Ec=>SR fun _ Ed=>Rf pF rfl (Rg aD rfl y1 (Rf uM rfl (Rg aD rfl y2 ?_))));clear H;intro a H;refine s_call F6 H wn rfl (Ep (F4 _ _ H.ro h.marks.layers[k].key h.marks.layers[k].before)) rfl ?_;clear H;rintro Wm _ a w ⟨⟨_,rfl⟩,rfl⟩ - H;refine kH H (ak Ed rfl (SR fun _ Ee=>Rm rfl (Rc rfl (Kz Ee (Cd rfl ?_ ?_))))) <;> clear H Ed Ee
     ·intro wz a H
      try have rT:=dT wz
      refine aN (fun _ Il=>?_);have hE:=hX _ (rP.trans (vX rT)) rT;exact kP H (SC (Rm rfl (aM Il rfl (LR results43 rfl fun H=>H.rt (by rw [hE])))))
     intro wz a H
     try have rT:=dF wz
     rw [iV (gu.1 rT),Cc] at rP;refine kP H (Kc Ec (SR fun _ FK=>Rm rfl (Rf pF rfl (Rg aD rfl y1 (Rf uM rfl (Rg aD rfl y2 ?_))))));clear H Ec;intro a H;refine s_call KE H wn rfl (LZ _ _ H.ro D st li rv b v n (hck.mono hge) hmz (hge _ _ hb) h.marks.layers[k].key h.marks.layers[k].before) rfl ?_;clear H;rintro Wn _ a w ⟨rfl,rfl⟩ - H;refine kH H (ak FK rfl (SR fun _ J7=>Rm rfl (Rc rfl (Kz J7 (Cd rfl ?_ ?_))))) <;> clear H FK J7
     ·intro wB a H
      try have wM:=dT wB
      refine aN (fun _ MV=>?_);have hE:=hX _ rP wM;exact kP H (SC (Rm rfl (aM MV rfl (LR results43 rfl fun H=>H.rt (by rw [hE])))))
     intro wB a H
     try have wM:=dF wB
     have wF:=rP.trans (gu.1 wM);have rH:=hge;refine kP H (Kc oZ (SC (Rm rfl (Rd rfl (Ra rfl ?_)))));clear H oZ;intro a H;refine aJ ?_;refine dH ((k+1,G)) (by exact (H).sub ⟨rfl,rfl,rfl,rfl,aB⟩) ?_ ?_
     ·(try dsimp only);exact ⟨by omega,by rw [qd hk2,ah (by rw [Dw];simpa using wF)] at sI;exact sI,rH⟩
     first|omega|(dsimp only;omega)
    intro wu a H
    try have HY:=dF wu
    have wF:lI (aK us st li rv) e k h.marks.layers[k] h.marks.layers[k - 1].key=0:=by unfold lI;rw [ah zU,ah Bd,ah hz];simp_all [bE]
    have rH:=hge;refine kP H (Kc oZ (SC (Rm rfl (Rd rfl (Ra rfl ?_)))));clear H oZ;intro a H;refine aJ ?_;refine dH ((k+1,G)) (by exact (H).sub ⟨rfl,rfl,rfl,rfl,aB⟩) ?_ ?_
    ·(try dsimp only);exact ⟨by omega,by rw [qd hk2,ah (by rw [Dw];simpa using wF)] at sI;exact sI,rH⟩
    first|omega|(dsimp only;omega)
   intro rD a H
   try have Vq:=dF rD
   refine kH H (aZ rD rfl (Pf rD rfl (aM CU rfl (Cf rfl rfl (Kc wX (SR fun _ WY=>Rf Ev rfl (Rg qQ rfl y3 (Kz WY (Cd rfl ?_ ?_))))))))) <;> clear H CU wX WY
   ·intro wu a H
    try have HY:=dT wu
    have rP:lI (aK us st li rv) e k h.marks.layers[k] h.marks.layers[k - 1].key=bK [sF h.marks.layers[k].key h.marks.layers[k].before,kK st (li.map dM.id) h.marks.layers[k].key h.marks.layers[k].before]:=by unfold lI;rw [ah zU,ah Bd,ah hz,ah (by simp_all)]
    refine kP H (SQ fun _ WZ=>SR fun _ W9=>Rf pF rfl (Rg aD rfl y1 (Rf uM rfl (Rg aD rfl y2 ?_))));clear H;intro a H;refine s_call F6 H wn rfl (Ep (F4 _ _ H.ro h.marks.layers[k].key h.marks.layers[k].before)) rfl ?_;clear H;rintro Wm _ a w ⟨⟨_,rfl⟩,rfl⟩ - H;refine kH H (ak W9 rfl (SR fun _ Xa=>Rm rfl (Rc rfl (Kz Xa (Cd rfl ?_ ?_))))) <;> clear H W9 Xa
    ·intro wz a H
     try have rT:=dT wz
     refine aN (fun _ K78=>?_);have hE:=hX _ (rP.trans (vX rT)) rT;exact kP H (SC (Rm rfl (aM K78 rfl (LR results43 rfl fun H=>H.rt (by rw [hE])))))
    intro wz a H
    try have rT:=dF wz
    rw [iV (gu.1 rT),Cc] at rP;refine kP H (Kc WZ (SR fun _ Xb=>Rm rfl (Rf pF rfl (Rg aD rfl y1 (Rf uM rfl (Rg aD rfl y2 ?_))))));clear H WZ;intro a H;refine s_call KE H wn rfl (LZ _ _ H.ro D st li rv b v n (hck.mono hge) hmz (hge _ _ hb) h.marks.layers[k].key h.marks.layers[k].before) rfl ?_;clear H;rintro Wn _ a w ⟨rfl,rfl⟩ - H;refine kH H (ak Xb rfl (SR fun _ Xc=>Rm rfl (Rc rfl (Kz Xc (Cd rfl ?_ ?_))))) <;> clear H Xb Xc
    ·intro wB a H
     try have wM:=dT wB
     refine aN (fun _ K81=>?_);have hE:=hX _ rP wM;exact kP H (SC (Rm rfl (aM K81 rfl (LR results43 rfl fun H=>H.rt (by rw [hE])))))
    intro wB a H
    try have wM:=dF wB
    have wF:=rP.trans (gu.1 wM);have rH:=hge;refine kP H (Kc oZ (SC (Rm rfl (Rd rfl (Ra rfl ?_)))));clear H oZ;intro a H;refine aJ ?_;refine dH ((k+1,G)) (by exact (H).sub ⟨rfl,rfl,rfl,rfl,aB⟩) ?_ ?_
    ·(try dsimp only);exact ⟨by omega,by rw [qd hk2,ah (by rw [Dw];simpa using wF)] at sI;exact sI,rH⟩
    first|omega|(dsimp only;omega)
   intro wu a H
   try have HY:=dF wu
   have wF:lI (aK us st li rv) e k h.marks.layers[k] h.marks.layers[k - 1].key=0:=by unfold lI;rw [ah zU,ah Bd,ah hz];simp_all [bE]
   have rH:=hge;refine kP H (Kc oZ (SC (Rm rfl (Rd rfl (Ra rfl ?_)))));clear H oZ;intro a H;refine aJ ?_;refine dH ((k+1,G)) (by exact (H).sub ⟨rfl,rfl,rfl,rfl,aB⟩) ?_ ?_
   ·(try dsimp only);exact ⟨by omega,by rw [qd hk2,ah (by rw [Dw];simpa using wF)] at sI;exact sI,rH⟩
   first|omega|(dsimp only;omega)
  skip;refine dI hmx [[],[0],[0,1],[0,1,2],(ra 0 4),[0,1,2],[0,1,2,5],[0,1,2],[0,1,2,7],[0,1,2,5,6,7,8],[0,1,2,5,6,7,8,9],([0,1,2]++ra 5 6),(ra 0 12),(ra 0 13),(ra 0 14)] [14] (by kernel_rfl) [_,_,_,undef,undef,undef,undef,undef,undef,undef,undef,undef,undef,_] H (aI (Z0 rfl (Rm rfl)) (Z1 0 166 rfl (Rc rfl)) (Z1 1 167 rfl (Rm rfl)) (aW (j:=2) (by kernel_rfl) (fun _ _ _ _ _ h=>h) rfl rfl rfl rfl rfl (fun _ _ h=>aY h (aL (aP c3))) rfl (fun _=>rfl)) (aI (aW (j:=2) (by kernel_rfl) (fun _ _ _ _ _ h=>h) rfl rfl rfl rfl rfl (fun _ _ h=>aY h (aL (aP c3))) rfl (fun _=>rfl)) (aW (j:=2) (by kernel_rfl) (fun _ _ _ _ _ h=>h) rfl rfl rfl rfl rfl (fun _ _ h=>aY h (aL (aP c3))) rfl (fun _=>rfl)) (aW (j:=2) (by kernel_rfl) (fun _ _ _ _ _ h=>h) rfl rfl rfl rfl rfl (fun _ _ h=>aY h (aL (aP c3))) rfl (fun _=>rfl)) (aW (j:=2) (by kernel_rfl) (fun _ _ _ _ _ h=>h) rfl rfl rfl rfl rfl (fun _ _ h=>aY h (aL (aP c3))) rfl (fun _=>rfl)) (aI (aW (j:=2) (by kernel_rfl) (fun _ _ _ _ _ h=>h) rfl rfl rfl rfl rfl (fun _ _ h=>aY h (aL (aP c3))) rfl (fun _=>rfl)) (aW (j:=2) (by kernel_rfl) (fun _ _ _ _ _ h=>h) rfl rfl rfl rfl rfl (fun _ _ h=>aY h (aL (aP c3))) rfl (fun _=>rfl)) (aW (j:=2) (by kernel_rfl) (fun _ _ _ _ _ h=>h) rfl rfl rfl rfl rfl (fun _ _ h=>aY h (aL (aP c3))) rfl (fun _=>rfl)) (aW (j:=2) (by kernel_rfl) (fun _ _ _ _ _ h=>h) rfl rfl rfl rfl rfl (fun _ _ h=>aY h (aL (aP c3))) rfl (fun _=>rfl)) (bC (aW (j:=2) (by kernel_rfl) (fun _ _ _ _ _ h=>h) rfl rfl rfl rfl rfl (fun _ _ h=>aY h (aL (aP c3))) rfl (fun _=>rfl)) (bC (Z2 2 168 12 178 rfl (Pf (aP c3) rfl)) (bC (cu rfl) dN)))))) ?_
  clear H;intro a w G Cg H hv;have H:=H.bg (hv 13 179 rfl rfl) rfl;clear hv;refine kH H (Ra rfl ?_);clear H;intro a H;refine aJ ⟨rfl,?_⟩;refine Ar _ _ ?_;clear Ar;refine oh H rfl rfl ?_;refine aN (fun _ MW=>?_)
  have hz:¬ (0 < k∧h.marks.layers[k].key < h.marks.layers[k - 1].key):=by first|exact fun h=>c4 h.2|exact fun h=>c3 (by omega)
  replace y1:=aH Cg y1;replace y2:=aH Cg y2;replace y3:=aH Cg y3;have hge:=fun b o h=>Cg b o (hgc b o h);refine kP H (SC (Rf Ev rfl (Rg qQ rfl y3 (Rn rfl (Rm rfl (Sp 184 rfl ?_ ?_)))))) <;> clear H
  ·intro rD a H
   try have Vq:=dT rD
   refine kH H (YF uM rD rfl (YR aD rD rfl y2 (YC rD rfl (Pt rD rfl (aM MW rfl (Cd rfl ?_ ?_)))))) <;> clear H MW
   ·intro Gg a H
    try have Vp:=dT Gg
    refine aN (fun _ K83=>?_);have hE:=hX 21 (by unfold lI;rw [ah zU,ah Bd,ah hz];simp_all [bE]) (by decide);exact kP H (SC (aM K83 rfl (LR results43 rfl fun H=>H.rt (by rw [hE]))))
   intro Gg a H
   try have Vp:=dF Gg
   refine kP H (Kc wX (SR fun _ Xd=>Rf Ev rfl (Rg qQ rfl y3 (Kz Xd (Cd rfl ?_ ?_))))) <;> clear H wX Xd
   ·intro wu a H
    try have HY:=dT wu
    have rP:lI (aK us st li rv) e k h.marks.layers[k] h.marks.layers[k - 1].key=bK [sF h.marks.layers[k].key h.marks.layers[k].before,kK st (li.map dM.id) h.marks.layers[k].key h.marks.layers[k].before]:=by unfold lI;rw [ah zU,ah Bd,ah hz,ah (by simp_all)]
    refine kP H (SQ fun _ Xe=>SR fun _ Xf=>Rf pF rfl (Rg aD rfl y1 (Rf uM rfl (Rg aD rfl y2 ?_))));clear H;intro a H;refine s_call F6 H wn rfl (Ep (F4 _ _ H.ro h.marks.layers[k].key h.marks.layers[k].before)) rfl ?_;clear H;rintro Wm _ a w ⟨⟨_,rfl⟩,rfl⟩ - H;refine kH H (ak Xf rfl (SR fun _ Xg=>Rm rfl (Rc rfl (Kz Xg (Cd rfl ?_ ?_))))) <;> clear H Xf Xg
    ·intro wz a H
     try have rT:=dT wz
     refine aN (fun _ K88=>?_);have hE:=hX _ (rP.trans (vX rT)) rT;exact kP H (SC (Rm rfl (aM K88 rfl (LR results43 rfl fun H=>H.rt (by rw [hE])))))
    intro wz a H
    try have rT:=dF wz
    rw [iV (gu.1 rT),Cc] at rP;refine kP H (Kc Xe (SR fun _ Xh=>Rm rfl (Rf pF rfl (Rg aD rfl y1 (Rf uM rfl (Rg aD rfl y2 ?_))))));clear H Xe;intro a H;refine s_call KE H wn rfl (LZ _ _ H.ro D st li rv b v n (hck.mono hge) hmz (hge _ _ hb) h.marks.layers[k].key h.marks.layers[k].before) rfl ?_;clear H;rintro Wn _ a w ⟨rfl,rfl⟩ - H;refine kH H (ak Xh rfl (SR fun _ Xi=>Rm rfl (Rc rfl (Kz Xi (Cd rfl ?_ ?_))))) <;> clear H Xh Xi
    ·intro wB a H
     try have wM:=dT wB
     refine aN (fun _ K91=>?_);have hE:=hX _ rP wM;exact kP H (SC (Rm rfl (aM K91 rfl (LR results43 rfl fun H=>H.rt (by rw [hE])))))
    intro wB a H
    try have wM:=dF wB
    have wF:=rP.trans (gu.1 wM);have rH:=hge;refine kP H (Kc oZ (SC (Rm rfl (Rd rfl (Ra rfl ?_)))));clear H oZ;intro a H;refine aJ ?_;refine dH ((k+1,G)) (by exact (H).sub ⟨rfl,rfl,rfl,rfl,aB⟩) ?_ ?_
    ·(try dsimp only);exact ⟨by omega,by rw [qd hk2,ah (by rw [Dw];simpa using wF)] at sI;exact sI,rH⟩
    first|omega|(dsimp only;omega)
   intro wu a H
   try have HY:=dF wu
   have wF:lI (aK us st li rv) e k h.marks.layers[k] h.marks.layers[k - 1].key=0:=by unfold lI;rw [ah zU,ah Bd,ah hz];simp_all [bE]
   have rH:=hge;refine kP H (Kc oZ (SC (Rm rfl (Rd rfl (Ra rfl ?_)))));clear H oZ;intro a H;refine aJ ?_;refine dH ((k+1,G)) (by exact (H).sub ⟨rfl,rfl,rfl,rfl,aB⟩) ?_ ?_
   ·(try dsimp only);exact ⟨by omega,by rw [qd hk2,ah (by rw [Dw];simpa using wF)] at sI;exact sI,rH⟩
   first|omega|(dsimp only;omega)
  intro rD a H
  try have Vq:=dF rD
  refine kH H (aZ rD rfl (Pf rD rfl (aM MW rfl (Cf rfl rfl (Kc wX (SR fun _ Xj=>Rf Ev rfl (Rg qQ rfl y3 (Kz Xj (Cd rfl ?_ ?_))))))))) <;> clear H MW wX Xj
  ·intro wu a H
   try have HY:=dT wu
   have rP:lI (aK us st li rv) e k h.marks.layers[k] h.marks.layers[k - 1].key=bK [sF h.marks.layers[k].key h.marks.layers[k].before,kK st (li.map dM.id) h.marks.layers[k].key h.marks.layers[k].before]:=by unfold lI;rw [ah zU,ah Bd,ah hz,ah (by simp_all)]
   refine kP H (SQ fun _ Xk=>SR fun _ Xl=>Rf pF rfl (Rg aD rfl y1 (Rf uM rfl (Rg aD rfl y2 ?_))));clear H;intro a H;refine s_call F6 H wn rfl (Ep (F4 _ _ H.ro h.marks.layers[k].key h.marks.layers[k].before)) rfl ?_;clear H;rintro Wm _ a w ⟨⟨_,rfl⟩,rfl⟩ - H;refine kH H (ak Xl rfl (SR fun _ Xm=>Rm rfl (Rc rfl (Kz Xm (Cd rfl ?_ ?_))))) <;> clear H Xl Xm
   ·intro wz a H
    try have rT:=dT wz
    refine aN (fun _ K96=>?_);have hE:=hX _ (rP.trans (vX rT)) rT;exact kP H (SC (Rm rfl (aM K96 rfl (LR results43 rfl fun H=>H.rt (by rw [hE])))))
   intro wz a H
   try have rT:=dF wz
   rw [iV (gu.1 rT),Cc] at rP;refine kP H (Kc Xk (SR fun _ Xn=>Rm rfl (Rf pF rfl (Rg aD rfl y1 (Rf uM rfl (Rg aD rfl y2 ?_))))));clear H Xk;intro a H;refine s_call KE H wn rfl (LZ _ _ H.ro D st li rv b v n (hck.mono hge) hmz (hge _ _ hb) h.marks.layers[k].key h.marks.layers[k].before) rfl ?_;clear H;rintro Wn _ a w ⟨rfl,rfl⟩ - H;refine kH H (ak Xn rfl (SR fun _ Xo=>Rm rfl (Rc rfl (Kz Xo (Cd rfl ?_ ?_))))) <;> clear H Xn Xo
   ·intro wB a H
    try have wM:=dT wB
    refine aN (fun _ K99=>?_);have hE:=hX _ rP wM;exact kP H (SC (Rm rfl (aM K99 rfl (LR results43 rfl fun H=>H.rt (by rw [hE])))))
   intro wB a H
   try have wM:=dF wB
   have wF:=rP.trans (gu.1 wM);have rH:=hge;refine kP H (Kc oZ (SC (Rm rfl (Rd rfl (Ra rfl ?_)))));clear H oZ;intro a H;refine aJ ?_;refine dH ((k+1,G)) (by exact (H).sub ⟨rfl,rfl,rfl,rfl,aB⟩) ?_ ?_
   ·(try dsimp only);exact ⟨by omega,by rw [qd hk2,ah (by rw [Dw];simpa using wF)] at sI;exact sI,rH⟩
   first|omega|(dsimp only;omega)
  intro wu a H
  try have HY:=dF wu
  have wF:lI (aK us st li rv) e k h.marks.layers[k] h.marks.layers[k - 1].key=0:=by unfold lI;rw [ah zU,ah Bd,ah hz];simp_all [bE]
  have rH:=hge;refine kP H (Kc oZ (SC (Rm rfl (Rd rfl (Ra rfl ?_)))));clear H oZ;intro a H;refine aJ ?_;refine dH ((k+1,G)) (by exact (H).sub ⟨rfl,rfl,rfl,rfl,aB⟩) ?_ ?_
  ·(try dsimp only);exact ⟨by omega,by rw [qd hk2,ah (by rw [Dw];simpa using wF)] at sI;exact sI,rH⟩
  first|omega|(dsimp only;omega)
 intro Sn a H
 try have alJ:=dF Sn
 refine dR ?_;refine FC _ _ ?_;clear FC;refine aN (fun _ adt=>?_)
 replace hE:fK (aK us st li rv) e h=0:=by rw [hE,← sI,fI (by simp;omega)];rfl
 exact kP H (SC (aM adt rfl (LR results43 rfl fun H=>H.rt (by rw [hE]))))
end
section
open Go.RowKit
def BQ (x:ay):Int:=if x.kind=4 then 3 else if x.kind=6 then 2 else if x.kind=8 then 4 else 0
theorem Yg (x:ay):decide (BQ x=0)=!AA x:=by
 unfold BQ AA
 by_cases h4:x.kind=4
 ·simp [h4]
 by_cases h6:x.kind=6
 ·simp [h6]
 by_cases h8:x.kind=8 <;> simp [h4,h6,h8]
theorem Nj (x:ay):(decide (0 < BQ x) && (decide (x.code < 1) || decide (BQ x < x.code)))=!codeOk x:=by
 unfold BQ codeOk
 by_cases h4:x.kind=4
 ·simp only [h4,au];by_cases a:x.code < 1 <;> by_cases b:3 < x.code <;> simp [a,b] <;> omega
 by_cases h6:x.kind=6
 ·simp only [h6,au];by_cases a:x.code < 1 <;> by_cases b:2 < x.code <;> simp [a,b] <;> omega
 by_cases h8:x.kind=8
 ·simp only [h8,au];by_cases a:x.code < 1 <;> by_cases b:4 < x.code <;> simp [a,b] <;> omega
 simp [h4,h6,h8]
set_option maxHeartbeats 8000000 in
theorem akZ (G:GH) (w0:World) (hG:Hold G w0) (x:ay) (p d l:aj) (fA rA:Option Addr) (fc rc:Nat) (hs:x.text.size < 4611686018427387904) :
  Calls prog 52 #[.agg #[vi x.kind,vi x.code,vi x.id,.string x.text,p,vi x.head.marks.ins,vi x.head.marks.move,d,l,.slice fA x.flow.length fc,.slice rA x.rows.length rc]] w0 (bY w0 G fun u G'=>u=vi (jw x)∧G=G'):=by
 refine eN [(0,_)] func52 rfl ntmps52 rfl rfl hG ?_;intro a H;refine dh (fun _ K1=>?_);refine fB (cs:=[_,_,_,_,_,_,_,_,_,_,_]) H wn rfl rfl rfl ?_;clear H;intro b1 a w hb1 H;refine kH H (ak K1 rfl (SR fun _ K2=>ak K2 rfl ?_));clear H K1 K2;intro a H;refine oF (ι:=Int) (Tc:=[(1,_)]) (Lc:=[(_,_)]) (fun gh=>[(3,vi gh)]) (fun gh=>[]) (fun gh=>G) (fun gh=>gh=BQ x) (by exact (H).sub ⟨rfl,aB⟩) ?_ ?_
 ·skip;refine kP H (SR fun _ K3=>aT gJ aD 0 rfl rfl (Kz K3 (SB (SR fun _ K4=>Rc rfl (ak K4 rfl (Cd rfl ?_ ?_)))))) <;> clear H K3 K4
  ·intro h9 a H
   try have p9:=dT h9
   refine kP H (SC (Ra rfl ?_));clear H;intro a H;refine aJ ?_;refine ⟨_,by exact (H).sub ⟨rfl,rfl,aB⟩,?_⟩
   unfold BQ;first|(simp_all;done)
  intro h9 a H
  try have p9:=dF h9
  refine kP H (SR fun _ K5=>Rc rfl (ak K5 rfl (Cd rfl ?_ ?_))) <;> clear H K5
  ·intro h11 a H
   try have xP:=dT h11
   refine kP H (SC (Ra rfl ?_));clear H;intro a H;refine aJ ?_;refine ⟨_,by exact (H).sub ⟨rfl,rfl,aB⟩,?_⟩
   unfold BQ;first|(simp_all;done)
  intro h11 a H
  try have xP:=dF h11
  refine kP H (SR fun _ K6=>Rc rfl (ak K6 rfl (Cd rfl ?_ ?_))) <;> clear H K6
  ·intro gy a H
   try have pO:=dT gy
   refine kP H (SC (Ra rfl ?_));clear H;intro a H;refine aJ ?_;refine ⟨_,by exact (H).sub ⟨rfl,rfl,aB⟩,?_⟩
   unfold BQ;first|(simp_all;done)
  intro gy a H
  try have pO:=dF gy
  refine fF ?_;refine ⟨_,by exact (H).sub ⟨rfl,rfl,aB⟩,?_⟩
  unfold BQ;first|(simp_all;done)
 clear H;intro cs a w hI H;have hcs:=hI;dsimp only [lca,aO] at H;refine dh (fun _ K7=>?_);refine nE (ι:=Bool) (Tc:=[(1,_),(3,_)]) 8 (fun (st:Bool)=>[(22,.bool st)]) (fun (st:Bool)=>st=Ad x) (by exact H.sub ⟨rfl,rfl,aB⟩) ?_ ?_
 ·intro Zv;refine kH H (aT gJ aD 0 rfl rfl (Rc rfl (Rm rfl (Sp 18 rfl ?_ ?_)))) <;> clear H
  ·intro h18 a H
   try have xQ:=dT h18
   refine kH H (YF Di h18 rfl (YO aD 0 h18 rfl (YC h18 rfl (Pt h18 rfl ?_))));clear H;intro a H;refine Zv (_) _ _ ?_ (by exact H.sub ⟨rfl,rfl,rfl,aB⟩)
   unfold Ad;clear hcs;simp_all
  intro h18 a H
  try have xQ:=dF h18
  refine kH H (aZ h18 rfl (Pf h18 rfl ?_));clear H;intro a H;refine Zv (_) _ _ ?_ (by exact H.sub ⟨rfl,rfl,rfl,aB⟩)
  unfold Ad;clear hcs;simp_all
 clear H;intro st a w hI H;dsimp only [lca,aO] at H;simp only [mX,jW];have hst:=hI;refine kH H (ak K7 rfl (SR fun _ K8=>?_));clear H K7;intro a H;refine nE (ι:=Bool) (Tc:=[(1,_),(3,_),(4,_)]) 8 (fun (Fj:Bool)=>[(30,.bool Fj)]) (fun (Fj:Bool)=>Fj=decide (x.kind=1∨x.kind=5)) (by exact H.sub ⟨rfl,rfl,rfl,aB⟩) ?_ ?_
 ·intro Zm;refine kH H (aT gJ aD 0 rfl rfl (Rc rfl (Rm rfl (Sp 26 rfl ?_ ?_)))) <;> clear H
  ·intro eO a H
   try have p26:=dT eO
   refine kH H (aZ eO rfl (Pt eO rfl ?_));clear H;intro a H;refine Zm (_) _ _ ?_ (by exact H.sub ⟨rfl,rfl,rfl,rfl,aB⟩);clear hst hcs;simp_all
  intro eO a H
  try have p26:=dF eO
  refine kH H (YF gJ eO rfl (YO aD 0 eO rfl (YC eO rfl (Pf eO rfl ?_))));clear H;intro a H;refine Zm (_) _ _ ?_ (by exact H.sub ⟨rfl,rfl,rfl,rfl,aB⟩);clear hst hcs;simp_all
 clear H;intro Fj a w hI H;dsimp only [lca,aO] at H;simp only [mX,jW];have kY:=hI;refine kH H (ak K8 rfl (SR fun _ K9=>?_));clear H K8;intro a H;refine nE (ι:=Bool) (Tc:=[(1,_),(3,_),(4,_),(5,_)]) 13 (fun (nm:Bool)=>[(43,.bool nm)]) (fun (nm:Bool)=>nm=zk x) (by exact H.sub ⟨rfl,rfl,rfl,rfl,aB⟩) ?_ ?_
 ·intro SS;refine kH H (aT gJ aD 0 rfl rfl (Rc rfl (Rm rfl (Sp 34 rfl ?_ ?_)))) <;> clear H
  ·intro eG a H
   try have p34:=dT eG
   refine kH H (aZ eG rfl (Pt eG rfl (Rm rfl (aZ rfl rfl (Pt rfl rfl ?_)))));clear H;intro a H;refine SS (_) _ _ ?_ (by exact H.sub ⟨rfl,rfl,rfl,rfl,rfl,aB⟩)
   unfold zk;clear hst hcs;(try clear kY);simp_all
  intro eG a H
  try have p34:=dF eG
  refine kH H (YF gJ eG rfl (YO aD 0 eG rfl (YC eG rfl (Pf eG rfl (Rm rfl (Sp 39 rfl ?_ ?_)))))) <;> clear H
  ·intro jR a H
   try have p39:=dT jR
   refine kH H (aZ jR rfl (Pt jR rfl ?_));clear H;intro a H;refine SS (_) _ _ ?_ (by exact H.sub ⟨rfl,rfl,rfl,rfl,rfl,aB⟩)
   unfold zk;clear hst hcs;(try clear kY);simp_all
  intro jR a H
  try have p39:=dF jR
  refine kH H (YF gJ jR rfl (YO aD 0 jR rfl (YC jR rfl (Pf jR rfl ?_))));clear H;intro a H;refine SS (_) _ _ ?_ (by exact H.sub ⟨rfl,rfl,rfl,rfl,rfl,aB⟩)
  unfold zk;clear hst hcs;(try clear kY);simp_all
 clear H;intro nm a w hI H;dsimp only [lca,aO] at H;simp only [mX,jW];have hnm:=hI;refine kH H (ak K9 rfl (SQ fun _ aV=>SB (SR fun _ bF=>?_)));clear H K9;intro a H;refine nE (ι:=Bool) (Tc:=[(1,_),(3,_),(4,_),(5,_),(6,_)]) 8 (fun (qa:Bool)=>[(52,.bool qa)]) (fun (qa:Bool)=>qa=!decide (1≤x.kind∧x.kind≤8)) (by exact H.sub ⟨rfl,rfl,rfl,rfl,rfl,aB⟩) ?_ ?_
 ·intro ED;refine kH H (aT gJ aD 0 rfl rfl (Rc rfl (Rm rfl (Sp 48 rfl ?_ ?_)))) <;> clear H
  ·intro h48 a H
   try have p48:=dT h48
   refine kH H (aZ h48 rfl (Pt h48 rfl ?_));clear H;intro a H;refine ED (_) _ _ ?_ (by exact H.sub ⟨rfl,rfl,rfl,rfl,rfl,rfl,aB⟩);rw [qW];simp only [uH,yF,vS,true_iff,eq_self_iff_true];omega
  intro h48 a H
  try have p48:=dF h48
  refine kH H (YF gJ h48 rfl (YO aD 0 h48 rfl (YC h48 rfl (Pf h48 rfl ?_))));clear H;intro a H;refine ED (_) _ _ ?_ (by exact H.sub ⟨rfl,rfl,rfl,rfl,rfl,rfl,aB⟩);rw [qW];simp only [uH,yF,vS,true_iff,eq_self_iff_true];omega
 clear H;intro qa a w hI H;dsimp only [lca,aO] at H;simp only [mX,jW];have kX:=hI;refine nE (ι:=Bool) (Tc:=[(1,_),(3,_),(4,_),(5,_),(6,_)]) 15 (fun (q0:Bool)=>[(67,.bool q0)]) (fun (q0:Bool)=>q0=(!decide (1≤x.kind∧x.kind≤8) || !codeOk x)) (by exact H.sub ⟨rfl,rfl,rfl,rfl,rfl,aB⟩) ?_ ?_
 ·intro N8;refine kH H (Rm rfl (Sp 53 rfl ?_ ?_)) <;> clear H
  ·intro gL a H
   try have p53:=dT gL
   refine kH H (aZ gL rfl (Ku rfl (Ku rfl (Ku rfl (Ku rfl (Ku rfl (Ku rfl (Ku rfl (Ku rfl (Ku rfl (Ks gL rfl (Pt gL rfl ?_))))))))))));clear H;intro a H;refine N8 (_) _ _ ?_ (by exact H.sub ⟨rfl,rfl,rfl,rfl,rfl,rfl,aB⟩)
   rw [← Nj,← hcs,← kX];clear hst kY hnm hcs;(try clear hq1);(try clear hq2);(try clear hq3);(try clear hq0);(try clear kX);(try clear hq4);(try clear iq);(try clear iD);(try clear iE);first|(simp_all;done)|(simp_all;omega)
  intro gL a H
  try have p53:=dF gL
  refine kH H (YM gL rfl (YC gL rfl (YM gL rfl (Sp 56 rfl ?_ ?_)))) <;> clear H
  ·intro pI a H
   try have p56:=dT pI
   refine kH H (YF Di pI rfl (YO aD 0 pI rfl (YC pI rfl (YM pI rfl (Sp 60 rfl ?_ ?_))))) <;> clear H
   ·intro eY a H
    try have p60:=dT eY
    refine kH H (aS eY rfl (aS eY rfl (PT pI eY rfl (PT gL pI rfl (Pf gL rfl ?_)))));clear H;intro a H;refine N8 (_) _ _ ?_ (by exact H.sub ⟨rfl,rfl,rfl,rfl,rfl,rfl,aB⟩)
    rw [← Nj,← hcs,← kX];clear hst kY hnm hcs;(try clear hq1);(try clear hq2);(try clear hq3);(try clear hq0);(try clear kX);(try clear hq4);(try clear iq);(try clear iD);(try clear iE);first|(simp_all;done)|(simp_all;omega)
   intro eY a H
   try have p60:=dF eY
   refine kH H (YF Di eY rfl (YO aD 0 eY rfl (YM eY rfl (YC eY rfl (PF pI eY rfl (PT gL pI rfl (Pf gL rfl ?_)))))));clear H;intro a H;refine N8 (_) _ _ ?_ (by exact H.sub ⟨rfl,rfl,rfl,rfl,rfl,rfl,aB⟩)
   rw [← Nj,← hcs,← kX];clear hst kY hnm hcs;(try clear hq1);(try clear hq2);(try clear hq3);(try clear hq0);(try clear kX);(try clear hq4);(try clear iq);(try clear iD);(try clear iE);first|(simp_all;done)|(simp_all;omega)
  intro pI a H
  try have p56:=dF pI
  refine kH H (aS pI rfl (aS pI rfl (Ku rfl (Ku rfl (Ku rfl (Ku rfl (Ks pI rfl (PF gL pI rfl (Pf gL rfl ?_)))))))));clear H;intro a H;refine N8 (_) _ _ ?_ (by exact H.sub ⟨rfl,rfl,rfl,rfl,rfl,rfl,aB⟩)
  rw [← Nj,← hcs,← kX];clear hst kY hnm hcs;(try clear hq1);(try clear hq2);(try clear hq3);(try clear hq0);(try clear kX);(try clear hq4);(try clear iq);(try clear iD);(try clear iE);first|(simp_all;done)|(simp_all;omega)
 clear H;intro q0 a w hI H;dsimp only [lca,aO] at H;simp only [mX,jW];have hq0:=hI;refine kH H (ak bF rfl (Cd rfl ?_ ?_)) <;> clear H bF
 ·intro kN a H
  refine aN (fun _ bG=>?_)
  have e:jw x=3:=by unfold jw;rw [au (by rw [← hq0];exact kN)]
  exact kP H (SC (aM bG rfl (LR results52 rfl fun H=>H.rt ⟨by rw [e],rfl⟩)))
 intro kN a H
 try have p44:=dF kN
 have f0:¬ (!decide (1≤x.kind∧x.kind≤8) || !codeOk x)=true:=by rw [← hq0,kN];decide
 refine dh (fun _ bM=>?_);refine nE (ι:=Bool) (Tc:=[(1,_),(4,_),(5,_),(6,_)]) 7 (fun (q1:Bool)=>[(75,.bool q1)]) (fun (q1:Bool)=>q1=(!AA x && decide (x.code≠0))) (by exact H.sub ⟨rfl,rfl,rfl,rfl,aB⟩) ?_ ?_
 ·intro Ld;refine kH H (Rm rfl (Rc rfl (Rm rfl (Sp 71 rfl ?_ ?_)))) <;> clear H
  ·intro tN a H
   try have p71:=dT tN
   refine kH H (YF Di tN rfl (YO aD 0 tN rfl (YC tN rfl (Pt tN rfl ?_))));clear H;intro a H;refine Ld (_) _ _ ?_ (by exact H.sub ⟨rfl,rfl,rfl,rfl,rfl,aB⟩);rw [← Yg,← hcs];clear hst kY hnm hcs;(try clear hq1);(try clear hq2);(try clear hq3);(try clear hq0);(try clear kX);(try clear hq4);(try clear iq);(try clear iD);(try clear iE);simp_all
  intro tN a H
  try have p71:=dF tN
  refine kH H (aZ tN rfl (Pf tN rfl ?_));clear H;intro a H;refine Ld (_) _ _ ?_ (by exact H.sub ⟨rfl,rfl,rfl,rfl,rfl,aB⟩);rw [← Yg,← hcs];clear hst kY hnm hcs;(try clear hq1);(try clear hq2);(try clear hq3);(try clear hq0);(try clear kX);(try clear hq4);(try clear iq);(try clear iD);(try clear iE);simp_all
 clear H;intro q1 a w hI H;dsimp only [lca,aO] at H;simp only [mX,jW];have hq1:=hI;refine nE (ι:=Bool) (Tc:=[(1,_),(4,_),(5,_)]) 9 (fun (q2:Bool)=>[(84,.bool q2)]) (fun (q2:Bool)=>q2=(q1 || !zk x && decide (x.id≠0))) (by exact H.sub ⟨rfl,rfl,rfl,aB⟩) ?_ ?_
 ·intro SY;refine kH H (Rm rfl (Sp 76 rfl ?_ ?_)) <;> clear H
  ·intro rF a H
   try have Vr:=dT rF
   refine kH H (aZ rF rfl (Ku rfl (Ku rfl (Ku rfl (Ks rF rfl (Pt rF rfl ?_))))));clear H;intro a H;refine SY (_) _ _ ?_ (by exact H.sub ⟨rfl,rfl,rfl,rfl,aB⟩);rw [← hnm];clear hst kY hnm hcs;(try clear hq1);(try clear hq2);(try clear hq3);(try clear hq0);(try clear kX);(try clear hq4);(try clear iq);(try clear iD);(try clear iE);simp_all
  intro rF a H
  try have Vr:=dF rF
  refine kH H (YM rF rfl (YN rF rfl (YM rF rfl (Sp 79 rfl ?_ ?_)))) <;> clear H
  ·intro iH a H
   try have mq:=dT iH
   refine kH H (YF uN iH rfl (YO aD 0 iH rfl (YC iH rfl (PT rF iH rfl (Pf rF rfl ?_)))));clear H;intro a H;refine SY (_) _ _ ?_ (by exact H.sub ⟨rfl,rfl,rfl,rfl,aB⟩);rw [← hnm];clear hst kY hnm hcs;(try clear hq1);(try clear hq2);(try clear hq3);(try clear hq0);(try clear kX);(try clear hq4);(try clear iq);(try clear iD);(try clear iE);simp_all
  intro iH a H
  try have mq:=dF iH
  refine kH H (aZ iH rfl (PF rF iH rfl (Pf rF rfl ?_)));clear H;intro a H;refine SY (_) _ _ ?_ (by exact H.sub ⟨rfl,rfl,rfl,rfl,aB⟩);rw [← hnm];clear hst kY hnm hcs;(try clear hq1);(try clear hq2);(try clear hq3);(try clear hq0);(try clear kX);(try clear hq4);(try clear iq);(try clear iD);(try clear iE);simp_all
 clear H;intro q2 a w hI H;dsimp only [lca,aO] at H;simp only [mX,jW];have hq2:=hI;refine nE (ι:=Bool) (Tc:=[(1,_),(4,_),(5,_)]) 13 (fun (q3:Bool)=>[(97,.bool q3)]) (fun (q3:Bool)=>q3=(q2 || !zC x && !pE x.text)) (by exact H.sub ⟨rfl,rfl,rfl,aB⟩) ?_ ?_
 ·intro N9;refine kH H (Rm rfl (Sp 85 rfl ?_ ?_)) <;> clear H
  ·intro lV a H
   try have Vu:=dT lV
   refine kH H (aZ lV rfl (Ku rfl (Ku rfl (aS lV rfl (Ku rfl (Ku rfl (Ku rfl (Ks lV rfl (Pt lV rfl ?_)))))))));clear H;intro a H;refine N9 (_) _ _ ?_ (by exact H.sub ⟨rfl,rfl,rfl,rfl,aB⟩);rw [show zC x=(Fj || st) by rw [kY,hst];rfl];clear hst kY hnm hcs;(try clear hq1);(try clear hq2);(try clear hq3);(try clear hq0);(try clear kX);(try clear hq4);(try clear iq);(try clear iD);(try clear iE);simp_all [pE]
  intro lV a H
  try have Vu:=dF lV
  refine kH H (YM lV rfl (YN lV rfl (YM lV rfl (Sp 88 rfl ?_ ?_)))) <;> clear H
  ·intro uR a H
   try have Mf:=dT uR
   refine kH H (YM uR rfl (YN uR rfl (PT lV uR rfl (YM lV rfl (Sp 92 rfl ?_ ?_))))) <;> clear H
   ·intro yP a H
    try have Jz:=dT yP
    refine kH H (YF uO yP rfl (YO gW 0 yP rfl ?_));clear H;intro a H;refine abI H (wg H rfl rfl yP) rfl rfl rfl ?_;clear H;intro a H;refine kH H (PT lV yP rfl (Pf lV rfl ?_));clear H;intro a H;refine N9 (_) _ _ ?_ (by exact H.sub ⟨rfl,rfl,rfl,rfl,aB⟩);rw [show zC x=(Fj || st) by rw [kY,hst];rfl];clear hst kY hnm hcs;(try clear hq1);(try clear hq2);(try clear hq3);(try clear hq0);(try clear kX);(try clear hq4);(try clear iq);(try clear iD);(try clear iE);simp_all [pE]
   intro yP a H
   try have Jz:=dF yP
   refine kH H (aZ yP rfl (PF lV yP rfl (Pf lV rfl ?_)));clear H;intro a H;refine N9 (_) _ _ ?_ (by exact H.sub ⟨rfl,rfl,rfl,rfl,aB⟩);rw [show zC x=(Fj || st) by rw [kY,hst];rfl];clear hst kY hnm hcs;(try clear hq1);(try clear hq2);(try clear hq3);(try clear hq0);(try clear kX);(try clear hq4);(try clear iq);(try clear iD);(try clear iE);simp_all [pE]
  intro uR a H
  try have Mf:=dF uR
  refine kH H (aS uR rfl (PF lV uR rfl (YM lV rfl (aZ rfl rfl (PF lV rfl rfl (Pf lV rfl ?_))))));clear H;intro a H;refine N9 (_) _ _ ?_ (by exact H.sub ⟨rfl,rfl,rfl,rfl,aB⟩);rw [show zC x=(Fj || st) by rw [kY,hst];rfl];clear hst kY hnm hcs;(try clear hq1);(try clear hq2);(try clear hq3);(try clear hq0);(try clear kX);(try clear hq4);(try clear iq);(try clear iD);(try clear iE);simp_all [pE]
 clear H;intro q3 a w hI H;dsimp only [lca,aO] at H;simp only [mX,jW];have hq3:=hI;refine nE (ι:=Bool) (Tc:=[(1,_),(4,_),(5,_)]) 11 (fun (q4:Bool)=>[(108,.bool q4)]) (fun (q4:Bool)=>q4=(q3 || decide (x.kind≠6) && decide (0 < (x.flow.length:Int)))) (by exact H.sub ⟨rfl,rfl,rfl,aB⟩) ?_ ?_
 ·intro SV;refine kH H (Rm rfl (Sp 98 rfl ?_ ?_)) <;> clear H
  ·intro nW a H
   try have Mh:=dT nW
   refine kH H (aS nW rfl (aS nW rfl (Ku rfl (Ku rfl (Ku rfl (Ku rfl (Ks nW rfl (Pt nW rfl ?_))))))));clear H;intro a H;refine SV (_) _ _ ?_ (by exact H.sub ⟨rfl,rfl,rfl,rfl,aB⟩);clear hst kY hnm hcs;(try clear hq1);(try clear hq2);(try clear hq3);(try clear hq0);(try clear kX);(try clear hq4);(try clear iq);(try clear iD);(try clear iE);simp_all
  intro nW a H
  try have Mh:=dF nW
  refine kH H (YF gJ nW rfl (YO aD 0 nW rfl (YC nW rfl (YM nW rfl (Sp 102 rfl ?_ ?_))))) <;> clear H
  ·intro AV a H
   try have alE:=dT AV
   refine kH H (YF Ca AV rfl (YO jJ 0 AV rfl (YL kr AV rfl (YC AV rfl (PT nW AV rfl (Pf nW rfl ?_))))));clear H;intro a H;refine SV (_) _ _ ?_ (by exact H.sub ⟨rfl,rfl,rfl,rfl,aB⟩);clear hst kY hnm hcs;(try clear hq1);(try clear hq2);(try clear hq3);(try clear hq0);(try clear kX);(try clear hq4);(try clear iq);(try clear iD);(try clear iE);simp_all
  intro AV a H
  try have alE:=dF AV
  refine kH H (aS AV rfl (aS AV rfl (PF nW AV rfl (Pf nW rfl ?_))));clear H;intro a H;refine SV (_) _ _ ?_ (by exact H.sub ⟨rfl,rfl,rfl,rfl,aB⟩);clear hst kY hnm hcs;(try clear hq1);(try clear hq2);(try clear hq3);(try clear hq0);(try clear kX);(try clear hq4);(try clear iq);(try clear iD);(try clear iE);simp_all
 clear H;intro q4 a w hI H;dsimp only [lca,aO] at H;simp only [mX,jW];have hq4:=hI;refine nE (ι:=Bool) (Tc:=[(1,_),(4,_),(5,_)]) 11 (fun (q5:Bool)=>[(119,.bool q5)]) (fun (q5:Bool)=>q5=vZ x) (by exact H.sub ⟨rfl,rfl,rfl,aB⟩) ?_ ?_
 ·intro SX;refine kH H (Rm rfl (Sp 109 rfl ?_ ?_)) <;> clear H
  ·intro mZ a H
   try have Vj:=dT mZ
   refine kH H (aS mZ rfl (aS mZ rfl (Ku rfl (Ku rfl (Ku rfl (Ku rfl (Ks mZ rfl (Pt mZ rfl ?_))))))));clear H;intro a H;refine SX (_) _ _ ?_ (by exact H.sub ⟨rfl,rfl,rfl,rfl,aB⟩);rw [show vZ x=(q4 || decide (x.kind≠7) && decide (0 < (x.rows.length:Int))) by rw [hq4,hq3,hq2,hq1];rfl];clear hst kY hnm hcs;(try clear hq1);(try clear hq2);(try clear hq3);(try clear hq0);(try clear kX);(try clear hq4);(try clear iq);(try clear iD);(try clear iE);simp_all
  intro mZ a H
  try have Vj:=dF mZ
  refine kH H (YF gJ mZ rfl (YO aD 0 mZ rfl (YC mZ rfl (YM mZ rfl (Sp 113 rfl ?_ ?_))))) <;> clear H
  ·intro qI a H
   try have ET:=dT qI
   refine kH H (YF uP qI rfl (YO vD 0 qI rfl (YL ku qI rfl (YC qI rfl (PT mZ qI rfl (Pf mZ rfl ?_))))));clear H;intro a H;refine SX (_) _ _ ?_ (by exact H.sub ⟨rfl,rfl,rfl,rfl,aB⟩);rw [show vZ x=(q4 || decide (x.kind≠7) && decide (0 < (x.rows.length:Int))) by rw [hq4,hq3,hq2,hq1];rfl];clear hst kY hnm hcs;(try clear hq1);(try clear hq2);(try clear hq3);(try clear hq0);(try clear kX);(try clear hq4);(try clear iq);(try clear iD);(try clear iE);simp_all
  intro qI a H
  try have ET:=dF qI
  refine kH H (aS qI rfl (aS qI rfl (PF mZ qI rfl (Pf mZ rfl ?_))));clear H;intro a H;refine SX (_) _ _ ?_ (by exact H.sub ⟨rfl,rfl,rfl,rfl,aB⟩);rw [show vZ x=(q4 || decide (x.kind≠7) && decide (0 < (x.rows.length:Int))) by rw [hq4,hq3,hq2,hq1];rfl];clear hst kY hnm hcs;(try clear hq1);(try clear hq2);(try clear hq3);(try clear hq0);(try clear kX);(try clear hq4);(try clear iq);(try clear iD);(try clear iE);simp_all
 clear H;intro q5 a w hI H;dsimp only [lca,aO] at H;simp only [mX,jW];have iq:=hI;refine kH H (ak bM rfl (Cd rfl ?_ ?_)) <;> clear H bM
 ·intro h68 a H
  refine aN (fun _ bN=>?_)
  have e:jw x=15:=by unfold jw;rw [ah f0,au (by rw [← iq];exact h68)]
  exact kP H (SC (aM bN rfl (LR results52 rfl fun H=>H.rt ⟨by rw [e],rfl⟩)))
 intro h68 a H
 try have p68:=dF h68
 have f1:¬ vZ x=true:=by rw [← iq,h68];decide
 refine kP H (SR fun _ bW=>aT uO gW 0 rfl rfl ?_);clear H;intro a H;refine s_call Eu H wn rfl (Fh _ _ H.ro x.text hs) rfl ?_;clear H;rintro aqC _ a w ⟨rfl,rfl⟩ - H;refine kH H (Rn rfl (ak bW rfl (Cd rfl ?_ ?_))) <;> clear H bW
 ·intro mM a H
  refine aN (fun _ cK=>?_)
  have e:jw x=12:=by unfold jw;rw [ah f0,ah f1,au (by simpa using mM)]
  exact kP H (SC (aM cK rfl (LR results52 rfl fun H=>H.rt ⟨by rw [e],rfl⟩)))
 intro mM a H
 try have EU:=dF mM
 have f2:¬ qB x.text=false:=by simpa using mM
 refine dh (fun _ bS=>?_);refine nE (ι:=Bool) (Tc:=[(1,_),(4,_)]) 6 (fun (q6:Bool)=>[(131,.bool q6)]) (fun (q6:Bool)=>q6=(decide (x.kind=1∨x.kind=5) && pE x.text)) (by exact H.sub ⟨rfl,rfl,aB⟩) ?_ ?_
 ·intro Le;refine kH H (Rm rfl (Rm rfl (Sp 127 rfl ?_ ?_))) <;> clear H
  ·intro h127 a H
   try have abl:=dT h127
   refine kH H (YF uO h127 rfl (YO gW 0 h127 rfl ?_));clear H;intro a H;refine Ia H (wg H rfl rfl h127) rfl rfl rfl ?_;clear H;intro a H;refine kH H (Pt h127 rfl ?_);clear H;intro a H;refine Le (_) _ _ ?_ (by exact H.sub ⟨rfl,rfl,rfl,aB⟩);rw [← kY];clear hst kY hnm hcs;(try clear hq1);(try clear hq2);(try clear hq3);(try clear hq0);(try clear kX);(try clear hq4);(try clear iq);(try clear iD);(try clear iE);simp_all [pE]
  intro h127 a H
  try have abl:=dF h127
  refine kH H (aZ h127 rfl (Pf h127 rfl ?_));clear H;intro a H;refine Le (_) _ _ ?_ (by exact H.sub ⟨rfl,rfl,rfl,aB⟩);rw [← kY];clear hst kY hnm hcs;(try clear hq1);(try clear hq2);(try clear hq3);(try clear hq0);(try clear kX);(try clear hq4);(try clear iq);(try clear iD);(try clear iE);simp_all [pE]
 clear H;intro q6 a w hI H;dsimp only [lca,aO] at H;simp only [mX,jW];have iD:=hI;refine kH H (ak bS rfl (Cd rfl ?_ ?_)) <;> clear H bS
 ·intro xC a H
  refine aN (fun _ dD=>?_)
  have e:jw x=11:=by unfold jw;rw [ah f0,ah f1,ah f2,au (by rw [← iD];exact xC)]
  exact kP H (SC (aM dD rfl (LR results52 rfl fun H=>H.rt ⟨by rw [e],rfl⟩)))
 intro xC a H
 try have abk:=dF xC
 have f3:¬ (decide (x.kind=1∨x.kind=5) && pE x.text)=true:=by rw [← iD,xC];decide
 refine dh (fun _ dO=>?_);refine nE (ι:=Bool) (Tc:=[(1,_),(4,_)]) 9 (fun (q7:Bool)=>[(141,.bool q7)]) (fun (q7:Bool)=>q7=(decide (x.kind=5) && decide (1024 < (x.text.size:Int)))) (by exact H.sub ⟨rfl,rfl,aB⟩) ?_ ?_
 ·intro Zq;refine kH H (aT gJ aD 0 rfl rfl (Rc rfl (Rm rfl (Sp 136 rfl ?_ ?_)))) <;> clear H
  ·intro qg a H
   try have Vm:=dT qg
   refine kH H (YF uO qg rfl (YO gW 0 qg rfl ?_));clear H;intro a H;refine Bu iB H (wg H rfl rfl qg) rfl rfl ?_;clear H;intro a H;refine kH H (YC qg rfl (Pt qg rfl ?_));clear H;intro a H;refine Zq (_) _ _ ?_ (by exact H.sub ⟨rfl,rfl,rfl,aB⟩);clear hst kY hnm hcs;(try clear hq1);(try clear hq2);(try clear hq3);(try clear hq0);(try clear kX);(try clear hq4);(try clear iq);(try clear iD);(try clear iE);simp_all
  intro qg a H
  try have Vm:=dF qg
  refine kH H (aS qg rfl (aS qg rfl (Pf qg rfl ?_)));clear H;intro a H;refine Zq (_) _ _ ?_ (by exact H.sub ⟨rfl,rfl,rfl,aB⟩);clear hst kY hnm hcs;(try clear hq1);(try clear hq2);(try clear hq3);(try clear hq0);(try clear kX);(try clear hq4);(try clear iq);(try clear iD);(try clear iE);simp_all
 clear H;intro q7 a w hI H;dsimp only [lca,aO] at H;simp only [mX,jW];have iE:=hI;refine kH H (ak dO rfl (Cd rfl ?_ ?_)) <;> clear H dO
 ·intro Dm a H
  refine aN (fun _ dK=>?_)
  have e:jw x=10:=by unfold jw;rw [ah f0,ah f1,ah f2,ah f3,au (by rw [← iE];exact Dm)]
  exact kP H (SC (aM dK rfl (LR results52 rfl fun H=>H.rt ⟨by rw [e],rfl⟩)))
 intro Dm a H
 try have alG:=dF Dm
 have f4:¬ (decide (x.kind=5) && decide (1024 < (x.text.size:Int)))=true:=by rw [← iE,Dm];decide
 refine dh (fun _ dS=>?_);refine nE (ι:=Bool) (Tc:=[]) 7 (fun (q8:Bool)=>[(149,.bool q8)]) (fun (q8:Bool)=>q8=(Ad x && !oG x.text)) (by exact H.sub trivial) ?_ ?_
 ·intro Zt;refine kH H (Rm rfl (Rm rfl (Sp 144 rfl ?_ ?_))) <;> clear H
  ·intro wo a H
   try have Vo:=dT wo
   refine kH H (YF uO wo rfl (YO gW 0 wo rfl ?_));clear H;intro a H;refine s_call KD H (wg H rfl rfl wo) rfl (Kt _ _ H.ro x.text hs) rfl ?_;clear H;rintro aqJ _ a w ⟨rfl,rfl⟩ - H;refine kH H (YN wo rfl (Pt wo rfl ?_));clear H;intro a H;refine Zt (_) _ _ ?_ (by exact H.sub ⟨rfl,aB⟩);rw [← hst];clear hst kY hnm hcs;(try clear hq1);(try clear hq2);(try clear hq3);(try clear hq0);(try clear kX);(try clear hq4);(try clear iq);(try clear iD);(try clear iE);simp_all
  intro wo a H
  try have Vo:=dF wo
  refine kH H (aS wo rfl (aS wo rfl (Pf wo rfl ?_)));clear H;intro a H;refine Zt (_) _ _ ?_ (by exact H.sub ⟨rfl,aB⟩);rw [← hst];clear hst kY hnm hcs;(try clear hq1);(try clear hq2);(try clear hq3);(try clear hq0);(try clear kX);(try clear hq4);(try clear iq);(try clear iD);(try clear iE);simp_all
 clear H;intro q8 a w hI H;dsimp only [lca,aO] at H;simp only [mX,jW];have hq8:=hI;refine kH H (ak dS rfl (Cd rfl ?_ ?_)) <;> clear H dS
 ·intro Sm a H
  refine aN (fun _ eP=>?_)
  have e:jw x=13:=by unfold jw;rw [ah f0,ah f1,ah f2,ah f3,ah f4,au (by rw [← hq8];exact Sm)]
  exact kP H (SC (aM eP rfl (LR results52 rfl fun H=>H.rt ⟨by rw [e],rfl⟩)))
 intro Sm a H
 refine fF ?_;refine aV _ _ ?_;clear aV;refine aN (fun _ gG=>?_)
 have e:jw x=0:=by unfold jw;rw [ah f0,ah f1,ah f2,ah f3,ah f4,ah (by rw [← hq8,Sm];decide)]
 exact kP H (SC (aM gG rfl (LR results52 rfl fun H=>H.rt ⟨by rw [e],rfl⟩)))
end
section
open Go.RowKit
theorem NA:∀ args w,(callFunc 43 args).run prog w=.ok (.enter 43 args) w:=enters func43 rfl (by kernel_rfl)
theorem YP:∀ args w,(callFunc 54 args).run prog w=.ok (.enter 54 args) w:=enters func54 rfl (by kernel_rfl)
theorem Ny:∀ args w,(callFunc 16 args).run prog w=.ok (.enter 16 args) w:=enters func16 rfl (by kernel_rfl)
variable {us:List Int} {uo:aj}
abbrev Xz (uo:aj) (D:jT) (b:Nat) (L0:OL) (r:CR):aj→OL→Prop:=fun u L'=>∃ v' L1 s',u=vi r.1∧L'=iP uo D b v' s'.n :: L1∧vG v' s'.aU L1 L0∧(r.1=0→s'=r.2)
def MQ (us:List Int) (uo:aj) (m:Nat):Prop:=∀ (G:GH) (L L0:OL) (w0:World) (D:jT) (st:List bL) (li:List dM) (rv:List dU) (b:Nat) (v:aj) (s:CS) (l:List ay) (u:aj) (body note:Bool) (t:Int),
 Au us uo G D st li rv→Eh st li rv→vG v s.aU L L0→ji G (iP uo D b v s.n :: L) w0→aC G (.sl 11 (l.map ay.dat)) u→bq l < m→0≤t→t≤4→0≤s.n→s.n+(bq l:Nat)≤1099511627776→s.aU.length+bq l < 1099511627776 →
 Calls prog 16 #[(aQ b 0),u,.bool body,.bool note,vi t] w0 (iM w0 G (iP uo D b v s.n :: L) fun u G' L'=>G=G'∧Xz uo D b L0 (fq (aK us st li rv) body note t l s) u L')
theorem OY (G:GH) (L:OL) (w0:World) (D:jT) (st:List bL) (li:List dM) (rv:List dU) (b:Nat) (v:aj) (n:Int) (hck:Au us uo G D st li rv) (hmz:Eh st li rv) (hO:ji G (iP uo D b v n :: L) w0)
  (e:Int) (h:jl) (p d l:aj) (hh:qC G h p d l) (hz:oV h≤4294967296) :
  Calls prog 43 #[(aQ b 0),vi e,EI h p d l] w0 (iM w0 G (iP uo D b v n :: L) fun u G' L'=>G=G'∧L'=iP uo D b v n :: L∧u=vi (fK (aK us st li rv) e h)):=by
 have hm:=GH.FT G (o:=(iP uo D b v n).2) (hO.sep _ jB);exact (akX (G.add b (iP uo D b v n).2) w0 hO.add D st li rv b v n (hck.mono hm) hmz (GH.FU _ _ _) e h p d l (hh.mono hm) hz).mono fun _ _=>VD (b:=b) (o:=(iP uo D b v n).2) (R':=fun u=>u=vi (fK (aK us st li rv) e h)) hO fun _ _ h=>h
theorem amx {C:dL} {h:jl} {n:Nat} (e:fK C 9 h≠0):rV C h n=fK C 9 h:=by simp [rV,bK,e]
theorem amy {C:dL} {h:jl} {n:Nat} (e:fK C 9 h=0) (h0:n=0):rV C h n=11:=by simp [rV,bK,e,h0,bE]
theorem amA {C:dL} {h:jl} {n:Nat} (e:fK C 9 h=0) (h0:n≠0) (h1:32 < n):rV C h n=9:=by
 have h2:¬ (n:Int)=0:=by omega
 have h3:(32:Int) < n:=by omega
 simp only [rV,bK,e,bE,gY h2,dQ h3];decide
theorem amB {C:dL} {h:jl} {n:Nat} (e:fK C 9 h=0) (h0:n≠0) (h1:¬ 32 < n):rV C h n=0:=by
 have h2:¬ (n:Int)=0:=by omega
 have h3:¬ (32:Int) < n:=by omega
 simp only [rV,bK,e,bE,gY h2,gY h3];decide
set_option maxHeartbeats 4000000 in
theorem ala {m:Nat} (ih:MQ us uo m) (hm:m≤4294967296) (G:GH) (L L0:OL) (w0:World) (D:jT) (st:List bL) (li:List dM) (rv:List dU) (b:Nat) (v:aj) (s:CS) (l:List bH) (u:aj) (note:Bool) (t:Int)
  (hck:Au us uo G D st li rv) (hmz:Eh st li rv) (hi:vG v s.aU L L0) (hO:ji G (iP uo D b v s.n :: L) w0) (hv:aC G (.sl 6 (l.map bH.dat)) u) (hz:eD l < m) (ht0:0≤t) (Bh:t≤4) (hs0:0≤s.n) (hs1:s.n+(eD l:Nat)≤1099511627776) (hs2:s.aU.length+eD l < 1099511627776) :
  Calls prog 55 #[(aQ b 0),u,.bool note,vi t] w0 (iM w0 G (iP uo D b v s.n :: L) fun u G' L'=>G=G'∧Xz uo D b L0 (jS l.length (fun s=>fH (aK us st li rv) note t l s) s) u L'):=by
 obtain ⟨A,c,rfl,hc1,hc2,hg⟩:=hv.slice;rw [bQ] at *;have hll:=Fv l;obtain ⟨R,hR⟩:∃ R,R=jS l.length (fun s=>fH (aK us st li rv) note t l s) s:=⟨_,rfl⟩;rw [← hR];refine lq (N:=97) (T:=[(0,_),(1,_),(2,_),(3,_)]) func55 rfl ntmps55 rfl rfl hO ?_;intro a H;refine kP H (SR fun _ K1=>ak K1 rfl (SQ fun _ K2=>SB (SR fun _ K3=>Rm rfl (Rl ku rfl (Rc rfl (ak K3 rfl (Cd rfl ?_ ?_))))))) <;> clear H K1 K3
 ·intro h16 a H
  try have p16:=dT h16
  refine aN (fun _ K4=>?_)
  have hF:R.1=11:=by rw [hR,jS,au (by omega)]
  exact kP H (SC (aM K4 rfl (LR results55 rfl fun H=>H.hp.bR (L':=iP uo D b v s.n :: L) (by repeat (first|exact bZ _|apply List.Sublist.cons)) ⟨rfl,v,L,s,av vi hF.symm,rfl,hi,fun h=>absurd (hF.symm.trans h) (by decide)⟩)))
 intro h16 a H
 try have p16:=dF h16
 refine kP H (SR fun _ K5=>Rm rfl (Rl ku rfl (Rc rfl (ak K5 rfl (Cd rfl ?_ ?_))))) <;> clear H K5
 ·intro h20 a H
  try have qw:=dT h20
  refine aN (fun _ K6=>?_)
  have hF:R.1=9:=by rw [hR,jS,ah (by omega),au (by omega)]
  exact kP H (SC (aM K6 rfl (LR results55 rfl fun H=>H.hp.bR (L':=iP uo D b v s.n :: L) (by repeat (first|exact bZ _|apply List.Sublist.cons)) ⟨rfl,v,L,s,av vi hF.symm,rfl,hi,fun h=>absurd (hF.symm.trans h) (by decide)⟩)))
 intro h20 a H
 try have qw:=dF h20
 rw [jS,ah (by omega),ah (by omega)] at hR;refine kP H (Kc K2 (SQ fun _ K7=>SR fun _ K8=>ak K8 rfl (SB ?_)));clear H K2 K8;intro a H;skip;refine eT (ι:=Nat × CS × aj × OL) (Tc:=[(0,_),(1,_),(2,_),(3,_)]) (Lc:=[]) (fun gh=>[(9,vi gh.1)]) (fun gh=>[iP uo D b gh.2.2.1 gh.2.1.n]++gh.2.2.2) (fun gh=>G) (fun gh=>gh.1≤l.length∧fH (aK us st li rv) note t (l.drop gh.1) gh.2.1=R∧vG gh.2.2.1 gh.2.1.aU gh.2.2.2 L0∧0≤gh.2.1.n∧gh.2.1.n+(eD (l.drop gh.1):Nat)≤1099511627776∧gh.2.1.aU.length+eD (l.drop gh.1) < 1099511627776) (fun gh=>l.length - gh.1) ((0,s,v,L)) (by exact (H).sub ⟨rfl,rfl,rfl,rfl,rfl,aB⟩) ?_ ?_
 ·exact ⟨gX _,hR.symm,hi,hs0,hs1,hs2⟩
 clear H;rintro ⟨k,s1,v1,L1⟩ a w hI H;dsimp only at hI H;obtain ⟨hk,hX,hv1,hn0,hn1,hn2⟩:=hI;dsimp only [lca,aO] at H;refine kP H (SQ fun _ K9=>SR fun _ aV=>Rm rfl (Rm rfl (Rl ku rfl (Rc rfl (Kz aV (Cd rfl ?_ ?_)))))) <;> clear H aV
 ·intro h27 a H
  try have p27:=dT h27
  have hk2:k < l.length:=by omega
  obtain ⟨o,xo,pA,pn,pc,dA,dn,dc,yA,yn,yc,cA,cn,cc,rfl,hrow,hhd,hcl⟩:=E5 hk2 hg;have hcn:=hcl.len;rw [bQ] at hcn;subst hcn;obtain ⟨_,cc',hce,aiA,apO,hcg⟩:=hcl.slice
  injection hce with e1 e2 e3
  subst e1;subst e3;rw [bQ] at aiA;have hzs:=Wx hk2;have hzi:=uD l[k];have He:=ado (jv hk2);have aiD:=Fq l[k].cells;rw [amC hk2,H8] at hX
  have rh:∀ (j:Nat) (u:aj),[.slice pA pn pc,vi l[k].head.marks.ins,vi l[k].head.marks.move,.slice dA dn dc,.slice yA yn yc][j]?=some u→aG G o (xo+k*6+0+j)=some u:=by
   intro j u hj;refine hrow j u ?_
   match j,hj with
   | 0,hj=>exact hj
   | 1,hj=>exact hj
   | 2,hj=>exact hj
   | 3,hj=>exact hj
   | 4,hj=>exact hj
   | n+5,hj=>simp at hj
  have rc:aG G o (xo+k*6+5)=some (.slice cA l[k].cells.length cc):=hrow 5 _ rfl
  have hEr:∀ e,e≠0→rV (aK us st li rv) l[k].head l[k].cells.length=e→R.1=e:=fun e h1 h2=>by
   rw [← hX,tq (r:=(rV (aK us st li rv) l[k].head l[k].cells.length,s1)) (by dsimp only;rw [h2];exact h1)];rw [tq (by dsimp only;rw [h2];exact h1)];exact h2
  refine kP H (Kc K9 (SQ fun _ bF=>SB (SQ fun _ bG=>SR fun _ bM=>Rm rfl (Rm rfl (Rm rfl (Ri ku kQ rfl rfl (Rf KF rfl ?_)))))));clear H K9;intro a H;refine bP vC (cs:=[.slice pA pn pc,vi l[k].head.marks.ins,vi l[k].head.marks.move,.slice dA dn dc,.slice yA yn yc]) H wn rfl rfl (fun j v hj=>H.hp.aG (rh j v hj)) rfl ?_;clear H;intro a H;refine gP NA (Li:=[]) (L:=iP uo D b v1 s1.n :: L1) H wn rfl (OY _ _ _ D st li rv b v1 s1.n hck hmz (Hp.owns (Li:=[]) H.hp) 9 l[k].head _ _ _ hhd (by omega)) rfl ?_;clear H;rintro v36 _ _ a w ⟨rfl,rfl,rfl⟩ - H;dsimp only [List.nil_append] at H;refine kH H (ak bM rfl (SR fun _ bN=>Rm rfl (Rc rfl (Kz bN (Cd rfl ?_ ?_))))) <;> clear H bM bN
  ·intro Sw a H
   try have p38:=dT Sw
   refine aN (fun _ bW=>?_);have hF:=hEr _ p38 (amx p38);exact kP H (SC (Rm rfl (aM bW rfl (LR results55 rfl fun H=>H.hp.bR (L':=iP uo D b v1 s1.n :: L1) (by repeat (first|exact bZ _|apply List.Sublist.cons)) ⟨rfl,v1,L1,s1,av vi hF.symm,rfl,hv1,fun h=>absurd (hF.symm.trans h) p38⟩))))
  intro Sw a H
  try have p38:=dF Sw
  have e1:fK (aK us st li rv) 9 l[k].head=0:=gu.1 p38;refine kP H (Kc bG (SQ fun _ cK=>SB (SR fun _ bS=>Rm rfl (Rm rfl (Ri ku kQ rfl rfl (Rf ru rfl (Rg rY rfl rc (Rl mE rfl (Rc rfl (ak bS rfl (Cd rfl ?_ ?_))))))))))) <;> clear H bG bS
  ·intro qj a H
   try have p40:=dT qj
   refine aN (fun _ dD=>?_);have hF:=hEr 11 (by decide) (amy e1 (by omega));exact kP H (SC (aM dD rfl (LR results55 rfl fun H=>H.hp.bR (L':=iP uo D b v1 s1.n :: L1) (by repeat (first|exact bZ _|apply List.Sublist.cons)) ⟨rfl,v1,L1,s1,av vi hF.symm,rfl,hv1,fun h=>absurd (hF.symm.trans h) (by decide)⟩)))
  intro qj a H
  try have p40:=dF qj
  refine kP H (SR fun _ dO=>Rm rfl (Rm rfl (Ri ku kQ rfl rfl (Rf ru rfl (Rg rY rfl rc (Rl mE rfl (Rc rfl (ak dO rfl (Cd rfl ?_ ?_))))))))) <;> clear H dO
  ·intro h48 a H
   try have p48:=dT h48
   refine aN (fun _ dK=>?_);have hF:=hEr 9 (by decide) (amA e1 (by omega) (by omega));exact kP H (SC (aM dK rfl (LR results55 rfl fun H=>H.hp.bR (L':=iP uo D b v1 s1.n :: L1) (by repeat (first|exact bZ _|apply List.Sublist.cons)) ⟨rfl,v1,L1,s1,av vi hF.symm,rfl,hv1,fun h=>absurd (hF.symm.trans h) (by decide)⟩)))
  intro h48 a H
  try have p48:=dF h48
  rw [sj (r:=(rV (aK us st li rv) l[k].head l[k].cells.length,s1)) (amB e1 (by omega) (by omega))] at hX;dsimp only at hX;refine kP H (Kc cK (SR fun _ dS=>ak dS rfl (SB ?_)));clear H cK dS;intro a H;skip;refine eT (ι:=Nat × CS × aj × OL) (Tc:=[(0,_),(1,_),(2,_),(3,_),(9,_)]) (Lc:=[]) (fun gh=>[(11,vi gh.1)]) (fun gh=>[iP uo D b gh.2.2.1 gh.2.1.n]++gh.2.2.2) (fun gh=>G) (fun gh=>gh.1≤l[k].cells.length∧kE (aK us st li rv) note t (l[k].cells.drop gh.1) gh.2.1=kE (aK us st li rv) note t l[k].cells s1∧vG gh.2.2.1 gh.2.1.aU gh.2.2.2 L0∧0≤gh.2.1.n∧gh.2.1.n+(iw (l[k].cells.drop gh.1):Nat)≤s1.n+(iw l[k].cells:Nat)∧gh.2.1.aU.length+iw (l[k].cells.drop gh.1)≤s1.aU.length+iw l[k].cells) (fun gh=>l[k].cells.length - gh.1) ((0,s1,v1,L1)) (by exact (H).sub ⟨rfl,rfl,rfl,rfl,rfl,rfl,aB⟩) ?_ ?_
  ·exact ⟨gX _,rfl,hv1,hn0,Int.le_refl _,dw _⟩
  clear H;rintro ⟨j,s2,v2,L2⟩ a w hI H;dsimp only at hI H;obtain ⟨hj,hY,hv2,hm0,hm1,hm2⟩:=hI;dsimp only [lca,aO] at H;refine kP H (SQ fun _ eP=>SR fun _ gG=>Rm rfl (Rm rfl (Rm rfl (Ri ku kQ rfl rfl (Rf ru rfl (Rg rY rfl rc (Rl mE rfl (Rc rfl (Kz gG (Cd rfl ?_ ?_)))))))))) <;> clear H gG
  ·intro h63 a H
   try have p63:=dT h63
   have hj2:j < l[k].cells.length:=by omega
   obtain ⟨o2,xo2,pA2,pn2,pc2,Yh,Yp,Yk,yA2,yn2,yc2,fA2,fn2,fc2,rfl,hrow2,LB,TQ⟩:=C8 hj2 hcg;have akj:=Wu hj2;have aki:=uz l[k].cells[j];have aqe:=adi (jv hj2);rw [aem hj2,zL] at hY
   have oo:∀ e s9,e≠0→cellC (aK us st li rv) note t l[k].cells[j] s2=(e,s9)→R.1=e:=fun e s9 h1 h2=>by
    rw [zL] at h2;rw [h2,tq (by exact h1)] at hY;rw [← hX,← hY,tq (by exact h1)]
   refine kP H (Kc eP (SQ fun _ gT=>SB (SR fun _ gM=>Rm rfl (Rm rfl (Ri ku kQ rfl rfl (Rf ru rfl (Rg rY rfl rc (Rm rfl (Ri mE kg rfl rfl ?_)))))))));clear H eP;intro a H;refine bP kg (cs:=[vi l[k].cells[j].id,.slice pA2 pn2 pc2,vi l[k].cells[j].head.marks.ins,vi l[k].cells[j].head.marks.move,.slice Yh Yp Yk,.slice yA2 yn2 yc2,.slice fA2 fn2 fc2]) H wn rfl rfl (fun j v hj=>H.hp.aG (hrow2 j v hj)) rfl ?_;clear H;intro a H;refine eH kg H wn rfl ?_;clear H;intro b12 a w EH H;refine bT kg 0 (vs:=[_,_,_,_,_,_,_]) _ H wn rfl rfl rfl rfl rfl rfl rfl rfl ?_;clear H;intro w H;dsimp only [List.set,setRow] at H;refine gM _ _ ?_;clear gM;refine kP H (SQ fun _ jf=>SR fun _ jq=>Rm rfl (aT Dc aD 0 rfl rfl ?_));clear H;intro a H;refine gP YP (Li:=[_]) (L:=iP uo D b v2 s2.n :: L2) H wn rfl (aaV (aK us st li rv) _ _ L0 _ D b v2 s2 l[k].cells[j].id hv2 (Hp.owns (Li:=[_]) H.hp) hck.Vg (by omega)) rfl ?_;clear H;rintro v77 _ _ a w ⟨rfl,v3,L3,rfl,rfl,hv3⟩ - H;dsimp only [lca,aO] at H;refine kH H (ak jq rfl (SR fun _ iQ=>Rm rfl (Rc rfl (Kz iQ (Cd rfl ?_ ?_))))) <;> clear H jq iQ
   ·intro iH a H
    try have mq:=dT iH
    refine aN (fun _ kT=>?_);have hF:=oo (iK (aK us st li rv) s2 l[k].cells[j].id).1 _ mq (by rw [zL,tq mq]);exact kP H (SC (Rm rfl (aM kT rfl (LR results55 rfl fun H=>H.hp.bR (L':=iP uo D b v3 s2.n :: L3) (by repeat (first|exact bZ _|apply List.Sublist.cons)) ⟨rfl,v3,L3,⟨s2.n,(iK (aK us st li rv) s2 l[k].cells[j].id).2.aU⟩,av vi hF.symm,rfl,hv3,fun h=>absurd (hF.symm.trans h) mq⟩))))
   intro iH a H
   try have mq:=dF iH
   have Nu:(iK (aK us st li rv) s2 l[k].cells[j].id).1=0:=gu.1 mq;have hub:=PU (aK us st li rv) s2 l[k].cells[j].id
   unfold kM at hub
   obtain ⟨s3,hs3⟩:∃ s3,s3=(iK (aK us st li rv) s2 l[k].cells[j].id).2:=⟨_,rfl⟩
   have Jp:s3.n=s2.n:=by rw [hs3];rfl
   rw [← hs3] at hv3 hub;rw [← Jp] at H;refine kP H (Kc jf (SQ fun _ kU=>SR fun _ jG=>Rm rfl (Rf Rw rfl ?_)));clear H jf;intro a H;refine bP vC (cs:=[.slice pA2 pn2 pc2,vi l[k].cells[j].head.marks.ins,vi l[k].cells[j].head.marks.move,.slice Yh Yp Yk,.slice yA2 yn2 yc2]) H wn rfl rfl (H.hp.gB 0 rfl rfl) rfl ?_;clear H;intro a H;refine gP NA (Li:=[_]) (L:=iP uo D b v3 s3.n :: L3) H wn rfl (OY _ _ _ D st li rv b v3 s3.n hck hmz (Hp.owns (Li:=[_]) H.hp) 10 l[k].cells[j].head _ _ _ LB (by omega)) rfl ?_;clear H;rintro v84 _ _ a w ⟨rfl,rfl,rfl⟩ - H;dsimp only [lca,aO] at H;refine kH H (ak jG rfl (SR fun _ kZ=>Rm rfl (Rc rfl (Kz kZ (Cd rfl ?_ ?_))))) <;> clear H jG kZ
   ·intro Sy a H
    try have Me:=dT Sy
    refine aN (fun _ lg=>?_);have hF:=oo (fK (aK us st li rv) 10 l[k].cells[j].head) s3 Me (by rw [zL,sj Nu,← hs3,tq (by exact Me)]);exact kP H (SC (Rm rfl (aM lg rfl (LR results55 rfl fun H=>H.hp.bR (L':=iP uo D b v3 s3.n :: L3) (by repeat (first|exact bZ _|apply List.Sublist.cons)) ⟨rfl,v3,L3,s3,av vi hF.symm,rfl,hv3,fun h=>absurd (hF.symm.trans h) Me⟩))))
   intro Sy a H
   try have Me:=dF Sy
   have e86:fK (aK us st li rv) 10 l[k].cells[j].head=0:=gu.1 Me;refine kP H (Kc kU (SR fun _ lK=>Rm rfl (aT Df jJ 0 rfl rfl (Rm rfl (Rm rfl ?_)))));clear H kU;intro a H;refine gP Ny (Li:=[_]) (L:=iP uo D b v3 s3.n :: L3) H wn rfl (ih _ _ L0 _ D st li rv b v3 s3 l[k].cells[j].flow _ false note t hck hmz hv3 (Hp.owns (Li:=[_]) H.hp) TQ (by omega) ht0 Bh (by omega) (by omega) (by omega)) rfl ?_;clear H;rintro v93 _ _ a w ⟨rfl,v5,L5,s5,rfl,rfl,hv5,h5⟩ - H;dsimp only [lca,aO] at H
   have ZA:cellC (aK us st li rv) note t l[k].cells[j] s2=fq (aK us st li rv) false note t l[k].cells[j].flow s3:=by rw [zL,sj Nu,← hs3,sj (r:=(fK (aK us st li rv) 10 l[k].cells[j].head,s3)) e86]
   refine kH H (ak lK rfl (SR fun _ lM=>Rm rfl (Rc rfl (Kz lM (Cd rfl ?_ ?_))))) <;> clear H lK lM
   ·intro Gj a H
    try have DK:=dT Gj
    refine aN (fun _ lN=>?_);have hF:=oo _ _ DK ZA;exact kP H (SC (Rm rfl (aM lN rfl (LR results55 rfl fun H=>H.hp.bR (L':=iP uo D b v5 s5.n :: L5) (by repeat (first|exact bZ _|apply List.Sublist.cons)) ⟨rfl,v5,L5,s5,av vi hF.symm,rfl,hv5,fun h=>absurd (hF.symm.trans h) DK⟩))))
   intro Gj a H
   try have DK:=dF Gj
   have Yt:=gu.1 DK;have hs5:=h5 Yt
   have hcell:cellC (aK us st li rv) note t l[k].cells[j] s2=(0,s5):=by rw [ZA,hs5,← Yt]
   obtain ⟨z1,z2,z3⟩:=adX hcell
   have hC:kE (aK us st li rv) note t (l[k].cells.drop (j+1)) s5=kE (aK us st li rv) note t l[k].cells s1:=by
    rw [zL] at hcell;rw [hcell,sj rfl] at hY;exact hY
   refine kP H (Kc gT (SC (Rm rfl (Rd rfl (Ra rfl ?_)))));clear H gT;intro a H;refine aJ ?_;refine dH ((j+1,s5,v5,L5)) (by exact (H.dB (Pl:=[_,_]) (cB:=[_]) [1] (by decide) rfl).sub ⟨rfl,rfl,rfl,rfl,rfl,rfl,aB⟩) ?_ ?_
   ·(try dsimp only);exact ⟨by omega,hC,hv5,by omega,by omega,by omega⟩
   first|omega|(dsimp only;omega)
  intro h63 a H
  try have p63:=dF h63
  have hj3:l[k].cells.drop j=[]:=fI (by omega);rw [hj3,kE] at hY;rw [← hY,sj rfl] at hX;have hB:fH (aK us st li rv) note t (l.drop (k+1)) s2=fH (aK us st li rv) note t (l.drop (k+1)) s2:=rfl;rw [hj3] at hm1 hm2;have hz0:iw []=0:=rfl;refine dR ?_;refine bF _ _ ?_;clear bF;refine kP H (SC (Rm rfl (Rd rfl (Ra rfl ?_))));clear H;intro a H;refine aJ ?_;refine dH ((k+1,s2,v2,L2)) (by exact (H).sub ⟨rfl,rfl,rfl,rfl,rfl,aB⟩) ?_ ?_
  ·(try dsimp only);exact ⟨by omega,by rw [hB];exact hX,hv2,by omega,by omega,by omega⟩
  first|omega|(dsimp only;omega)
 intro h27 a H
 try have p27:=dF h27
 have hk3:l.drop k=[]:=fI (by omega);rw [hk3,fH] at hX;refine dR ?_;refine K7 _ _ ?_;clear K7;exact kP H (SR fun _ lY=>ak lY rfl (LR results55 rfl fun H=>H.hp.fO ⟨rfl,v1,L1,s1,av vi (by rw [← hX]),rfl,hv1,fun _=>by rw [← hX]⟩))
end
section
open Go.RowKit
theorem agI:∀ args w,(callFunc 55 args).run prog w=.ok (.enter 55 args) w:=enters func55 rfl (by kernel_rfl)
theorem agH:∀ args w,(callFunc 52 args).run prog w=.ok (.enter 52 args) w:=enters func52 rfl (by kernel_rfl)
theorem NM:dJ prog 56 3 13:=⟨by kernel_rfl⟩
variable {us:List Int} {uo:aj}
theorem amb {C:dL} {body note:Bool} {t k i:Int} {s:CS} {q:Bool} (hq:q=(decide (k=3) && !body || decide (k=6) && note)) (h:q=true):jo C body note t k i s=(19,s):=by
 subst hq
 unfold jo
 rcases Bool.or_eq_true_iff.1 h with h|h
 ·obtain ⟨h1,h2⟩:=Bool.and_eq_true_iff.1 h;rw [au (oD h1),h2];rfl
 obtain ⟨h1,h2⟩:=Bool.and_eq_true_iff.1 h;have h3:=oD h1;subst h3;rw [ah (by decide),au rfl,h2];rfl
theorem amd {C:dL} {body note:Bool} {t k i:Int} {s:CS} (h:¬ (decide (k=3) && !body || decide (k=6) && note)=true) (h7:k=7→¬ 4≤t) (h8:k=8→1≤i∧i≤1073741824):jo C body note t k i s=if k=6∨k=7 then iK C s i else (0,s):=by
 unfold jo
 by_cases k3:k=3
 ·subst k3;rw [au rfl,ah (by decide)]
  cases body
  ·exact absurd rfl h
  rfl
 rw [ah k3]
 by_cases k6:k=6
 ·subst k6;rw [au rfl,au (by decide)]
  cases note
  ·exact sj rfl
  exact absurd (by simp) h
 rw [ah k6]
 by_cases k7:k=7
 ·subst k7;rw [au rfl,au (by decide),show bE (decide (4≤t)) 17=0 by rw [bE,ah (by simpa using h7 rfl)]];exact sj rfl
 rw [ah k7,ah (show ¬ (k=6∨k=7) by omega)]
 by_cases k8:k=8
 ·rw [au k8,dQ (h8 k8)];rfl
 rw [ah k8]
theorem alZ {C:dL} {body note:Bool} {t i:Int} {s:CS} (h:4≤t):jo C body note t 7 i s=(17,s):=by
 unfold jo
 rw [ah (by decide),ah (by decide),au rfl,dQ h];rfl
theorem ama {C:dL} {body note:Bool} {t i:Int} {s:CS} (h:¬ (1≤i∧i≤1073741824)):jo C body note t 8 i s=(18,s):=by
 unfold jo
 rw [ah (by decide),ah (by decide),ah (by decide),au rfl,gY h];rfl
set_option maxHeartbeats 8000000 in
theorem akW {m:Nat} (ih:MQ us uo m) (hm:m≤4294967296):MQ us uo (m+1):=by
 intro G L L0 w0 D st li rv b v s l u body note t hck hmz hi hO hv hz ht0 Bh hs0 hs1 hs2;obtain ⟨A,c,rfl,hc1,hc2,hg⟩:=hv.slice;rw [bQ] at *;have hll:=Fu l;obtain ⟨R,hR⟩:∃ R,R=fq (aK us st li rv) body note t l s:=⟨_,rfl⟩;rw [← hR];refine lq (N:=139) (T:=[(0,_),(1,_),(2,_),(3,_),(4,_)]) func16 rfl ntmps16 rfl rfl hO ?_;intro a H;refine kP H (SR fun _ K1=>ak K1 rfl (SQ fun _ K2=>SR fun _ K3=>ak K3 rfl (SB ?_)));clear H K1 K3;intro a H;skip;refine eT (ι:=Nat × CS × aj × OL) (Tc:=[(0,_),(1,_),(2,_),(3,_),(4,_)]) (Lc:=[]) (fun gh=>[(11,vi gh.1)]) (fun gh=>[iP uo D b gh.2.2.1 gh.2.1.n]++gh.2.2.2) (fun gh=>G) (fun gh=>gh.1≤l.length∧fq (aK us st li rv) body note t (l.drop gh.1) gh.2.1=R∧vG gh.2.2.1 gh.2.1.aU gh.2.2.2 L0∧0≤gh.2.1.n∧gh.2.1.n+(bq (l.drop gh.1):Nat)≤1099511627776∧gh.2.1.aU.length+bq (l.drop gh.1) < 1099511627776) (fun gh=>l.length - gh.1) ((0,s,v,L)) (by exact (H).sub ⟨rfl,rfl,rfl,rfl,rfl,rfl,aB⟩) ?_ ?_
 ·exact ⟨gX _,hR.symm,hi,hs0,hs1,hs2⟩
 clear H;rintro ⟨k,s1,v1,L1⟩ a w hI H;dsimp only at hI H;obtain ⟨hk,hX,hv1,hn0,hn1,hn2⟩:=hI;dsimp only [lca,aO] at H;refine kP H (SQ fun _ K4=>SR fun _ K5=>Rm rfl (Rm rfl (Rl kr rfl (Rc rfl (Kz K5 (Cd rfl ?_ ?_)))))) <;> clear H K5
 ·intro h23 a H
  try have Cr:=dT h23
  have hk2:k < l.length:=by omega
  obtain ⟨o,xo,pA,pn,pc,dA,dn,dc,yA,yn,yc,fA,fn,fc,rA,rn,rc,rfl,hrow,hhd,hfl,hrw⟩:=Dl hk2 hg;have hfn:=hfl.len;rw [bQ] at hfn;subst hfn;have hrn:=hrw.len;rw [bQ] at hrn;subst hrn;have hzs:=Wv hk2;have hzi:=oW l[k];have He:=MJ (jv hk2);rw [akD hk2] at hX;obtain ⟨x,hx⟩:∃ x,x=l[k]:=⟨_,rfl⟩;rw [← hx] at hX hrow hhd hfl hrw hzs hzi He;have hcl:=Es x.text
  have UJ:gD x≤x.text.size+1:=by unfold gD;split <;> omega
  have oo:∀ e s9,e≠0→dY (aK us st li rv) body note t x s1=(e,s9)→R.1=e:=fun e s9 h1 h2=>by rw [← hX,h2,tq (by exact h1)]
  have hN:∀ {s9},dY (aK us st li rv) body note t x s1=(0,s9)→fq (aK us st li rv) body note t (l.drop (k+1)) s9=R:=fun {s9} h2=>by rw [h2,sj rfl] at hX;exact hX
  have iW:=LV (aK us st li rv) body note t x s1;refine kP H (Kc K4 (SQ fun _ K6=>SB (SR fun _ K7=>Rm rfl (Rm rfl (Ri kr fC rfl rfl ?_)))));clear H K4;intro a H;refine bP fC (cs:=[vi x.kind,vi x.code,vi x.id,.string x.text,.slice pA pn pc,vi x.head.marks.ins,vi x.head.marks.move,.slice dA dn dc,.slice yA yn yc,.slice fA x.flow.length fc,.slice rA x.rows.length rc]) H wn rfl rfl (fun j v hj=>H.hp.aG (hrow j v hj)) rfl ?_;clear H;intro a H;refine eH fC H wn rfl ?_;clear H;intro b12 a w EH H;refine bT fC 0 (vs:=[_,_,_,_,_,_,_,_,_,_,_]) _ H wn rfl rfl rfl rfl rfl rfl rfl rfl ?_;clear H;intro w H;dsimp only [List.set,setRow] at H;refine K7 _ _ ?_;clear K7;refine aN (fun _ K8=>?_);refine dh (fun _ K9=>?_);refine bP fC (cs:=[vi x.kind,vi x.code,vi x.id,.string x.text,.slice pA pn pc,vi x.head.marks.ins,vi x.head.marks.move,.slice dA dn dc,.slice yA yn yc,.slice fA x.flow.length fc,.slice rA x.rows.length rc]) H wn rfl rfl (H.hp.gB 0 rfl rfl) rfl ?_;clear H;intro a H;refine s_call agH H wn rfl (akZ _ _ H.ro x _ _ _ _ _ _ _ (by omega)) rfl ?_;clear H;rintro v31 _ a w ⟨rfl,rfl⟩ - H;refine kH H (ak K9 rfl (SR fun _ aV=>Rm rfl (Rc rfl (Kz aV (Cd rfl ?_ ?_))))) <;> clear H K9 aV
  ·intro oL a H
   try have p33:=dT oL
   refine aN (fun _ bF=>?_);have hF:=oo (jw x) s1 p33 (by rw [iW,tq (by exact p33)]);exact kP H (SC (Rm rfl (aM bF rfl (LR results16 rfl fun H=>H.hp.bR (L':=iP uo D b v1 s1.n :: L1) (by repeat (first|exact bZ _|apply List.Sublist.cons)) ⟨rfl,v1,L1,s1,av vi hF.symm,rfl,hv1,fun h=>absurd (hF.symm.trans h) p33⟩))))
  intro oL a H
  try have p33:=dF oL
  have e1:jw x=0:=gu.1 p33;rw [sj (r:=(jw x,s1)) e1] at iW;dsimp only at iW;refine kP H (Kc K8 (SR fun _ bG=>aT uO gW 0 rfl rfl ?_));clear H K8;intro a H;refine s_call NC H wn rfl (Nk _ _ H.ro x.text (by omega)) rfl ?_;clear H;rintro v38 _ a w ⟨rfl,rfl⟩ - H;refine kH H (Rm rfl ?_);clear H;intro a H;(iterate 2 refine nA H wn rfl rfl rfl ?_;clear H;intro a H);refine kH H (Ra rfl (ak bG rfl ?_));clear H bG;intro a H;refine oF (ι:=Int) (Tc:=[(0,_),(1,_),(2,_),(3,_),(4,_),(11,_),(12,_)]) (Lc:=[(_,_),(_,_)]) (fun gh=>[(14,vi gh)]) (fun gh=>[]++L1) (fun gh=>G) (fun gh=>gh=(gD x:Nat)) (by exact (H).sub ⟨rfl,rfl,rfl,rfl,rfl,rfl,rfl,aB⟩) ?_ ?_
  ·skip;refine kP H (SR fun _ bM=>aT gJ aD 0 rfl rfl (Rc rfl (Kz bM (Cd rfl ?_ ?_)))) <;> clear H bM
   ·intro h43 a H
    try have p43:=dT h43
    refine kP H (SC (Ra rfl ?_));clear H;intro a H;refine aJ ?_;refine ⟨_,by exact (H).sub ⟨rfl,rfl,rfl,rfl,rfl,rfl,rfl,rfl,aB⟩,?_⟩
    unfold gD;first|rw [au (by simpa using p43)]|(rw [ah (by simpa using p43)];rfl)
   intro h43 a H
   try have p43:=dF h43
   refine fF ?_;refine ⟨_,by exact (H).sub ⟨rfl,rfl,rfl,rfl,rfl,rfl,rfl,rfl,aB⟩,?_⟩
   unfold gD;first|rw [au (by simpa using p43)]|(rw [ah (by simpa using p43)];rfl)
  clear H;intro un a w hI H;have hun:=hI;dsimp only [lca,aO] at H;refine kP H (SR fun _ bN=>Rm rfl (Rm rfl (Rk rfl (aT NM aD 1 rfl rfl (Rm rfl (Rd rfl (Rk rfl (Rf NM rfl ?_))))))));clear H;intro a H;refine bT aD 1 (vs:=[_]) _ H wn rfl rfl rfl rfl rfl rfl rfl rfl ?_;clear H;intro w H;dsimp only [List.set,setRow] at H;refine bN _ _ ?_;clear bN;refine kP H (SQ fun _ bW=>SB (SQ fun _ cK=>?_));clear H;intro a H
  have hsn:s1.n+un=s1.n+(gD x:Nat):=by omega
  rw [hsn] at H;obtain ⟨s2,hs2⟩:∃ s2:CS,s2=⟨s1.n+(gD x:Nat),s1.aU⟩:=⟨_,rfl⟩;rw [← hs2] at iW
  have aak:s2.n=s1.n+(gD x:Nat):=by rw [hs2]
  have OB:s2.aU=s1.aU:=by rw [hs2]
  rw [← aak] at H;rw [← OB] at hv1;refine qG ?_;refine nE (ι:=Bool) (Tc:=[(0,_),(1,_),(2,_),(3,_),(4,_),(11,_),(12,_)]) 15 (fun (q1:Bool)=>[(68,.bool q1)]) (fun (q1:Bool)=>q1=(decide (x.kind=3) && !body || decide (x.kind=6) && note)) (by exact H.sub ⟨rfl,rfl,rfl,rfl,rfl,rfl,rfl,aB⟩) ?_ ?_
  ·intro ED;refine kH H (aT gJ aD 0 rfl rfl (Rc rfl (Rm rfl (Sp 57 rfl ?_ ?_)))) <;> clear H
   ·intro h57 a H
    try have p57:=dT h57
    refine kH H (YM h57 rfl (YN h57 rfl (Pt h57 rfl (Rm rfl (Sp 61 rfl ?_ ?_))))) <;> clear H
    ·intro oM a H
     try have p61:=dT oM
     refine kH H (aS oM rfl (aS oM rfl (Ku rfl (Ks oM rfl (Pt oM rfl ?_)))));clear H;intro a H;refine ED (_) _ _ ?_ (by exact H.sub ⟨rfl,rfl,rfl,rfl,rfl,rfl,rfl,rfl,aB⟩)
     clear iW oo hN hX;first|(simp_all;done)|(simp_all;omega)
    intro oM a H
    try have p61:=dF oM
    refine kH H (YF gJ oM rfl (YO aD 0 oM rfl (YC oM rfl (YM oM rfl (Sp 65 rfl ?_ ?_))))) <;> clear H
    ·intro jY a H
     try have p65:=dT jY
     refine kH H (YM jY rfl (PT oM jY rfl (Pf oM rfl ?_)));clear H;intro a H;refine ED (_) _ _ ?_ (by exact H.sub ⟨rfl,rfl,rfl,rfl,rfl,rfl,rfl,rfl,aB⟩)
     clear iW oo hN hX;first|(simp_all;done)|(simp_all;omega)
    intro jY a H
    try have p65:=dF jY
    refine kH H (Ks jY rfl (PF oM jY rfl (Pf oM rfl ?_)));clear H;intro a H;refine ED (_) _ _ ?_ (by exact H.sub ⟨rfl,rfl,rfl,rfl,rfl,rfl,rfl,rfl,aB⟩)
    clear iW oo hN hX;first|(simp_all;done)|(simp_all;omega)
   intro h57 a H
   try have p57:=dF h57
   refine kH H (aS h57 rfl (Pf h57 rfl (Rm rfl ?_)));clear H;intro a H;refine JG gJ H (wg H rfl rfl rfl) rfl rfl ?_;clear H;intro a H;refine zu aD H (wg H rfl rfl rfl) rfl (H.hp.qN 0 rfl rfl) rfl ?_;clear H;intro a H;refine Ml H (wg H rfl rfl rfl) rfl rfl rfl rfl ?_;clear H;intro a H;refine JH H (wg H rfl rfl rfl) rfl rfl ?_;clear H;intro a H;refine VJ H 65 rfl ?_ ?_
   ·intro jY
    try have p65:=dT jY
    refine kH H (YM jY rfl ?_);clear H;intro a H;refine Mq H (wg H rfl rfl rfl) rfl jY rfl rfl ?_;clear H;intro a H;refine kH H (Pf rfl rfl ?_);clear H;intro a H;refine ED (_) _ _ ?_ (by exact H.sub ⟨rfl,rfl,rfl,rfl,rfl,rfl,rfl,rfl,aB⟩)
    clear iW oo hN hX;first|(simp_all;done)|(simp_all;omega)
   intro jY
   try have p65:=dF jY
   refine kH H (Ks jY rfl ?_);clear H;intro a H;refine Px H (wg H rfl rfl rfl) rfl jY rfl rfl ?_;clear H;intro a H;refine kH H (Pf rfl rfl ?_);clear H;intro a H;refine ED (_) _ _ ?_ (by exact H.sub ⟨rfl,rfl,rfl,rfl,rfl,rfl,rfl,rfl,aB⟩)
   clear iW oo hN hX;first|(simp_all;done)|(simp_all;omega)
  clear H;intro q1 a w hI H;dsimp only [lca,aO] at H;simp only [mX,jW];have hq1:=hI;refine kH H (aM cK rfl (Cd rfl ?_ ?_)) <;> clear H cK
  ·intro gL a H
   try have p53:=dT gL
   refine aN (fun _ bS=>?_);have hF:=oo 19 s2 (by decide) (by rw [iW,amb hq1 gL,tq (r:=(19,s2)) (show (19:Int)≠0 by decide)]);exact kP H (SC (aM bS rfl (LR results16 rfl fun H=>H.hp.bR (L':=iP uo D b v1 s2.n :: L1) (by repeat (first|exact bZ _|apply List.Sublist.cons)) ⟨rfl,v1,L1,s2,av vi hF.symm,rfl,hv1,fun h=>absurd (hF.symm.trans h) (by decide)⟩)))
  intro gL a H
  try have p53:=dF gL
  have Ur:¬ (decide (x.kind=3) && !body || decide (x.kind=6) && note)=true:=by rw [← hq1,gL];decide
  refine dh (fun _ dD=>?_);refine nE (ι:=Bool) (Tc:=[(0,_),(1,_),(2,_),(3,_),(4,_),(11,_),(12,_)]) 7 (fun (q2:Bool)=>[(76,.bool q2)]) (fun (q2:Bool)=>q2=(decide (x.kind=7) && decide (4≤t))) (by exact H.sub ⟨rfl,rfl,rfl,rfl,rfl,rfl,rfl,aB⟩) ?_ ?_
  ·intro Ld;refine kH H (aT gJ aD 0 rfl rfl (Rc rfl (Rm rfl (Sp 73 rfl ?_ ?_)))) <;> clear H
   ·intro iR a H
    try have p73:=dT iR
    refine kH H (YM iR rfl (YC iR rfl (Pt iR rfl ?_)));clear H;intro a H;refine Ld (_) _ _ ?_ (by exact H.sub ⟨rfl,rfl,rfl,rfl,rfl,rfl,rfl,rfl,aB⟩)
    clear iW oo hN hX;first|(simp_all;done)|(simp_all;omega)
   intro iR a H
   try have p73:=dF iR
   refine kH H (aS iR rfl (Pf iR rfl ?_));clear H;intro a H;refine Ld (_) _ _ ?_ (by exact H.sub ⟨rfl,rfl,rfl,rfl,rfl,rfl,rfl,rfl,aB⟩)
   clear iW oo hN hX;first|(simp_all;done)|(simp_all;omega)
  clear H;intro q2 a w hI H;dsimp only [lca,aO] at H;simp only [mX,jW];have hq2:=hI;refine kH H (ak dD rfl (Cd rfl ?_ ?_)) <;> clear H dD
  ·intro gU a H
   try have p69:=dT gU
   refine aN (fun _ dO=>?_);rw [gU] at hq2;have hq3:=Bool.and_eq_true_iff.1 hq2.symm;have hF:=oo 17 s2 (by decide) (by rw [iW,oD hq3.1,alZ (oD hq3.2),tq (r:=(17,s2)) (show (17:Int)≠0 by decide)]);exact kP H (SC (aM dO rfl (LR results16 rfl fun H=>H.hp.bR (L':=iP uo D b v1 s2.n :: L1) (by repeat (first|exact bZ _|apply List.Sublist.cons)) ⟨rfl,v1,L1,s2,av vi hF.symm,rfl,hv1,fun h=>absurd (hF.symm.trans h) (by decide)⟩)))
  intro gU a H
  try have p69:=dF gU
  have Oy:x.kind=7→¬ 4≤t:=fun h1 h2=>by rw [gU,dQ h1,dQ h2] at hq2;cases hq2
  refine dh (fun _ dK=>?_);refine nE (ι:=Bool) (Tc:=[(0,_),(1,_),(2,_),(3,_),(4,_),(11,_),(12,_)]) 13 (fun (q3:Bool)=>[(90,.bool q3)]) (fun (q3:Bool)=>q3=(decide (x.kind=8) && !decide (1≤x.id∧x.id≤1073741824))) (by exact H.sub ⟨rfl,rfl,rfl,rfl,rfl,rfl,rfl,aB⟩) ?_ ?_
  ·intro Tf;refine kH H (aT gJ aD 0 rfl rfl (Rc rfl (Rm rfl (Sp 81 rfl ?_ ?_)))) <;> clear H
   ·intro rG a H
    try have zZ:=dT rG
    refine kH H (YF uN rG rfl (YO aD 0 rG rfl (YC rG rfl (YM rG rfl (Sp 85 rfl ?_ ?_))))) <;> clear H
    ·intro lV a H
     try have Vu:=dT lV
     refine kH H (aZ lV rfl (PT rG lV rfl (Pt rG rfl ?_)));clear H;intro a H;refine Tf (_) _ _ ?_ (by exact H.sub ⟨rfl,rfl,rfl,rfl,rfl,rfl,rfl,rfl,aB⟩)
     clear iW oo hN hX;first|(rw [gY zZ];rfl)|(rw [dQ zZ,gY (by omega)];rfl)|(rw [dQ zZ,uG,← decide_not];exact decide_eq_decide.2 (by omega))
    intro lV a H
    try have Vu:=dF lV
    refine kH H (YF uN lV rfl (YO aD 0 lV rfl (YC lV rfl (PF rG lV rfl (Pt rG rfl ?_)))));clear H;intro a H;refine Tf (_) _ _ ?_ (by exact H.sub ⟨rfl,rfl,rfl,rfl,rfl,rfl,rfl,rfl,aB⟩)
    clear iW oo hN hX;first|(rw [gY zZ];rfl)|(rw [dQ zZ,gY (by omega)];rfl)|(rw [dQ zZ,uG,← decide_not];exact decide_eq_decide.2 (by omega))
   intro rG a H
   try have zZ:=dF rG
   refine kH H (aS rG rfl (aS rG rfl (Ku rfl (Ku rfl (Ku rfl (Ks rG rfl (Pf rG rfl ?_)))))));clear H;intro a H;refine Tf (_) _ _ ?_ (by exact H.sub ⟨rfl,rfl,rfl,rfl,rfl,rfl,rfl,rfl,aB⟩)
   clear iW oo hN hX;first|(rw [gY zZ];rfl)|(rw [dQ zZ,gY (by omega)];rfl)|(rw [dQ zZ,uG,← decide_not];exact decide_eq_decide.2 (by omega))
  clear H;intro q3 a w hI H;dsimp only [lca,aO] at H;simp only [mX,jW];have hq3:=hI;refine kH H (ak dK rfl (Cd rfl ?_ ?_)) <;> clear H dK
  ·intro tO a H
   try have Cu:=dT tO
   refine aN (fun _ dS=>?_);rw [tO] at hq3;have hq4:=Bool.and_eq_true_iff.1 hq3.symm
   have iq:¬ (1≤x.id∧x.id≤1073741824):=by have:=hq4.2;simp at this;omega
   have hF:=oo 18 s2 (by decide) (by rw [iW,oD hq4.1,ama iq,tq (r:=(18,s2)) (show (18:Int)≠0 by decide)]);exact kP H (SC (aM dS rfl (LR results16 rfl fun H=>H.hp.bR (L':=iP uo D b v1 s2.n :: L1) (by repeat (first|exact bZ _|apply List.Sublist.cons)) ⟨rfl,v1,L1,s2,av vi hF.symm,rfl,hv1,fun h=>absurd (hF.symm.trans h) (by decide)⟩)))
  intro tO a H
  try have Cu:=dF tO
  have Us:x.kind=8→1≤x.id∧x.id≤1073741824:=fun h1=>by rw [tO,dQ h1] at hq3;simpa using hq3
  rw [amd Ur Oy Us] at iW;refine fF ?_;refine bW _ _ ?_;clear bW;refine oF (ι:=CS × aj × OL) (Tc:=[(0,_),(1,_),(2,_),(3,_),(4,_),(11,_),(12,_)]) (Lc:=[(_,_)]) (fun gh=>[]) (fun gh=>[iP uo D b gh.2.1 gh.1.n]++gh.2.2) (fun gh=>G) (fun gh=>(dY (aK us st li rv) body note t x s1=fG (fK (aK us st li rv) x.kind x.head,gh.1) fun s=>if x.kind=6 then fq (aK us st li rv) false true t x.flow s else if x.kind=7 then jS x.rows.length (fun s=>fH (aK us st li rv) note (t+1) x.rows s) s else (0,s))∧vG gh.2.1 gh.1.aU gh.2.2 L0∧gh.1.n=s1.n+(gD x:Nat)∧gh.1.aU.length≤s1.aU.length+1) (by exact (H).sub ⟨rfl,rfl,rfl,rfl,rfl,rfl,rfl,aB⟩) ?_ ?_
  ·skip;refine dh (fun _ eP=>?_);refine nE (ι:=Bool) (Tc:=[(0,_),(1,_),(2,_),(3,_),(4,_),(11,_),(12,_)]) 8 (fun (q4:Bool)=>[(98,.bool q4)]) (fun (q4:Bool)=>q4=decide (x.kind=6∨x.kind=7)) (by exact H.sub ⟨rfl,rfl,rfl,rfl,rfl,rfl,rfl,aB⟩) ?_ ?_
   ·intro Le;refine kH H (aT gJ aD 0 rfl rfl (Rc rfl (Rm rfl (Sp 94 rfl ?_ ?_)))) <;> clear H
    ·intro Dq a H
     try have p94:=dT Dq
     refine kH H (aZ Dq rfl (Pt Dq rfl ?_));clear H;intro a H;refine Le (_) _ _ ?_ (by exact H.sub ⟨rfl,rfl,rfl,rfl,rfl,rfl,rfl,rfl,aB⟩)
     clear iW oo hN hX Ur Oy Us;first|(simp_all;done)|(simp_all;omega)
    intro Dq a H
    try have p94:=dF Dq
    refine kH H (YF gJ Dq rfl (YO aD 0 Dq rfl (YC Dq rfl (Pf Dq rfl ?_))));clear H;intro a H;refine Le (_) _ _ ?_ (by exact H.sub ⟨rfl,rfl,rfl,rfl,rfl,rfl,rfl,rfl,aB⟩)
    clear iW oo hN hX Ur Oy Us;first|(simp_all;done)|(simp_all;omega)
   clear H;intro q4 a w hI H;dsimp only [lca,aO] at H;simp only [mX,jW];have hq4:=hI;refine eP _ _ ?_;clear eP;refine qF H rfl ?_ ?_
   ·intro nW
    try have Mh:=dT nW
    have Ba:x.kind=6∨x.kind=7:=by rw [nW] at hq4;exact oD hq4.symm
    rw [au Ba] at iW;refine kP H (SR fun _ gG=>Rm rfl (aT uN aD 0 rfl rfl ?_));clear H;intro a H;refine gP YP (Li:=[_]) (L:=iP uo D b v1 s2.n :: L1) H wn rfl (aaV (aK us st li rv) _ _ L0 _ D b v1 s2 x.id hv1 (Hp.owns (Li:=[_]) H.hp) hck.Vg (by rw [OB];omega)) rfl ?_;clear H;rintro aqr _ _ a w ⟨rfl,v2,L2,rfl,rfl,hv2⟩ - H;dsimp only [lca,aO] at H;refine kH H (ak gG rfl (SR fun _ gT=>Rm rfl (Rc rfl (Kz gT (Cd rfl ?_ ?_))))) <;> clear H gG gT
    ·intro R9 a H
     try have Mc:=dT R9
     refine aN (fun _ gM=>?_);have hF:=oo (iK (aK us st li rv) s2 x.id).1 _ Mc (by rw [iW,tq Mc]);exact kP H (SC (Rm rfl (aM gM rfl (LR results16 rfl fun H=>H.hp.bR (L':=iP uo D b v2 s2.n :: L2) (by repeat (first|exact bZ _|apply List.Sublist.cons)) ⟨rfl,v2,L2,⟨s2.n,(iK (aK us st li rv) s2 x.id).2.aU⟩,av vi hF.symm,rfl,hv2,fun h=>absurd (hF.symm.trans h) Mc⟩))))
    intro R9 a H
    try have Mc:=dF R9
    have Nu:(iK (aK us st li rv) s2 x.id).1=0:=gu.1 Mc;rw [sj Nu] at iW;have hub:=PU (aK us st li rv) s2 x.id
    unfold kM at hub
    obtain ⟨s3,hs3⟩:∃ s3,s3=(iK (aK us st li rv) s2 x.id).2:=⟨_,rfl⟩
    have Jp:s3.n=s2.n:=by rw [hs3];rfl
    rw [← hs3] at hv2 hub iW;rw [← Jp] at H
    have hsb:s3.aU.length≤s1.aU.length+1:=by rw [← OB];omega
    refine fF ?_;refine ⟨(s3,v2,L2),by exact (H).sub ⟨rfl,rfl,rfl,rfl,rfl,rfl,rfl,aB⟩,?_⟩;(try dsimp only);exact ⟨iW,hv2,by omega,hsb⟩
   intro nW
   try have Mh:=dF nW
   have Ba:¬ (x.kind=6∨x.kind=7):=by rw [nW] at hq4;exact of_decide_eq_false hq4.symm
   rw [ah Ba,sj rfl] at iW;dsimp only at iW;have hw2:=hv1
   have hsb:s2.aU.length≤s1.aU.length+1:=by rw [OB];omega
   refine fF ?_;refine ⟨(s2,v1,L1),by exact (H).sub ⟨rfl,rfl,rfl,rfl,rfl,rfl,rfl,aB⟩,?_⟩;(try dsimp only);exact ⟨iW,hv1,aak,hsb⟩
  clear H;rintro ⟨s3,v3,L3⟩ a w hI H;dsimp only at hI H;clear iW hv1;obtain ⟨iW,hv3,Jp,hsb⟩:=hI;dsimp only [lca,aO] at H;refine kP H (SQ fun _ jf=>SR fun _ jq=>Rm rfl (aT gJ aD 0 rfl rfl (Rf KN rfl ?_)));clear H;intro a H;refine bP vC (cs:=[.slice pA pn pc,vi x.head.marks.ins,vi x.head.marks.move,.slice dA dn dc,.slice yA yn yc]) H wn rfl rfl (H.hp.gB 0 rfl rfl) rfl ?_;clear H;intro a H;refine gP NA (Li:=[_]) (L:=iP uo D b v3 s3.n :: L3) H wn rfl (OY _ _ _ D st li rv b v3 s3.n hck hmz (Hp.owns (Li:=[_]) H.hp) x.kind x.head _ _ _ hhd (by omega)) rfl ?_;clear H;rintro aqv _ _ a w ⟨rfl,rfl,rfl⟩ - H;dsimp only [lca,aO] at H;refine kH H (ak jq rfl (SR fun _ iQ=>Rm rfl (Rc rfl (Kz iQ (Cd rfl ?_ ?_))))) <;> clear H jq iQ
  ·intro qI a H
   try have ET:=dT qI
   refine aN (fun _ kT=>?_);have hF:=oo (fK (aK us st li rv) x.kind x.head) s3 ET (by rw [iW,tq (by exact ET)]);exact kP H (SC (Rm rfl (aM kT rfl (LR results16 rfl fun H=>H.hp.bR (L':=iP uo D b v3 s3.n :: L3) (by repeat (first|exact bZ _|apply List.Sublist.cons)) ⟨rfl,v3,L3,s3,av vi hF.symm,rfl,hv3,fun h=>absurd (hF.symm.trans h) ET⟩))))
  intro qI a H
  try have ET:=dF qI
  rw [sj (r:=(fK (aK us st li rv) x.kind x.head,s3)) (gu.1 ET)] at iW;dsimp only at iW;refine fF ?_;refine jf _ _ ?_;clear jf;refine oF (ι:=CS × aj × OL) (Tc:=[(0,_),(1,_),(2,_),(3,_),(4,_),(11,_),(12,_)]) (Lc:=[(_,_)]) (fun gh=>[]) (fun gh=>[iP uo D b gh.2.1 gh.1.n]++gh.2.2) (fun gh=>G) (fun gh=>(dY (aK us st li rv) body note t x s1=if x.kind=7 then jS x.rows.length (fun s=>fH (aK us st li rv) note (t+1) x.rows s) gh.1 else (0,gh.1))∧vG gh.2.1 gh.1.aU gh.2.2 L0∧(x.kind=7→gh.1.n=s1.n+(gD x:Nat)∧gh.1.aU.length≤s1.aU.length+1)) (by exact (H).sub ⟨rfl,rfl,rfl,rfl,rfl,rfl,rfl,aB⟩) ?_ ?_
  ·skip;refine kP H (SR fun _ kU=>aT gJ aD 0 rfl rfl (Rc rfl (Kz kU (Cd rfl ?_ ?_)))) <;> clear H kU
   ·intro Sc a H
    try have Vl:=dT Sc
    rw [au Vl] at iW;refine kP H (SR fun _ jG=>Rm rfl (aT Ca jJ 0 rfl rfl (Rm rfl ?_)));clear H;intro a H;refine gP Ny (Li:=[_]) (L:=iP uo D b v3 s3.n :: L3) H wn rfl (ih _ _ L0 _ D st li rv b v3 s3 x.flow _ false true t hck hmz hv3 (Hp.owns (Li:=[_]) H.hp) hfl (by omega) ht0 Bh (by omega) (by omega) (by omega)) rfl ?_;clear H;rintro aqB _ _ a w ⟨rfl,v5,L5,s5,rfl,rfl,hv5,h5⟩ - H;dsimp only [lca,aO] at H;refine kH H (ak jG rfl (SR fun _ kZ=>Rm rfl (Rc rfl (Kz kZ (Cd rfl ?_ ?_))))) <;> clear H jG kZ
    ·intro Sg a H
     try have O6:=dT Sg
     refine aN (fun _ lg=>?_);have hF:=oo _ _ O6 iW;exact kP H (SC (Rm rfl (aM lg rfl (LR results16 rfl fun H=>H.hp.bR (L':=iP uo D b v5 s5.n :: L5) (by repeat (first|exact bZ _|apply List.Sublist.cons)) ⟨rfl,v5,L5,s5,av vi hF.symm,rfl,hv5,fun h=>absurd (hF.symm.trans h) O6⟩))))
    intro Sg a H
    try have O6:=dF Sg
    have Yr:=gu.1 O6;have hs5:=h5 Yr
    have aiU:dY (aK us st li rv) body note t x s1=if x.kind=7 then jS x.rows.length (fun s=>fH (aK us st li rv) note (t+1) x.rows s) s5 else (0,s5):=by rw [ah (by omega),iW,hs5,← Yr]
    refine fF ?_;refine ⟨(s5,v5,L5),by exact (H).sub ⟨rfl,rfl,rfl,rfl,rfl,rfl,rfl,aB⟩,?_⟩;(try dsimp only);exact ⟨aiU,hv5,fun h=>by omega⟩
   intro Sc a H
   try have Vl:=dF Sc
   rw [ah Vl] at iW;refine fF ?_;refine ⟨(s3,v3,L3),by exact (H).sub ⟨rfl,rfl,rfl,rfl,rfl,rfl,rfl,aB⟩,?_⟩;(try dsimp only);exact ⟨iW,hv3,fun _=>⟨Jp,hsb⟩⟩
  clear H;rintro ⟨s3,v3,L3⟩ a w hI H;dsimp only at hI H;clear iW hv3;obtain ⟨iW,hv3,ajJ⟩:=hI;dsimp only [lca,aO] at H;refine kP H (SR fun _ lK=>aT gJ aD 0 rfl rfl (Rc rfl (Kz lK (Cd rfl ?_ ?_)))) <;> clear H lK
  ·intro h128 a H
   try have DJ:=dT h128
   rw [au DJ] at iW;obtain ⟨Jp,hsb⟩:=ajJ DJ;have ht7:=Oy DJ;refine kP H (SR fun _ lM=>Rm rfl (aT uP vD 0 rfl rfl (Rm rfl (Rm rfl (Rd rfl ?_)))));clear H;intro a H;refine gP agI (Li:=[_]) (L:=iP uo D b v3 s3.n :: L3) H wn rfl (ala ih hm _ _ L0 _ D st li rv b v3 s3 x.rows _ note (t+1) hck hmz hv3 (Hp.owns (Li:=[_]) H.hp) hrw (by omega) (by omega) (by omega) (by omega) (by omega) (by omega)) rfl ?_;clear H;rintro aqG _ _ a w ⟨rfl,v6,L6,s6,rfl,rfl,hv6,h6⟩ - H;dsimp only [lca,aO] at H;refine kH H (ak lM rfl (SR fun _ lN=>Rm rfl (Rc rfl (Kz lN (Cd rfl ?_ ?_))))) <;> clear H lM lN
   ·intro Sj a H
    try have O7:=dT Sj
    refine aN (fun _ lY=>?_);have hF:=oo _ _ O7 iW;exact kP H (SC (Rm rfl (aM lY rfl (LR results16 rfl fun H=>H.hp.bR (L':=iP uo D b v6 s6.n :: L6) (by repeat (first|exact bZ _|apply List.Sublist.cons)) ⟨rfl,v6,L6,s6,av vi hF.symm,rfl,hv6,fun h=>absurd (hF.symm.trans h) O7⟩))))
   intro Sj a H
   try have O7:=dF Sj
   have e137:=gu.1 O7
   have Oh:dY (aK us st li rv) body note t x s1=(0,s6):=by rw [iW,h6 e137,← e137]
   refine kP H (Kc K6 (SC (Rm rfl (Rd rfl (Ra rfl ?_)))));clear H K6;intro a H;refine aJ ?_;refine dH ((k+1,s6,v6,L6)) (by exact (H.dB (Pl:=[_,_]) (cB:=[_]) [1] (by decide) rfl).sub ⟨rfl,rfl,rfl,rfl,rfl,rfl,aB⟩) ?_ ?_
   ·(try dsimp only);exact ⟨by omega,hN Oh,hv6,by have:=Iy Oh;omega,by have:=Iy Oh;omega,by have:=Iy Oh;omega⟩
   first|omega|(dsimp only;omega)
  intro h128 a H
  try have DJ:=dF h128
  rw [ah DJ] at iW;refine kP H (Kc K6 (SC (Rm rfl (Rd rfl (Ra rfl ?_)))));clear H K6;intro a H;refine aJ ?_;refine dH ((k+1,s3,v3,L3)) (by exact (H.dB (Pl:=[_,_]) (cB:=[_]) [1] (by decide) rfl).sub ⟨rfl,rfl,rfl,rfl,rfl,rfl,aB⟩) ?_ ?_
  ·(try dsimp only);exact ⟨by omega,hN iW,hv3,by have:=Iy iW;omega,by have:=Iy iW;omega,by have:=Iy iW;omega⟩
  first|omega|(dsimp only;omega)
 intro h23 a H
 try have Cr:=dF h23
 have hk3:l.drop k=[]:=fI (by omega);rw [hk3,fq] at hX;refine dR ?_;refine K2 _ _ ?_;clear K2;exact kP H (SR fun _ qD=>ak qD rfl (LR results16 rfl fun H=>H.hp.fO ⟨rfl,v1,L1,s1,av vi (by rw [← hX]),rfl,hv1,fun _=>by rw [← hX]⟩))
theorem U3:∀ m:Nat,m≤4294967297→MQ us uo m
 | 0,_=>fun _ _ _ _ _ _ _ _ _ _ _ _ _ _ _ _ _ _ _ _ _ h=>absurd h (by omega)
 | m+1,hm=>akW (U3 m (by omega)) (by omega)
end
section
open Go.RowKit
theorem anC (G:GH) (w0:World) (hG:Hold G w0) (s:vM) (a b c d:aj) (hR:CW G s a b c d) (hsl:s.styles.length≤4294967296) (hz:Kl s) :
  Calls prog 38 #[.agg #[a,b,c,d]] w0 (bY w0 G fun u G'=>∃ r,u=.bool r):=by
 obtain ⟨sA,sc,rfl,-,-,-⟩:=hR.st.slice;obtain ⟨lA,lc,rfl,-,-,-⟩:=hR.li.slice;obtain ⟨cA,cc,rfl,-,-,-⟩:=hR.cm.slice;obtain ⟨vA,vc,rfl,-,-,-⟩:=hR.va.slice;have hl1:=hz.ln
 simp only [bQ] at hR ⊢
 refine eN [(0,_)] func38 rfl ntmps38 rfl rfl hG ?_;intro a H;refine dh (fun _ K1=>?_);refine fB (cs:=[_,_,_,_]) H wn rfl rfl rfl ?_;clear H;intro b1 a w hb1 H;refine kH H (ak K1 rfl (SQ fun _ K2=>SQ fun _ K3=>?_));clear H K1;intro a H;obtain ⟨Ga,hma,hb1',H⟩:=H.dW
 have hc0:aG Ga b1 0=some (.slice sA s.styles.length sc):=by unfold aG;rw [hb1'];rfl
 have hc1:aG Ga b1 1=some (.slice lA s.lists.length lc):=by unfold aG;rw [hb1'];rfl
 have hc2:aG Ga b1 2=some (.slice cA s.comments.length cc):=by unfold aG;rw [hb1'];rfl
 have hc3:aG Ga b1 3=some (.slice vA s.vars.length vc):=by unfold aG;rw [hb1'];rfl
 have hst:=hR.st.mono hma;have wE:=hR.li.mono hma;refine kP H (SC (Rf Ew rfl (Rg qy rfl (by assumption) ?_)));clear H;intro a H;refine kH H (Rl nD rfl (Rc rfl (Rm rfl (Sp 9 rfl ?_ ?_)))) <;> clear H
 ·intro h9 a H
  exact kH H (aS h9 rfl (aS h9 rfl (Pt h9 rfl (Rm rfl (aS rfl rfl (aS rfl rfl (Pt rfl rfl (Rm rfl (aS rfl rfl (aS rfl rfl (Pt rfl rfl (Kn K3 (Ct rfl rfl (SR fun _ K4=>ak K4 rfl (LR results38 rfl fun H=>H.rt ⟨_,rfl⟩)))))))))))))))
 intro h9 a H
 try have p9:=dF h9
 refine kH H (YF AO h9 rfl (YR wP h9 rfl (by assumption) ?_));clear H;intro a H;refine kH H (YL wS h9 rfl (YC h9 rfl (Pf h9 rfl (Rm rfl (Sp 15 rfl ?_ ?_))))) <;> clear H
 ·intro jI a H
  exact kH H (aS jI rfl (aS jI rfl (Pt jI rfl (Rm rfl (aS rfl rfl (aS rfl rfl (Pt rfl rfl (Kn K3 (Ct rfl rfl (SR fun _ K5=>ak K5 rfl (LR results38 rfl fun H=>H.rt ⟨_,rfl⟩)))))))))))
 intro jI a H
 try have pQ:=dF jI
 refine kH H (YF F7 jI rfl (YR Aj jI rfl (by assumption) ?_));clear H;intro a H;refine kH H (YL zB jI rfl (YC jI rfl (Pf jI rfl (Rm rfl (Sp 21 rfl ?_ ?_))))) <;> clear H
 ·intro h21 a H
  exact kH H (aS h21 rfl (aS h21 rfl (Pt h21 rfl (Kn K3 (Ct rfl rfl (SR fun _ K6=>ak K6 rfl (LR results38 rfl fun H=>H.rt ⟨_,rfl⟩)))))))
 intro h21 a H
 try have nX:=dF h21
 refine kH H (YF F8 h21 rfl (YR uj h21 rfl (by assumption) ?_));clear H;intro a H;refine kH H (YL vE h21 rfl (YC h21 rfl (Pf h21 rfl (Kn K3 (Cd rfl ?_ ?_))))) <;> clear H K3
 ·intro eO a H
  exact kP H (SR fun _ K7=>ak K7 rfl (LR results38 rfl fun H=>H.rt ⟨_,rfl⟩))
 intro eO a H
 try have p26:=dF eO
 refine kP H (Kc K2 (SQ fun _ K8=>SR fun _ K9=>ak K9 rfl (SB ?_)));clear H K2 K9;intro a H;skip;refine eT (ι:=Nat) (Tc:=[(1,_)]) (Lc:=[]) (fun gh=>[(3,vi gh)]) (fun gh=>[]) (fun gh=>Ga) (fun gh=>gh≤s.styles.length) (fun gh=>s.styles.length - gh) (0) (by exact (H).sub ⟨rfl,rfl,aB⟩) ?_ ?_
 ·exact gX _
 clear H;intro k a w hI H;have hk:=hI;dsimp only [lca,aO] at H;refine kP H (SQ fun _ aV=>SR fun _ bF=>Rm rfl (Rf Ew rfl (Rg qy rfl (by assumption) ?_)));clear H;intro a H;refine kH H (Rl nD rfl (Rc rfl (Kz bF (Cd rfl ?_ ?_)))) <;> clear H bF
 ·intro h31 a H
  try have p31:=dT h31
  have hk2:k < s.styles.length:=by omega
  obtain ⟨b',o',pA,pc,rfl,hrow,-,-⟩:=Bw hst hk2;have hq:=hrow 5 _ rfl;refine kP H (Kc aV (SQ fun _ bG=>SB (SR fun _ bM=>Rf Ew rfl (Rg qy rfl (by assumption) ?_))));clear H aV;intro a H;refine kH H (Rm rfl (Ri nD kL rfl rfl (Rf Ry rfl (Rg zx rfl (by assumption) ?_))));clear H;intro a H;refine kH H (Rl sQ rfl (Rc rfl (Kz bM (Cd rfl ?_ ?_)))) <;> clear H bM
  ·intro lu a H
   exact kP H (SR fun _ bN=>ak bN rfl (LR results38 rfl fun H=>H.rt ⟨_,rfl⟩))
  intro lu a H
  try have p41:=dF lu
  refine kP H (Kc bG (SC (Rm rfl (Rd rfl (Ra rfl ?_)))));clear H bG;intro a H;refine aJ ?_;refine dH ((k+1)) (by exact (H).sub ⟨rfl,rfl,aB⟩) ?_ ?_
  ·omega
  first|omega|(dsimp only;omega)
 intro h31 a H
 try have p31:=dF h31
 refine dR ?_;refine K8 _ _ ?_;clear K8;refine kP H (SQ fun _ bW=>SR fun _ cK=>ak cK rfl (SB ?_));clear H cK;intro a H;skip;refine eT (ι:=Nat) (Tc:=[(1,_)]) (Lc:=[]) (fun gh=>[(4,vi gh)]) (fun gh=>[]) (fun gh=>Ga) (fun gh=>gh≤s.lists.length) (fun gh=>s.lists.length - gh) (0) (by exact (H).sub ⟨rfl,rfl,aB⟩) ?_ ?_
 ·exact gX _
 clear H;intro n a w hI H;have hn:=hI;dsimp only [lca,aO] at H;refine kP H (SQ fun _ bS=>SR fun _ dD=>Rm rfl (Rf AO rfl (Rg wP rfl (by assumption) ?_)));clear H;intro a H;refine kH H (Rl wS rfl (Rc rfl (Kz dD (Cd rfl ?_ ?_)))) <;> clear H dD
 ·intro h46 a H
  try have p46:=dT h46
  have hn2:n < s.lists.length:=by omega
  obtain ⟨b',o',B,d,rfl,hrow,-⟩:=Ht wE hn2;have hq:=hrow 1 _ rfl;refine kP H (Kc bS (SQ fun _ dO=>SB (SR fun _ dK=>Rf AO rfl (Rg wP rfl (by assumption) ?_))));clear H bS;intro a H;refine kH H (Rm rfl (Ri wS zw rfl rfl (Rf Rz rfl (Rg V7 rfl (by assumption) ?_))));clear H;intro a H;refine kH H (Rl Mx rfl (Rc rfl (Kz dK (Cd rfl ?_ ?_)))) <;> clear H dK
  ·intro pI a H
   exact kP H (SR fun _ dS=>ak dS rfl (LR results38 rfl fun H=>H.rt ⟨_,rfl⟩))
  intro pI a H
  try have p56:=dF pI
  refine kP H (Kc dO (SC (Rm rfl (Rd rfl (Ra rfl ?_)))));clear H dO;intro a H;refine aJ ?_;refine dH ((n+1)) (by exact (H).sub ⟨rfl,rfl,aB⟩) ?_ ?_
  ·omega
  first|omega|(dsimp only;omega)
 intro h46 a H
 refine dR ?_;refine bW _ _ ?_;clear bW;exact kP H (SR fun _ eP=>ak eP rfl (LR results38 rfl fun H=>H.rt ⟨_,rfl⟩))
end
section
open Go.RowKit
end
section
open Go.RowKit
end
section
open Go.RowKit
def ahr (t:Int) (a:Nat × ay):Bool:=decide ((a.1:Int)+gD a.2≤t)
def lA (t:Int) (A:List (Nat × ay)):List ay:=(A.filter (ahr t)).map (·.2)
end
section
open Go.RowKit
section
variable {N:Nat} {D:List Deferred} {w0:World} {F:Nat→Prop} {G0 G:GH} {L Lo:OL} {T:List (Nat × aj)}
variable {r:Option Nat} {P:Program} {ops:Array Oper} {Q:Exit→Act→World→Prop} {rest:List Oper} {a:Act} {w:World}
variable {d:Nat} {ty:TypeId} {pos:String} {aR:Array Edge} {g:Option (Nat × Bool)}
end
end
section
open Go.RowKit
theorem gQ.at {w0 w:World} {F:Nat→Prop} {G0 G:GH} {L Lo:OL} {e sz n c b o:Nat} {xs:List aj} (h:gQ e sz (.slice (some ⟨b,o,none⟩) n c) n xs Lo) (H:Hp w0 F G0 G L w) (hsub:∀ x∈Lo,x∈L) {i:Nat} {u:aj} (hi:xs[i]?=some u):w.cell? ⟨b,i,none⟩=some u:=by
 rcases h.2 with ⟨h1,_⟩|⟨b2,cap,cur,he,hl,h1,h2,h3,h4⟩
 ·cases h1
 ·injection he with e1
  injection e1 with e1
  injection e1 with e1
  subst e1
  refine H.OZ (c:=cur) (e:=e) (fz:=(0,0)) (hsub _ (by rw [hl];exact List.mem_singleton_self _)) ?_
  have hx:i < xs.length:=(lG.1 hi).1
  rw [h.1] at hx
  rw [← h4,zK,au hx,Array.getElem?_toList] at hi
  exact hi
theorem flat_get {sz:Nat}:∀ {css:List (List aj)} {k:Nat} (hk:k < css.length) (h:∀ cs∈css,cs.length=sz) (j:Nat),j < sz→css.flatten[k*sz+j]?=css[k][j]?
 | c :: css,0,_,h,j,hj=>by
  rw [List.flatten_cons,Nat.zero_mul,nT,List.getElem_cons_zero,CY (by rw [h c jB];exact hj)]
 | c :: css,k+1,hk,h,j,hj=>by
  have ih:=flat_get (css:=css) (k:=k) (by simpa using hk) (fun cs hc=>h cs (vR _ hc)) j hj
  rw [List.flatten_cons,List.getElem_cons_succ,BL (by rw [h c jB,Nat.succ_mul];omega),h c jB,show (k+1)*sz+j - sz=k*sz+j by rw [Nat.succ_mul];omega]
  exact ih
theorem ig.at {G:GH} {sz:Nat} {rows:List (List Dat)} {xs:List aj} (h:ig G sz rows xs) {k:Nat} {r:List Dat} (hk:rows[k]?=some r):∃ cs,cs.length=sz∧(∀ j u,cs[j]?=some u→xs[k*sz+j]?=some u)∧bJ G r cs:=by
 obtain ⟨css,rfl,h2,h3⟩:=h
 have hkl:k < css.length:=by rw [h2];exact (lG.1 hk).1
 obtain ⟨hr,hl⟩:=h3 k r css[k] hk (fP hkl)
 refine ⟨css[k],hl,fun j u hj=>?_,hr⟩
 rw [flat_get hkl (fun cs hc=>?_) j (by rw [← hl];exact (lG.1 hj).1)]
 ·exact hj
 ·obtain ⟨i,hi,rfl⟩:=List.getElem_of_mem hc
  exact (h3 i rows[i] css[i] (fP (by omega)) (fP hi)).2
end
section
open Go.RowKit
def XA (l:List ay):Prop:=∀ (k:Nat) (h:k+1 < l.length),¬ (l[k].kind=1∧l[k+1].kind=1∧l[k].head=l[k+1].head)
theorem XA.one {l:List ay} (h:l.length≤1):XA l:=fun k hk=>by omega
end
section
open Go.RowKit
end
section
open Go.RowKit
end
section
open Go.RowKit
end
section
open Go.RowKit
theorem apc (l m:List ay):bq (l++m)=bq l+bq m:=by simp [bq,PE]
end
section
open Go.RowKit
end
section
open Go.RowKit
end
section
open Go.RowKit
theorem Ww:∀ {m l:List ay},m.Sublist l→bq m≤bq l
 | _,_,.slnil=>dw _
 | _,_,.cons a h=>by have:=Ww h;simp only [bq,dV,dZ] at *;omega
 | _,_,.cons_cons a h=>by have:=Ww h;simp only [bq,dV,dZ] at *;omega
end
section
open Go.RowKit
end
section
open Go.RowKit
structure XB where
 from_:Int
 to:Int
 mark:Bool
 props:List jL
def XB.dat (a:XB):List Dat:=[li a.from_,li a.to,.lf (.bool a.mark),.sl 2 (a.props.map jL.dat)]
end
section
open Go.RowKit
def cl0:bD:=.mk 0 hd0 []
def rw0:bH:=.mk hd0 [cl0]
end
section
open Go.RowKit
end
section
open Go.RowKit
theorem Q9:∀ args w,(callFunc 39 args).run prog w=.ok (.enter 39 args) w:=enters func39 rfl (by kernel_rfl)
theorem agS:∀ args w,(callFunc 89 args).run prog w=.ok (.enter 89 args) w:=enters func89 rfl (by kernel_rfl)
theorem DV (n:Nat):0≤(n:Int).tdiv 8∧(n:Int).tdiv 8≤n:=by
 rw [Int.tdiv_eq_ediv_of_nonneg (by omega)];omega
abbrev qY (b:Nat) (n:Int):Nat × Obj:=(b,.cells #[vi n] 3 (0,0))
def Qu (bl:Nat) (left:Int) (z:Nat) (u:aj) (_:GH) (L':OL):Prop:=∃ b lf,u=.bool b∧L'=[qY bl lf]∧left - 4*(z:Int)≤lf∧lf≤left
def M4 (n:Nat):Prop:=∀ (G:GH) (w0:World) (l:List ay) (v:aj) (tZ left:Int) (bl:Nat),ji G [qY bl left] w0→aC G (.sl 11 (l.map ay.dat)) v→bq l < n→0≤tZ→tZ≤1000→left≤1000→-1000000000000≤left - 4*(bq l:Int) →
 Calls prog 39 #[v,vi tZ,(aQ bl 0)] w0 (iM w0 G [qY bl left] (Qu bl left (bq l)))
theorem adn (l m:List bH):eD (l++m)=eD l+eD m:=by simp [eD,PE]
theorem adh (l m:List bD):iw (l++m)=iw l+iw m:=by simp [iw,PE]
theorem apd {l:List ay} {k:Nat} (h:k < l.length):bq (l.take (k+1))=bq (l.take k)+(1+cO l[k].dat):=by rw [mV h,apc];simp [bq,dZ]
theorem ape {l:List bH} {k:Nat} (h:k < l.length):eD (l.take (k+1))=eD (l.take k)+(1+cO l[k].dat):=by rw [mV h,adn];simp [eD,dZ]
theorem apb {l:List bD} {k:Nat} (h:k < l.length):iw (l.take (k+1))=iw (l.take k)+(1+cO l[k].dat):=by rw [mV h,adh];simp [iw,dZ]
theorem adl (l:List ay) (k:Nat):bq (l.take k)≤bq l:=Ww (List.take_sublist k l)
theorem adp (l:List bH) (k:Nat):eD (l.take k)≤eD l:=by
 have:=adn (l.take k) (l.drop k);rw [List.take_append_drop] at this;omega
theorem adj (l:List bD) (k:Nat):iw (l.take k)≤iw l:=by
 have:=adh (l.take k) (l.drop k);rw [List.take_append_drop] at this;omega
theorem aiO {G:GH} {b o:Nat} {x q1 q2 q3 q4 q5 f:aj} (h:∀ j u,[x,q1,q2,q3,q4,q5,f][j]?=some u→aG G b (o+j)=some u):∀ j u,[q1,q2,q3,q4,q5][j]?=some u→aG G b (o+1+j)=some u:=by
 intro j u hj;rw [Nat.add_assoc,Nat.add_comm 1 j];refine h (j+1) u ?_
 match j,hj with
 | 0,hj=>exact hj
 | 1,hj=>exact hj
 | 2,hj=>exact hj
 | 3,hj=>exact hj
 | 4,hj=>exact hj
 | n+5,hj=>simp at hj
set_option maxHeartbeats 1000000 in
theorem anA {n:Nat} (ih:M4 n) (hn:n≤4294967296)
  (hrows:∀ (G:GH) (w0:World) (l:List bH) (v:aj) (tZ left:Int) (bl:Nat),ji G [qY bl left] w0→aC G (.sl 6 (l.map bH.dat)) v→eD l < n→0≤tZ→tZ≤1000→left≤1000→-1000000000000≤left - 4*(eD l:Int) →
   Calls prog 89 #[v,vi tZ,(aQ bl 0)] w0 (iM w0 G [qY bl left] (Qu bl left (eD l)))):M4 (n+1):=by
 intro G w0 l v tZ left bl hO hv hz hl0 hl1 hf1 hf0;obtain ⟨A,c,rfl,hc1,hc2,hg⟩:=hv.slice;rw [bQ] at *;have hll:=Fu l;refine lq (N:=89) (T:=[(0,_),(1,_),(2,_)]) func39 rfl ntmps39 rfl rfl hO ?_;intro a H;refine kP H (SR fun _ K1=>ak K1 rfl (SQ fun _ K2=>SR fun _ K3=>ak K3 rfl (SB ?_)));clear H K1 K3;intro a H;skip;refine eT (ι:=Nat × Int × GH) (Tc:=[(0,_),(1,_),(2,_)]) (Lc:=[]) (fun gh=>[(7,vi gh.1)]) (fun gh=>[qY bl gh.2.1]) (fun gh=>gh.2.2) (fun gh=>gh.1≤l.length∧left - 4*(bq (l.take gh.1):Int)≤gh.2.1∧gh.2.1≤left∧(∀ b o,G b=some o→gh.2.2 b=some o)) (fun gh=>l.length - gh.1) ((0,left,G)) (by exact (H).sub ⟨rfl,rfl,rfl,rfl,aB⟩) ?_ ?_
 ·exact ⟨by omega,by show left - 4*((0:Nat):Int)≤left;omega,Int.le_refl _,fun _ _ h=>h⟩
 clear H;rintro ⟨k,lf,g⟩ a w hI H;dsimp only at hI H;obtain ⟨hk,hlo,hhi,hgm⟩:=hI;have hzk:=adl l k;dsimp only [lca,aO] at H;refine kP H (SQ fun _ K4=>SR fun _ K5=>Rm rfl (Rm rfl (Rl kr rfl (Rc rfl (Kz K5 (Cd rfl ?_ ?_)))))) <;> clear H K5
 ·intro h11 a H
  try have xP:=dT h11
  have hk2:k < l.length:=by omega
  obtain ⟨b,o,pA,pn,pc,dA,dn,dc,yA,yn,yc,fA,fn,fc,rA,rn,rc,rfl,hrow,hhd,hfl,hrw⟩:=Dl hk2 hg;have r3:aG g b (o+k*11+3)=some (.string l[k].text):=aH hgm (hrow 3 _ rfl);have r4:aG g b (o+k*11+4+0)=some (.slice pA pn pc):=aH hgm (hrow 4 _ rfl);have r7:aG g b (o+k*11+4+1+2)=some (.slice dA dn dc):=aH hgm (hrow 7 _ rfl);have r8:aG g b (o+k*11+4+1+3)=some (.slice yA yn yc):=aH hgm (hrow 8 _ rfl);have r9:aG g b (o+k*11+9)=some (.slice fA fn fc):=aH hgm (hrow 9 _ rfl);have Pk:aG g b (o+k*11+10)=some (.slice rA rn rc):=aH hgm (hrow 10 _ rfl);have q1:=DV pn;have q2:=DV dn;have q3:=DV yn;have hzi:=oW l[k];have UN:=CK l[k].head;have l1:=hhd.props.len;have l2:=hhd.bV.len;have l3:=hhd.layers.len;have m1:=mP (l[k].head.props.map jL.dat);have m2:=mP (l[k].head.marks.bV.map nG.dat);have m3:=mP (l[k].head.marks.layers.map mH.dat);have hzs:=apd hk2;have hzt:=adl l (k+1);refine kP H (Kc K4 (SQ fun _ K6=>SB (SQ fun _ K7=>?_)));clear H K4;intro a H;refine dI hmx [[],[],[1],[1,2],[1,2,3],[],[],[5,6],[5,6,7],(ra 5 4),(ra 5 5),(ra 5 6),(ra 5 7),(ra 1 12),[],[],[14,15],[14,15,16],(ra 14 4),(ra 14 5),(ra 14 6),(ra 14 7),(ra 14 8),(ra 1 22),[],[],[24,25],[24,25,26],(ra 24 4),(ra 24 5),(ra 24 6),(ra 24 7),(ra 24 8),(ra 1 32),(ra 0 34),(ra 0 35)] [35] (by kernel_rfl) [_,_,_,vi lf,_,_,_,_,_,_,_,_,vi ((pn:Int).tdiv 8),_,_,_,_,_,_,_,_,_,vi ((dn:Int).tdiv 8),_,_,_,_,_,_,_,_,_,vi ((yn:Int).tdiv 8),_,_] H (aI (Z0 rfl (Rm rfl)) (Z0 rfl (Rm rfl)) (Z1 1 15 rfl (Rk rfl)) (Z1 2 16 rfl (Ro aD 0 rfl)) (aI (Z1 3 17 rfl (Rs rfl)) (Z0 rfl (Rm rfl)) (Z0 rfl (Rm rfl)) (Z2 5 19 6 20 rfl (Ri kr fC rfl rfl)) (aI (Z1 7 21 rfl (Rf KN rfl)) (Z1 8 22 rfl (Rf BX rfl)) (X1 9 23 rfl fun hG=>Rg zx rfl (aH hG r4)) (Z1 10 24 rfl (Rl sQ rfl)) (aI ?_ (Z2 4 18 12 26 rfl (Rs rfl)) (Z0 rfl (Rm rfl)) (Z0 rfl (Rm rfl)) (aI (Z2 14 28 15 29 rfl (Ri kr fC rfl rfl)) (Z1 16 30 rfl (Rf KN rfl)) (Z1 17 31 rfl (Rf zP rfl)) (Z1 18 32 rfl (Rf mY rfl)) (aI (X1 19 33 rfl fun hG=>Rg nC rfl (aH hG r7)) (Z1 20 34 rfl (Rl mQ rfl)) ?_ (Z2 13 27 22 36 rfl (Rs rfl)) (aI (Z0 rfl (Rm rfl)) (Z0 rfl (Rm rfl)) (Z2 24 38 25 39 rfl (Ri kr fC rfl rfl)) (Z1 26 40 rfl (Rf KN rfl)) (aI (Z1 27 41 rfl (Rf zP rfl)) (Z1 28 42 rfl (Rf zO rfl)) (X1 29 43 rfl fun hG=>Rg Ah rfl (aH hG r8)) (Z1 30 44 rfl (Rl xX rfl)) (aI ?_ (Z2 23 37 32 46 rfl (Rs rfl)) (Z1 0 14 rfl (Rk rfl)) (cu rfl) dN))))))))) ?_
  ·refine eF 11 25 rfl rfl fun _ a w G1 hG HT H fin=>?_;refine DL _ H wn rfl rfl (by omega) rfl (by omega) (by omega) rfl ?_;clear H;intro a H;exact fin H iJ rfl
  ·refine eF 21 35 rfl rfl fun _ a w G1 hG HT H fin=>?_;refine DL _ H wn rfl rfl (by omega) rfl (by omega) (by omega) rfl ?_;clear H;intro a H;exact fin H iJ rfl
  ·refine eF 31 45 rfl rfl fun _ a w G1 hG HT H fin=>?_;refine DL _ H wn rfl rfl (by omega) rfl (by omega) (by omega) rfl ?_;clear H;intro a H;exact fin H iJ rfl
  clear H;intro a w G tT H hv;have H:=H.bg (hv 33 47 rfl rfl) rfl;have H:=H.bg (hv 34 48 rfl rfl) rfl;clear hv;refine bT aD 0 (vs:=[_]) _ H wn rfl rfl rfl rfl rfl rfl rfl rfl ?_;clear H;intro w H;dsimp only [List.set,setRow] at H;refine aJ ⟨rfl,?_⟩;refine K7 _ _ ?_;clear K7;refine kP H (SR fun _ K8=>Rm rfl (Rk rfl (Ro aD 0 rfl (Rc rfl (Rm rfl (Sp 53 rfl ?_ ?_)))))) <;> clear H
  ·intro gL a H
   try have p53:=dT gL
   refine kH H (aS gL rfl (Pt gL rfl (Rm rfl (aZ rfl rfl (aS rfl rfl (aS rfl rfl (Pt rfl rfl (Rm rfl (aZ rfl rfl (aZ rfl rfl (aS rfl rfl (aS rfl rfl (Pt rfl rfl (Rm rfl (aZ rfl rfl (aZ rfl rfl (aZ rfl rfl (Pt rfl rfl (Kz K8 (Ct rfl rfl (SR fun _ K9=>ak K9 rfl ?_)))))))))))))))))))));clear H K8 K9;intro a H;refine lr H results39 rfl ?_;exact H.hp.fO ⟨_,_,rfl,rfl,by omega,by omega⟩
  intro gL a H
  try have p53:=dF gL
  replace r3:=aH tT r3;replace r9:=aH tT r9;replace Pk:=aH tT Pk;refine kH H (YM gL rfl (YC gL rfl (Pf gL rfl (Rm rfl (Sp 57 rfl ?_ ?_))))) <;> clear H
  ·intro h57 a H
   try have p57:=dT h57
   exact kH H (aZ h57 rfl (aS h57 rfl (aS h57 rfl (Pt h57 rfl (Rm rfl (aZ rfl rfl (aZ rfl rfl (aS rfl rfl (aS rfl rfl (Pt rfl rfl (Rm rfl (aZ rfl rfl (aZ rfl rfl (aZ rfl rfl (Pt rfl rfl (Kz K8 (Ct rfl rfl (SR fun _ aV=>ak aV rfl (LR results39 rfl fun H=>H.hp.fO ⟨_,_,rfl,rfl,by omega,by omega⟩)))))))))))))))))))
  intro h57 a H
  try have p57:=dF h57
  refine kH H (YM h57 rfl (YM h57 rfl (YI kr fC h57 rfl rfl (YF uO h57 rfl (YR gW h57 rfl (by assumption) ?_)))));clear H;intro a H;refine Bu iB H (wg H rfl rfl h57) rfl rfl ?_;clear H;intro a H;refine kH H (YC h57 rfl (Pf h57 rfl (Rm rfl (Sp 66 rfl ?_ ?_)))) <;> clear H
  ·intro oN a H
   try have p66:=dT oN
   exact kH H (aZ oN rfl (aZ oN rfl (aS oN rfl (aS oN rfl (Pt oN rfl (Rm rfl (aZ rfl rfl (aZ rfl rfl (aZ rfl rfl (Pt rfl rfl (Kz K8 (Ct rfl rfl (SR fun _ bF=>ak bF rfl (LR results39 rfl fun H=>H.hp.fO ⟨_,_,rfl,rfl,by omega,by omega⟩))))))))))))))
  intro oN a H
  try have p66:=dF oN
  refine kH H (YM oN rfl (YM oN rfl (YI kr fC oN rfl rfl (YF Ca oN rfl (YR jJ oN rfl (by assumption) ?_)))));clear H;intro a H;refine kH H (YM oN rfl ?_);clear H;intro a H;refine mD _ H (wg H rfl rfl oN) rfl rfl rfl (by omega) (by omega) rfl ?_;clear H;intro a H;refine kH H (YM oN rfl ?_);clear H;intro a H;refine gP Q9 (Li:=[]) (L:=[qY bl _]) H (wg H rfl rfl oN) rfl (ih _ _ l[k].flow _ (tZ - 1) _ bl (Hp.owns (Li:=[]) H.hp) (hfl.mono fun b o h=>tT b o (hgm b o h)) (by omega) (by omega) (by omega) (by omega) (by omega)) rfl ?_;clear H;rintro v75 G75 L75 a w ⟨b75,lf75,rfl,rfl,apS,apQ⟩ Ue H;dsimp only [List.nil_append] at H;replace Pk:=aH Ue Pk;refine kH H (YN oN rfl (Pf oN rfl (Rm rfl (Sp 78 rfl ?_ ?_)))) <;> clear H
  ·intro ql a H
   try have Vs:=dT ql
   exact kH H (aZ ql rfl (aZ ql rfl (aZ ql rfl (Pt ql rfl (Kz K8 (Ct rfl rfl (SR fun _ bG=>ak bG rfl (LR results39 rfl fun H=>H.hp.fO ⟨_,_,rfl,rfl,by omega,by omega⟩))))))))
  intro ql a H
  try have Vs:=dF ql
  refine kH H (YM ql rfl (YM ql rfl (YI kr fC ql rfl rfl (YF uP ql rfl (YR vD ql rfl (by assumption) ?_)))));clear H;intro a H;refine kH H (YM ql rfl (YM ql rfl ?_));clear H;intro a H;refine gP agS (Li:=[]) (L:=[qY bl _]) H (wg H rfl rfl ql) rfl (hrows _ _ l[k].rows _ tZ _ bl (Hp.owns (Li:=[]) H.hp) (hrw.mono fun b o h=>Ue b o (tT b o (hgm b o h))) (by omega) (by omega) (by omega) (by omega) (by omega)) rfl ?_;clear H;rintro v86 G86 L86 a w ⟨b86,akM,rfl,rfl,apT,apR⟩ ajg H;dsimp only [List.nil_append] at H;refine kH H (YN ql rfl (Pf ql rfl (Kz K8 (Cd rfl ?_ ?_)))) <;> clear H K8
  ·intro uR a H
   try have Mf:=dT uR
   exact kP H (SR fun _ bM=>ak bM rfl (LR results39 rfl fun H=>H.hp.fO ⟨_,_,rfl,rfl,by omega,by omega⟩))
  intro uR a H
  try have Mf:=dF uR
  refine kP H (Kc K6 (SC (Rm rfl (Rd rfl (Ra rfl ?_)))));clear H K6;intro a H;refine aJ ?_;refine dH ((k+1,akM,G86)) (by exact (H).sub ⟨rfl,rfl,rfl,rfl,aB⟩) ?_ ?_
  ·(try dsimp only);exact ⟨by omega,by omega,by omega,fun b o h=>ajg b o (Ue b o (tT b o (hgm b o h)))⟩
  first|omega|(dsimp only;omega)
 intro h11 a H
 try have xP:=dF h11
 refine dR ?_;refine K2 _ _ ?_;clear K2;exact kP H (SR fun _ bN=>ak bN rfl (LR results39 rfl fun H=>H.hp.fO ⟨_,_,rfl,rfl,by omega,by omega⟩))
set_option maxHeartbeats 1000000 in
theorem anB {n:Nat} (ih:M4 n) (hn:n≤4294967296) (G:GH) (w0:World) (l:List bH) (v:aj) (tZ left:Int) (bl:Nat) (hO:ji G [qY bl left] w0) (hv:aC G (.sl 6 (l.map bH.dat)) v) (hz:eD l < n) (hl0:0≤tZ) (hl1:tZ≤1000) (hf1:left≤1000) (hf0:-1000000000000≤left - 4*(eD l:Int)) :
  Calls prog 89 #[v,vi tZ,(aQ bl 0)] w0 (iM w0 G [qY bl left] (Qu bl left (eD l))):=by
 obtain ⟨A,c,rfl,hc1,hc2,hg⟩:=hv.slice;rw [bQ] at *;have hll:=Fv l;refine lq (N:=121) (T:=[(0,_),(1,_),(2,_)]) func89 rfl ntmps89 rfl rfl hO ?_;intro a H;refine kP H (SR fun _ K1=>ak K1 rfl (SQ fun _ K2=>SR fun _ K3=>ak K3 rfl (SB ?_)));clear H K1 K3;intro a H;skip;refine eT (ι:=Nat × Int × GH) (Tc:=[(0,_),(1,_),(2,_)]) (Lc:=[]) (fun gh=>[(7,vi gh.1)]) (fun gh=>[qY bl gh.2.1]) (fun gh=>gh.2.2) (fun gh=>gh.1≤l.length∧left - 4*(eD (l.take gh.1):Int)≤gh.2.1∧gh.2.1≤left∧(∀ b o,G b=some o→gh.2.2 b=some o)) (fun gh=>l.length - gh.1) ((0,left,G)) (by exact (H).sub ⟨rfl,rfl,rfl,rfl,aB⟩) ?_ ?_
 ·exact ⟨by omega,by show left - 4*((0:Nat):Int)≤left;omega,Int.le_refl _,fun _ _ h=>h⟩
 clear H;rintro ⟨k,lf,g⟩ a w hI H;dsimp only at hI H;obtain ⟨hk,hlo,hhi,hgm⟩:=hI;have hzk:=adp l k;dsimp only [lca,aO] at H;refine kP H (SQ fun _ K4=>SR fun _ K5=>Rm rfl (Rm rfl (Rl ku rfl (Rc rfl (Kz K5 (Cd rfl ?_ ?_)))))) <;> clear H K5
 ·intro gy a H
  try have pO:=dT gy
  have hk2:k < l.length:=by omega
  obtain ⟨b,o,pA,pn,pc,dA,dn,dc,yA,yn,yc,cA,cn,cc,rfl,hrow,hhd,hcl⟩:=E5 hk2 hg;have r0:aG g b (o+k*6+0+0)=some (.slice pA pn pc):=aH hgm (hrow 0 _ rfl);have r3:aG g b (o+k*6+0+1+2)=some (.slice dA dn dc):=aH hgm (hrow 3 _ rfl);have r4:aG g b (o+k*6+0+1+3)=some (.slice yA yn yc):=aH hgm (hrow 4 _ rfl);have r5:aG g b (o+k*6+5)=some (.slice cA cn cc):=aH hgm (hrow 5 _ rfl);have hcn:=hcl.len;rw [bQ] at hcn;subst hcn;have hcc:=hcl.slice;have q1:=DV pn;have q2:=DV dn;have q3:=DV yn;have hzi:=uD l[k];have UN:=CK l[k].head;have l1:=hhd.props.len;have l2:=hhd.bV.len;have l3:=hhd.layers.len;have m1:=mP (l[k].head.props.map jL.dat);have m2:=mP (l[k].head.marks.bV.map nG.dat);have m3:=mP (l[k].head.marks.layers.map mH.dat);have hzs:=ape hk2;have hzt:=adp l (k+1);have aiD:=Fq l[k].cells;refine kP H (Kc K4 (SQ fun _ K6=>SB (SQ fun _ K7=>?_)));clear H K4;intro a H;refine dI hmx [[],[],[1],[1,2],[1,2,3],[],[],[5,6],[5,6,7],(ra 5 4),(ra 5 5),(ra 5 6),(ra 5 7),(ra 1 12),[],[],[14,15],[14,15,16],(ra 14 4),(ra 14 5),(ra 14 6),(ra 14 7),(ra 14 8),(ra 1 22),[],[],[24,25],[24,25,26],(ra 24 4),(ra 24 5),(ra 24 6),(ra 24 7),(ra 24 8),(ra 1 32),(ra 0 34),(ra 0 35)] [35] (by kernel_rfl) [_,_,_,vi lf,_,_,_,_,_,_,_,_,vi ((pn:Int).tdiv 8),_,_,_,_,_,_,_,_,_,vi ((dn:Int).tdiv 8),_,_,_,_,_,_,_,_,_,vi ((yn:Int).tdiv 8),_,_] H (aI (Z0 rfl (Rm rfl)) (Z0 rfl (Rm rfl)) (Z1 1 17 rfl (Rk rfl)) (Z1 2 18 rfl (Ro aD 0 rfl)) (aI (Z1 3 19 rfl (Rs rfl)) (Z0 rfl (Rm rfl)) (Z0 rfl (Rm rfl)) (Z2 5 21 6 22 rfl (Ri ku kQ rfl rfl)) (aI (Z1 7 23 rfl (Rf KF rfl)) (Z1 8 24 rfl (Rf BX rfl)) (X1 9 25 rfl fun hG=>Rg zx rfl (aH hG r0)) (Z1 10 26 rfl (Rl sQ rfl)) (aI ?_ (Z2 4 20 12 28 rfl (Rs rfl)) (Z0 rfl (Rm rfl)) (Z0 rfl (Rm rfl)) (aI (Z2 14 30 15 31 rfl (Ri ku kQ rfl rfl)) (Z1 16 32 rfl (Rf KF rfl)) (Z1 17 33 rfl (Rf zP rfl)) (Z1 18 34 rfl (Rf mY rfl)) (aI (X1 19 35 rfl fun hG=>Rg nC rfl (aH hG r3)) (Z1 20 36 rfl (Rl mQ rfl)) ?_ (Z2 13 29 22 38 rfl (Rs rfl)) (aI (Z0 rfl (Rm rfl)) (Z0 rfl (Rm rfl)) (Z2 24 40 25 41 rfl (Ri ku kQ rfl rfl)) (Z1 26 42 rfl (Rf KF rfl)) (aI (Z1 27 43 rfl (Rf zP rfl)) (Z1 28 44 rfl (Rf zO rfl)) (X1 29 45 rfl fun hG=>Rg Ah rfl (aH hG r4)) (Z1 30 46 rfl (Rl xX rfl)) (aI ?_ (Z2 23 39 32 48 rfl (Rs rfl)) (Z1 0 16 rfl (Rk rfl)) (cu rfl) dN))))))))) ?_
  ·refine eF 11 27 rfl rfl fun _ a w G1 hG HT H fin=>?_;refine DL _ H wn rfl rfl (by omega) rfl (by omega) (by omega) rfl ?_;clear H;intro a H;exact fin H iJ rfl
  ·refine eF 21 37 rfl rfl fun _ a w G1 hG HT H fin=>?_;refine DL _ H wn rfl rfl (by omega) rfl (by omega) (by omega) rfl ?_;clear H;intro a H;exact fin H iJ rfl
  ·refine eF 31 47 rfl rfl fun _ a w G1 hG HT H fin=>?_;refine DL _ H wn rfl rfl (by omega) rfl (by omega) (by omega) rfl ?_;clear H;intro a H;exact fin H iJ rfl
  clear H;intro a w G tT H hv;have H:=H.bg (hv 33 49 rfl rfl) rfl;have H:=H.bg (hv 34 50 rfl rfl) rfl;clear hv;refine bT aD 0 (vs:=[_]) _ H wn rfl rfl rfl rfl rfl rfl rfl rfl ?_;clear H;intro w H;dsimp only [List.set,setRow] at H;refine aJ ⟨rfl,?_⟩;refine K7 _ _ ?_;clear K7;refine aN (fun _ K8=>?_);refine aN (fun _ K9=>?_);obtain ⟨lf1,aiV⟩:∃ x,x=lf - 1 - (pn:Int).tdiv 8 - (dn:Int).tdiv 8 - (yn:Int).tdiv 8:=⟨_,rfl⟩;rw [← aiV] at H;have LA:∀ b o,g b=some o→G b=some o:=tT;obtain ⟨g1,hg1⟩:∃ x,x=G:=⟨_,rfl⟩;rw [← hg1] at H LA;refine kP H (SC (aM K9 rfl (SB ?_)));clear H K9;intro a H;skip;refine eT (ι:=Nat × Int × GH) (Tc:=[(0,_),(1,_),(2,_),(7,_)]) (Lc:=[]) (fun gh=>[(8,vi gh.1)]) (fun gh=>[qY bl gh.2.1]) (fun gh=>gh.2.2) (fun gh=>gh.1≤l[k].cells.length∧lf1 - 4*(iw (l[k].cells.take gh.1):Int)≤gh.2.1∧gh.2.1≤lf1∧(∀ b o,g b=some o→gh.2.2 b=some o)) (fun gh=>l[k].cells.length - gh.1) ((0,lf1,g1)) (by exact (H).sub ⟨rfl,rfl,rfl,rfl,rfl,aB⟩) ?_ ?_
  ·exact ⟨by omega,by show lf1 - 4*((0:Nat):Int)≤lf1;omega,Int.le_refl _,LA⟩
  clear H;rintro ⟨j,lf2,g2⟩ a w hI H;dsimp only at hI H;obtain ⟨hj,hlo2,hhi2,oP⟩:=hI;have kF:=fun b o h=>oP b o (hgm b o h);have aqd:=adj l[k].cells j;replace r5:=aH oP r5;dsimp only [lca,aO] at H;refine kP H (SQ fun _ aV=>SR fun _ bF=>Rm rfl (Rm rfl (Rm rfl (Ri ku kQ rfl rfl (Rf ru rfl (Rg rY rfl (by assumption) ?_))))));clear H;intro a H;refine kH H (Rl mE rfl (Rc rfl (Kz bF (Cd rfl ?_ ?_)))) <;> clear H bF
  ·intro iZ a H
   try have p58:=dT iZ
   have hj2:j < l[k].cells.length:=by omega
   obtain ⟨b2,o2,qA,qn,qc,eA,en,ec,zA,zn,zc,fA,fn,fc,rfl,hrow2,LB,TQ⟩:=C8 hj2 hcl.at_;have t2:aG g2 b2 (o2+j*7+6)=some (.slice fA fn fc):=aH kF (hrow2 6 _ rfl);have p1:=DV qn;have p2:=DV en;have p3:=DV zn;have aki:=uz l[k].cells[j];have aqc:=CK l[k].cells[j].head;have l4:=LB.props.len;have l5:=LB.bV.len;have l6:=LB.layers.len;have m4:=mP (l[k].cells[j].head.props.map jL.dat);have m5:=mP (l[k].cells[j].head.marks.bV.map nG.dat);have m6:=mP (l[k].cells[j].head.marks.layers.map mH.dat);have akj:=apb hj2;have aqf:=adj l[k].cells (j+1);refine kP H (Kc aV (SQ fun _ bG=>SB (SR fun _ bM=>Rm rfl (Rm rfl (Ri ku kQ rfl rfl (Rf ru rfl (Rg rY rfl (by assumption) ?_)))))));clear H aV;intro a H;refine kH H (Rm rfl (Ri mE kg rfl rfl (Rf Rw rfl ?_)));clear H;intro a H;refine bP vC (cs:=[.slice qA qn qc,vi l[k].cells[j].head.marks.ins,vi l[k].cells[j].head.marks.move,.slice eA en ec,.slice zA zn zc]) H wn rfl rfl (fun i v hi=>H.hp.aG (aH kF (aiO hrow2 i v hi))) rfl ?_;clear H;intro a H;refine eH vC H wn rfl ?_;clear H;intro b9 a w wD H;refine bT vC 0 (vs:=[_,_,_,_,_]) _ H wn rfl rfl rfl rfl rfl rfl rfl rfl ?_;clear H;intro w H;dsimp only [List.set,setRow] at H;refine bM _ _ ?_;clear bM;refine aN (fun _ bN=>?_);refine dI hmx [[],[],[1],[1,2],[1,2,3],[],[5],[5,6],[5,6,7],(ra 1 8),[],[10],[10,11],[10,11,12],(ra 10 4),(ra 1 14),[],[16],[16,17],[16,17,18],(ra 16 4),(ra 1 20),(ra 0 22),(ra 0 23)] [23] (by kernel_rfl) [_,_,_,vi lf2,_,_,.slice qA qn qc,_,vi ((qn:Int).tdiv 8),_,_,_,.slice eA en ec,_,vi ((en:Int).tdiv 8),_,_,_,.slice zA zn zc,_,vi ((zn:Int).tdiv 8),_,_] H (aI (Z0 rfl (Rm rfl)) (Z0 rfl (Rm rfl)) (Z1 1 71 rfl (Rk rfl)) (Z1 2 72 rfl (Ro aD 1 rfl)) (aI (Z1 3 73 rfl (Rs rfl)) (Z0 rfl (Rf BX rfl)) (Z1 5 75 rfl (Ro zx 0 rfl)) (Z1 6 76 rfl (Rl sQ rfl)) (aI ?_ (Z2 4 74 8 78 rfl (Rs rfl)) (Z0 rfl (Rf zP rfl)) (Z1 10 80 rfl (Rf mY rfl)) (aI (Z1 11 81 rfl (Ro nC 0 rfl)) (Z1 12 82 rfl (Rl mQ rfl)) ?_ (Z2 9 79 14 84 rfl (Rs rfl)) (aI (Z0 rfl (Rf zP rfl)) (Z1 16 86 rfl (Rf zO rfl)) (Z1 17 87 rfl (Ro Ah 0 rfl)) (Z1 18 88 rfl (Rl xX rfl)) (aI ?_ (Z2 15 85 20 90 rfl (Rs rfl)) (Z1 0 70 rfl (Rk rfl)) (cu rfl) dN)))))) ?_
   ·refine eF 7 77 rfl rfl fun _ a w G1 hG HT H fin=>?_;refine DL _ H wn rfl rfl (by omega) rfl (by omega) (by omega) rfl ?_;clear H;intro a H;exact fin H iJ rfl
   ·refine eF 13 83 rfl rfl fun _ a w G1 hG HT H fin=>?_;refine DL _ H wn rfl rfl (by omega) rfl (by omega) (by omega) rfl ?_;clear H;intro a H;exact fin H iJ rfl
   ·refine eF 19 89 rfl rfl fun _ a w G1 hG HT H fin=>?_;refine DL _ H wn rfl rfl (by omega) rfl (by omega) (by omega) rfl ?_;clear H;intro a H;exact fin H iJ rfl
   clear H;intro a w G zS H hv;have H:=H.bg (hv 21 91 rfl rfl) rfl;have H:=H.bg (hv 22 92 rfl rfl) rfl;clear hv;refine bT aD 1 (vs:=[_]) _ H wn rfl rfl rfl rfl rfl rfl rfl rfl ?_;clear H;intro w H;dsimp only [List.set,setRow] at H;refine aJ ⟨rfl,?_⟩;refine bN _ _ ?_;clear bN;refine kP H (SR fun _ bW=>Rm rfl (Rk rfl (Ro aD 1 rfl (Rc rfl (Rm rfl (Sp 97 rfl ?_ ?_)))))) <;> clear H
   ·intro h97 a H
    try have p97:=dT h97
    exact kH H (aS h97 rfl (Pt h97 rfl (Rm rfl (aZ rfl rfl (aZ rfl rfl (aZ rfl rfl (aZ rfl rfl (aS rfl rfl (Pt rfl rfl (Kz bW (Ct rfl rfl (SR fun _ cK=>ak cK rfl (LR results89 rfl fun H=>H.hp.bR (L':=[qY bl _]) (by repeat (first|exact bZ _|apply List.Sublist.cons)) ⟨_,_,rfl,rfl,by omega,by omega⟩)))))))))))))
   intro h97 a H
   try have p97:=dF h97
   replace r5:=aH zS r5;replace t2:=aH zS t2;refine kH H (YM h97 rfl (YC h97 rfl (Pf h97 rfl (Rm rfl (Sp 101 rfl ?_ ?_))))) <;> clear H
   ·intro mK a H
    try have Ma:=dT mK
    exact kH H (aZ mK rfl (aZ mK rfl (aZ mK rfl (aZ mK rfl (aS mK rfl (Pt mK rfl (Kz bW (Ct rfl rfl (SR fun _ bS=>ak bS rfl (LR results89 rfl fun H=>H.hp.bR (L':=[qY bl _]) (by repeat (first|exact bZ _|apply List.Sublist.cons)) ⟨_,_,rfl,rfl,by omega,by omega⟩))))))))))
   intro mK a H
   try have Ma:=dF mK
   refine kH H (YM mK rfl (YM mK rfl (YI ku kQ mK rfl rfl (YF ru mK rfl (YR rY mK rfl (by assumption) ?_)))));clear H;intro a H;refine kH H (YM mK rfl (YI mE kg mK rfl rfl (YF Df mK rfl (YR jJ mK rfl (by assumption) ?_))));clear H;intro a H;refine kH H (YM mK rfl ?_);clear H;intro a H;refine mD _ H (wg H rfl rfl mK) rfl rfl rfl (by omega) (by omega) rfl ?_;clear H;intro a H;refine kH H (YM mK rfl ?_);clear H;intro a H;refine gP Q9 (Li:=[_]) (L:=[qY bl _]) (H.dB (Pl:=[_,_]) (cB:=[_,_]) [0,1] (by decide) rfl) (wg H rfl rfl mK) rfl (ih _ _ l[k].cells[j].flow _ (tZ - 1) _ bl (Hp.owns (Li:=[_]) (H.dB (Pl:=[_,_]) (cB:=[_,_]) [0,1] (by decide) rfl).hp) (TQ.mono fun b o h=>zS b o (kF b o h)) (by omega) (by omega) (by omega) (by omega) (by omega)) rfl ?_;clear H;rintro aqw adr apk a w ⟨apn,lf3,rfl,rfl,hlo3,hhi3⟩ aiY H;dsimp only [lca,aO] at H;refine kH H (YN mK rfl (Pf mK rfl (Kz bW (Cd rfl ?_ ?_)))) <;> clear H bW
   ·intro h116 a H
    try have O5:=dT h116
    exact kP H (SR fun _ dD=>ak dD rfl (LR results89 rfl fun H=>H.hp.bR (L':=[qY bl _]) (by repeat (first|exact bZ _|apply List.Sublist.cons)) ⟨_,_,rfl,rfl,by omega,by omega⟩))
   intro h116 a H
   try have O5:=dF h116
   refine kP H (Kc bG (SC (Rm rfl (Rd rfl (Ra rfl ?_)))));clear H bG;intro a H;refine aJ ?_;refine dH ((j+1,lf3,adr)) (by exact (H.dB (Pl:=[_,_]) (cB:=[_]) [1] (by decide) rfl).sub ⟨rfl,rfl,rfl,rfl,rfl,aB⟩) ?_ ?_
   ·(try dsimp only);exact ⟨by omega,by omega,by omega,fun b o h=>aiY b o (zS b o (oP b o h))⟩
   first|omega|(dsimp only;omega)
  intro iZ a H
  try have p58:=dF iZ
  refine dR ?_;refine K8 _ _ ?_;clear K8;refine kP H (SR fun _ dO=>Rm rfl (Rk rfl (Ro aD 0 rfl (Rc rfl (Kz dO (Cd rfl ?_ ?_)))))) <;> clear H dO
  ·intro mM a H
   try have EU:=dT mM
   exact kP H (SR fun _ dK=>ak dK rfl (LR results89 rfl fun H=>H.hp.bR (L':=[qY bl _]) (by repeat (first|exact bZ _|apply List.Sublist.cons)) ⟨_,_,rfl,rfl,by omega,by omega⟩))
  intro mM a H
  try have EU:=dF mM
  refine kP H (Kc K6 (SC (Rm rfl (Rd rfl (Ra rfl ?_)))));clear H K6;intro a H;refine aJ ?_;refine dH ((k+1,lf2,g2)) (by exact (H).sub ⟨rfl,rfl,rfl,rfl,aB⟩) ?_ ?_
  ·(try dsimp only);exact ⟨by omega,by omega,by omega,kF⟩
  first|omega|(dsimp only;omega)
 intro gy a H
 try have pO:=dF gy
 refine dR ?_;refine K2 _ _ ?_;clear K2;exact kP H (SR fun _ dS=>ak dS rfl (LR results89 rfl fun H=>H.hp.bR (L':=[qY bl _]) (by repeat (first|exact bZ _|apply List.Sublist.cons)) ⟨_,_,rfl,rfl,by omega,by omega⟩))
theorem VO:∀ n:Nat,n≤4294967296→M4 n
 | 0,_=>fun _ _ _ _ _ _ _ _ _ hz=>absurd hz (Nat.not_lt_zero _)
 | n+1,h=>anA (VO n (by omega)) (by omega) (fun G w0 l v tZ left bl hO hv hz h1 h2 h3 h4=>anB (VO n (by omega)) (by omega) G w0 l v tZ left bl hO hv hz h1 h2 h3 h4)
theorem abP (G:GH) (w0:World) (hG:Hold G w0) (l:List ay) (v:aj) (hv:aC G (.sl 11 (l.map ay.dat)) v) (hz:bq l≤1073741824) :
  Calls prog 10 #[v] w0 (bY w0 G fun u G'=>∃ b,u=.bool b):=by
 refine eN [(0,_)] func10 rfl ntmps10 rfl rfl hG ?_;intro a H;refine kP H (SR fun _ K1=>ak K1 rfl (SR fun _ K2=>?_));clear H K1;intro a H;refine eH aD H wn rfl ?_;clear H;intro b3 a w hb3 H;refine bT aD 0 (vs:=[_]) _ H wn rfl rfl rfl rfl rfl rfl rfl rfl ?_;clear H;intro w H;dsimp only [List.set,setRow] at H;refine K2 _ _ ?_;clear K2;refine kP H (SR fun _ K3=>Rm rfl ?_);clear H;intro a H;refine gP Q9 (Li:=[]) (L:=[qY b3 300]) H wn rfl (VO 4294967296 (dw _) _ _ l v 12 300 b3 (Hp.owns (Li:=[]) H.hp) hv (by omega) (by decide) (by decide) (by decide) (by omega)) rfl ?_;clear H;rintro v5 G5 L5 a w ⟨b5,lf5,rfl,rfl,-,-⟩ ZR H;exact kH H (ak K3 rfl (LR results10 rfl fun H=>H.rt ⟨_,rfl⟩))
end
section
open Go.RowKit
theorem agF:∀ args w,(callFunc 40 args).run prog w=.ok (.enter 40 args) w:=enters func40 rfl (by kernel_rfl)
theorem abX:sU prog 56 [(0,11),(11,1),(12,1),(13,1)] [.slice none 0 0,.slice none 0 0,.int .i64 0,.int .i64 0,.slice none 0 0,.slice none 0 0,.slice none 0 0,.slice none 0 0,.slice none 0 0,.slice none 0 0,.slice none 0 0,.slice none 0 0,.slice none 0 0,.int .i64 0]:=⟨by kernel_rfl,by kernel_rfl⟩
theorem Yu:∀ args w,(callFunc 10 args).run prog w=.ok (.enter 10 args) w:=enters func10 rfl (by kernel_rfl)
theorem agE:∀ args w,(callFunc 38 args).run prog w=.ok (.enter 38 args) w:=enters func38 rfl (by kernel_rfl)
set_option maxHeartbeats 4000000 in
theorem akV (G:GH) (w0:World) (hG:Hold G w0) (D:jT) (d:qR) (hR:BF G D d) (hz:Fw d) :
  Calls prog 11 #[D.val] w0 (bY w0 G fun u G'=>u=vi (jk d)):=by
 obtain ⟨df,dp,dd,dy,⟨rA,rn,rc⟩,d1,d2,d3,d4,ins,mv⟩:=D;obtain ⟨hfl,hhd,hin,hmv,nN,hst⟩:=hR;dsimp only at hfl hhd hin hmv nN hst;subst hin;subst hmv;obtain ⟨zf,zh,zr,zt,zs,zg⟩:=hz;have hdl:=hhd.bV.len;rw [bQ] at hdl
 have hdn:d.fin.marks.bV.length≤4294967296:=by
  have h1:=CK d.fin;have h2:=mP (d.fin.marks.bV.map nG.dat);rw [bQ] at h2;omega
 have hrl:=nN.len;rw [bQ] at hrl;dsimp only at hrl;subst hrl;refine eN [(0,_)] func11 rfl ntmps11 rfl rfl hG ?_;intro a H;refine dh (fun _ K1=>?_);refine fB (cs:=[_,_,_,_,_,_,_,_,_,_,_]) H wn rfl rfl rfl ?_;clear H;intro b1 a w hb1 H;refine kH H (ak K1 rfl (SQ fun _ K2=>SQ fun _ K3=>?_));clear H K1;intro a H;obtain ⟨Ga,hma,hb1',H⟩:=H.dW;have hgs:=fun j v hj=>EB hb1' 7 [bU d1,bU d2,bU d3,bU d4] rfl j v hj;have hgh:=fun j v hj=>EB hb1' 1 [bU dp,vi d.fin.marks.ins,vi d.fin.marks.move,bU dd,bU dy] rfl j v hj;have hgm:=fun j v hj=>EB hb1' 2 [vi d.fin.marks.ins,vi d.fin.marks.move,bU dd,bU dy] rfl j v hj
 have hgr:aG Ga b1 6=some (.slice rA d.revs.length rc):=by unfold aG;rw [hb1'];rfl
 have hgf:aG Ga b1 0=some (bU df):=by unfold aG;rw [hb1'];rfl
 have hga:=fun j v hj=>EB hb1' 0 [bU df,bU dp,vi d.fin.marks.ins,vi d.fin.marks.move,bU dd,bU dy,.slice rA d.revs.length rc,bU d1,bU d2,bU d3,bU d4] rfl j v hj;replace hfl:=hfl.mono hma;replace hhd:=hhd.mono hma;replace nN:=nN.mono hma;replace hst:=hst.mono hma;refine kP H (SC (Rf Dh rfl ?_));clear H;intro a H;refine bP V9 (cs:=[bU d1,bU d2,bU d3,bU d4]) H wn rfl rfl (fun j v hj=>H.hp.aG (hgs j v hj)) rfl ?_;clear H;intro a H;refine s_call agF H wn rfl (alj _ _ H.ro d.iI _ _ _ _ hst zg) rfl ?_;clear H;rintro v13 Ao a w rfl rQ H;refine kH H (aM K3 rfl (SR fun _ K4=>Rm rfl (Rc rfl (Kz K4 (Cd rfl ?_ ?_))))) <;> clear H K3 K4
 ·intro jI a H
  try have pQ:=dT jI
  refine aN (fun _ K5=>?_)
  have e:jk d=jX d.iI:=by rw [jk,bK,bK,au pQ,au pQ]
  exact kP H (SC (Rm rfl (aM K5 rfl (LR results11 rfl fun H=>H.rt (av vi e.symm)))))
 intro jI a H
 try have pQ:=dF jI
 have e1:jX d.iI=0:=gu.1 pQ
 have hE1:jk d=bK [xq d.revs,bK [fK d.mJ 3 d.fin,bE (rR d.fin.marks) 21],(fq d.mJ true false 0 d.flow ⟨0,[]⟩).1,bE (decide (16384 < (fq d.mJ true false 0 d.flow ⟨0,[]⟩).2.n)) 9]:=by
  rw [jk,iV e1,Cc]
 replace hgr:=aH rQ hgr;replace nN:=nN.mono rQ;refine kP H (Kc K2 (SQ fun _ K6=>SR fun _ K7=>Rf Dg rfl (Rg xW rfl (by assumption) ?_)));clear H K2;intro a H;refine kH H (Rl xY rfl (Rc rfl (Kz K7 (Cd rfl ?_ ?_)))) <;> clear H K7
 ·intro h20 a H
  try have qw:=dT h20
  refine aN (fun _ K8=>?_)
  have e:jk d=9:=by
   have h:xq d.revs=9:=OU (m:=256) (by omega);rw [hE1,vX (by rw [h];decide),h]
  exact kP H (SC (aM K8 rfl (LR results11 rfl fun H=>H.rt (av vi e.symm))))
 intro h20 a H
 try have qw:=dF h20
 have hRv:xq d.revs=iC (zo d.revs) d.revs.length:=OT (m:=256) (by omega);refine kP H (Kc K6 (SQ fun _ K9=>SR fun _ aV=>ak aV rfl (SB ?_)));clear H K6 aV;intro a H;skip;refine eT (ι:=Nat × GH) (Tc:=[(1,_)]) (Lc:=[]) (fun gh=>[(4,vi gh.1)]) (fun gh=>[]) (fun gh=>gh.2) (fun gh=>gh.1≤d.revs.length∧bK (((List.range d.revs.length).map (zo d.revs)).drop gh.1)=iC (zo d.revs) d.revs.length∧(∀ b o,Ao b=some o→gh.2 b=some o)) (fun gh=>d.revs.length - gh.1) ((0,Ao)) (by exact (H).sub ⟨rfl,rfl,aB⟩) ?_ ?_
 ·exact ⟨gX _,rfl,fun _ _ h=>h⟩
 clear H;rintro ⟨k,g⟩ a w hI H;dsimp only at hI H;obtain ⟨hk,he,oP⟩:=hI;have aiS:=aH oP hgr;have aag:=nN.mono oP;dsimp only [lca,aO] at H;refine kP H (SQ fun _ bF=>SR fun _ bG=>Rm rfl (Rf Dg rfl (Rg xW rfl (by assumption) ?_)));clear H;intro a H;refine kH H (Rl xY rfl (Rc rfl (Kz bG (Cd rfl ?_ ?_)))) <;> clear H bG
 ·intro gN a H
  try have p25:=dT gN
  have hk2:k < d.revs.length:=by omega
  have hk1:k - 1 < d.revs.length:=by omega
  obtain ⟨lb,lo,rfl,hrow⟩:=JE aag hk2;obtain ⟨_,_,GJ,hrow'⟩:=JE aag hk1
  injection GJ with GJ
  injection GJ with KC e2'
  subst KC;subst e2';have hte:=zt _ (jv hk2);obtain ⟨x,hx⟩:∃ x,x=d.revs[k]:=⟨_,rfl⟩
  have hek:zo d.revs k=Mj d.revs k x:=by unfold zo;rw [fP hk2,hx]
  unfold Mj at hek
  have hinc:wJ x.id d.revs[k - 1].id (decide ((k:Int)=0))=kI (fun k=>(d.revs[k]?.map dU.id).getD 0) k:=by
   rw [← UR];(try dsimp only);rw [fP hk2,fP hk1,hx];simp
  rw [← hx] at hrow hte
  have OC:∀ e,zo d.revs k=e→e≠0→jk d=e:=fun e h1 h2=>by
   have h3:xq d.revs=e:=by rw [hRv,yG hk2 he (by rw [h1];exact h2),h1]
   rw [hE1,vX (by rw [h3];exact h2),h3]
  refine kP H (Kc bF (SQ fun _ bM=>SB (SR fun _ bN=>Rf Dg rfl (Rg xW rfl (by assumption) ?_))));clear H bF;intro a H;refine kH H (Rm rfl (Ri xY zy rfl rfl ?_));clear H;intro a H;refine bP zy (cs:=x.cells) H wn rfl rfl (fun j v hj=>H.hp.aG (hrow j v hj)) rfl ?_;clear H;intro a H;refine eH zy H wn rfl ?_;clear H;intro b5 a w hb5 H;refine bT zy 0 (vs:=[_,_,_]) _ H wn rfl rfl rfl rfl rfl rfl rfl rfl ?_;clear H;intro w H;dsimp only [List.set,setRow] at H;refine bN _ _ ?_;clear bN;refine aN (fun _ bW=>?_);refine aN (fun _ cK=>?_);refine dI hmx [[],[0],[],[2],[],[4],[4,5],(ra 2 5),(ra 2 6),(ra 2 7),[],[10],(ra 0 12),(ra 0 13)] [13] (by kernel_rfl) [_,vi x.id,_,_,_,_,vi ((k - 1:Nat):Int),_,_,_,_,_,vi (kI (fun k=>(d.revs[k]?.map dU.id).getD 0) k)] H (aI (Z0 rfl (Rf KO rfl)) (Z1 0 33 rfl (Ro aD 0 rfl)) (Z0 rfl (Rf Dg rfl)) (X1 2 35 rfl fun hG=>Rg xW rfl (aH hG aiS)) (aI (Z0 rfl (Rm rfl)) (Z1 4 37 rfl (Rs rfl)) ?_ (Z2 3 36 6 39 rfl (Ri xY zy rfl rfl)) (aI (Z1 7 40 rfl (Rf KO rfl)) (X1 8 41 rfl fun hG=>Rg aD rfl (aH hG (hrow' 0 _ rfl))) (Z0 rfl (Rm rfl)) (Z1 10 43 rfl (Rc rfl)) (bC ?_ (bC (cu rfl) dN))))) ?_
  ·refine eF 5 38 rfl rfl fun _ a w G1 hG HT H fin=>?_;refine E9 H wn rfl rfl rfl ?_;clear H;intro a H;exact fin H iJ (av vi (by omega))
  ·refine vK 1 34 9 42 11 44 rfl rfl fun _ a w G1 hG HT H fin=>?_;refine s_call Rb H wn rfl (UU _ _ H.ro x.id d.revs[k - 1].id (decide ((k:Int)=0))) rfl ?_;clear H;rintro v45 G45 a w ⟨rfl,-⟩ ahP H;exact fin H ahP (av vi hinc)
  clear H;intro a w G rM H hv;have H:=H.bg (hv 12 45 rfl rfl) rfl;clear hv;refine kH H (Ra rfl ?_);clear H;intro a H;refine aJ ⟨rfl,?_⟩;refine cK _ _ ?_;clear cK;refine kP H (SR fun _ bS=>Rm rfl (Rc rfl (Kz bS (Cd rfl ?_ ?_)))) <;> clear H bS
  ·intro h47 a H
   try have p47:=dT h47
   refine aN (fun _ dD=>?_);have e:jk d=kI (fun k=>(d.revs[k]?.map dU.id).getD 0) k:=OC _ (by rw [hek,vX p47]) p47;exact kP H (SC (Rm rfl (aM dD rfl (LR results11 rfl fun H=>H.rt (av vi e.symm)))))
  intro h47 a H
  try have p47:=dF h47
  refine kP H (Kc bW (SB (SR fun _ dO=>aT Y8 gW 0 rfl rfl ?_)));clear H bW;intro a H;refine s_call YH H wn rfl (XH _ _ H.ro x.author hte) rfl ?_;clear H;rintro v52 _ a w ⟨rfl,rfl⟩ - H;refine kH H (Rn rfl (ak dO rfl (Cd rfl ?_ ?_))) <;> clear H dO
  ·intro pG a H
   refine aN (fun _ dK=>?_);have e:jk d=39:=OC _ (by rw [hek,iV (gu.1 p47),show (!pz x.author)=true from pG];rfl) (by decide);exact kP H (SC (aM dK rfl (LR results11 rfl fun H=>H.rt (av vi e.symm))))
  intro pG a H
  try have p49:=dF pG
  have Fp:bE (!pz x.author) 39=0:=by rw [show (!pz x.author)=false from pG];rfl
  refine kP H (SR fun _ dS=>aT RI aD 0 rfl rfl (Rc rfl (Rm rfl (Sp 58 rfl ?_ ?_)))) <;> clear H
  ·intro iZ a H
   try have p58:=dT iZ
   refine kH H (aZ iZ rfl (Pt iZ rfl (ak dS rfl (Ct rfl rfl (SQ fun _ eP=>?_)))));clear H dS;intro a H;have e:jk d=40:=OC _ (by rw [hek,iV (gu.1 p47),iV Fp,gY (by omega)];rfl) (by decide);exact kP H (SC (aM eP rfl (LR results11 rfl fun H=>H.rt (av vi e.symm))))
  intro iZ a H
  try have p58:=dF iZ
  refine kH H (YF RI iZ rfl (YO aD 0 iZ rfl (YC iZ rfl (Pf iZ rfl (ak dS rfl (Cd rfl ?_ ?_)))))) <;> clear H dS
  ·intro iG a H
   try have p54:=dT iG
   refine aN (fun _ gG=>?_);have e:jk d=40:=OC _ (by rw [hek,iV (gu.1 p47),iV Fp,gY (by omega)];rfl) (by decide);exact kP H (SC (aM gG rfl (LR results11 rfl fun H=>H.rt (av vi e.symm))))
  intro iG a H
  try have p54:=dF iG
  have PY:bE (!decide (0≤x.time∧x.time≤1099511627776)) 40=0:=by rw [dQ (by omega)];rfl
  refine kP H (Kc bM (SC (Rm rfl (Rd rfl (Ra rfl ?_)))));clear H bM;intro a H;refine aJ ?_;refine dH ((k+1,_)) (by exact (H.dB (Pl:=[_]) (cB:=[]) [] (by decide) rfl).sub ⟨rfl,rfl,aB⟩) ?_ ?_
  ·(try dsimp only);exact ⟨by omega,M6 hk2 he (by rw [hek,iV (gu.1 p47),iV Fp,iV PY];rfl),fun b o h=>rM b o (oP b o h)⟩
  first|omega|(dsimp only;omega)
 intro gN a H
 try have p25:=dF gN
 have ahY:xq d.revs=0:=by rw [hRv,M5 (by omega) he]
 rw [iV ahY] at hE1;have hgg:∀ b o,Ga b=some o→g b=some o:=fun b o h=>oP b o (rQ b o h);replace hhd:=hhd.mono hgg;replace hfl:=hfl.mono hgg;have hmk:Au [] (.slice none 0 0) g ⟨df,dp,dd,dy,⟨rA,d.revs.length,rc⟩,d1,d2,d3,d4,d.fin.marks.ins,d.fin.marks.move⟩ d.iI.styles d.iI.lists d.revs:=⟨hst.st.mono hgg,hst.li.mono hgg,nN.mono oP,aC.lD rfl (by decide)⟩;have hmz:Eh d.iI.styles d.iI.lists d.revs:=⟨Pz (oK e1 _ jB),zs,zg.ln,zr⟩;have aiQ:=aH hgg hgf;refine dR ?_;refine K9 _ _ ?_;clear K9;refine dh (fun _ gT=>?_);refine bP lX H wn rfl rfl (fun j v hj=>H.hp.aG (aH hgg (hga j v hj))) rfl ?_;clear H;intro a H;refine lJ abX [_,_,_,_,_,_,_,_,_,_,_,_,_,_] H wn rfl rfl rfl rfl ?_;clear H;intro a H;refine fB (cs:=[_,_,_,_,_,_,_,_,_,_,_,_,_,_]) H wn rfl rfl rfl ?_;clear H;intro M8 a w apJ H;refine kH H (ak gT rfl (SQ fun _ gM=>SR fun _ jf=>Rm rfl (Rf F9 rfl ?_)));clear H gT;intro a H;refine bP vC (cs:=[bU dp,vi d.fin.marks.ins,vi d.fin.marks.move,bU dd,bU dy]) H wn rfl rfl (fun j v hj=>H.hp.aG (aH hgg (hgh j v hj))) rfl ?_;clear H;intro a H;refine gP NA (Li:=[]) (L:=[iP (.slice none 0 0) ⟨df,dp,dd,dy,⟨rA,d.revs.length,rc⟩,d1,d2,d3,d4,d.fin.marks.ins,d.fin.marks.move⟩ M8 (.slice none 0 0) 0]) H wn rfl (OY _ _ _ _ _ _ _ M8 (.slice none 0 0) 0 hmk hmz (Hp.owns (Li:=[]) H.hp) 3 d.fin _ _ _ hhd zh) rfl ?_;clear H;rintro v69 _ _ a w ⟨rfl,rfl,rfl⟩ - H;dsimp only [List.nil_append] at H;refine kH H (ak jf rfl (SR fun _ jq=>Rm rfl (Rc rfl (Kz jq (Cd rfl ?_ ?_))))) <;> clear H jf jq
 ·intro tN a H
  try have p71:=dT tN
  refine aN (fun _ iQ=>?_)
  have e:jk d=fK d.mJ 3 d.fin:=by rw [hE1,vX p71,vX p71]
  exact kP H (SC (Rm rfl (aM iQ rfl (LR results11 rfl fun H=>H.rt (av vi e.symm)))))
 intro tN a H
 try have p71:=dF tN
 rw [iV (gu.1 p71),Cc] at hE1;refine kP H (Kc gM (SQ fun _ kT=>SR fun _ kU=>Rf F9 rfl (Rf zP rfl ?_)));clear H gM;intro a H;refine bP Ai (cs:=[vi d.fin.marks.ins,vi d.fin.marks.move,bU dd,bU dy]) H wn rfl rfl (fun j v hj=>H.hp.aG (aH hgg (hgm j v hj))) rfl ?_;clear H;intro a H;refine eH Ai H wn rfl ?_;clear H;intro b9 a w wD H;refine bT Ai 0 (vs:=[_,_,_,_]) _ H wn rfl rfl rfl rfl rfl rfl rfl rfl ?_;clear H;intro w H;dsimp only [List.set,setRow] at H;refine kU _ _ ?_;clear kU;refine kP H (SR fun _ jG=>aT vW aD 0 rfl rfl (Rc rfl (Rm rfl (Sp 79 rfl ?_ ?_)))) <;> clear H
 ·intro iH a H
  try have mq:=dT iH
  refine kH H (aZ iH rfl (Pt iH rfl (Rm rfl (aS rfl rfl (aS rfl rfl (Pt rfl rfl (Kz jG (Ct rfl rfl (SQ fun _ kZ=>?_)))))))));clear H jG;intro a H
  have e:jk d=21:=by
   have h:rR d.fin.marks=true:=dQ (by simp_all);rw [hE1,h];rfl
  exact kP H (SC (aM kZ rfl (LR results11 rfl fun H=>H.rt (av vi e.symm))))
 intro iH a H
 try have mq:=dF iH
 refine kH H (YF yM iH rfl (YO aD 0 iH rfl (YC iH rfl (Pf iH rfl (Rm rfl (Sp 84 rfl ?_ ?_)))))) <;> clear H
 ·intro h84 a H
  try have Vt:=dT h84
  refine kH H (aS h84 rfl (aS h84 rfl (Pt h84 rfl (Kz jG (Ct rfl rfl (SQ fun _ lg=>?_))))));clear H jG;intro a H
  have e:jk d=21:=by
   have h:rR d.fin.marks=true:=dQ (by simp_all);rw [hE1,h];rfl
  exact kP H (SC (aM lg rfl (LR results11 rfl fun H=>H.rt (av vi e.symm))))
 intro h84 a H
 try have Vt:=dF h84
 refine kH H (YF mY h84 rfl (YO nC 0 h84 rfl (YL mQ h84 rfl (YC h84 rfl (Pf h84 rfl (Kz jG (Cd rfl ?_ ?_))))))) <;> clear H jG
 ·intro Sz a H
  try have p89:=dT Sz
  refine aN (fun _ lK=>?_)
  have e:jk d=21:=by
   have h:rR d.fin.marks=true:=dQ (by simp_all);rw [hE1,h];rfl
  exact kP H (SC (aM lK rfl (LR results11 rfl fun H=>H.rt (av vi e.symm))))
 intro Sz a H
 try have p89:=dF Sz
 have hmb:rR d.fin.marks=false:=gY (by simp_all);rw [hmb,iV (show bE false 21=0 from rfl)] at hE1;refine kP H (Kc kT (SQ fun _ lM=>SR fun _ lN=>Rm rfl (Rf BZ rfl (Rg jJ rfl aiQ ?_))));clear H kT;intro a H;refine gP Ny (Li:=[_]) (L:=[iP (.slice none 0 0) ⟨df,dp,dd,dy,⟨rA,d.revs.length,rc⟩,d1,d2,d3,d4,d.fin.marks.ins,d.fin.marks.move⟩ M8 (.slice none 0 0) 0]) H wn rfl (U3 4294967297 (by omega) _ _ [] _ _ _ _ _ M8 _ ⟨0,[]⟩ d.flow _ true false 0 hmk hmz ⟨[],rfl,gQ.nil⟩ (Hp.owns (Li:=[_]) H.hp) hfl (by omega) (by omega) (by omega) (by decide) (by dsimp only;omega) (by dsimp only [List.length_nil];omega)) rfl ?_;clear H;rintro v93 _ _ a w ⟨rfl,v5,L5,s5,rfl,rfl,hv5,h5⟩ - H;dsimp only [lca,aO] at H;refine kH H (ak lN rfl (SR fun _ lY=>Rm rfl (Rc rfl (Kz lY (Cd rfl ?_ ?_))))) <;> clear H lN lY
 ·intro Gj a H
  try have DK:=dT Gj
  refine aN (fun _ qD=>?_)
  have e:jk d=(fq d.mJ true false 0 d.flow ⟨0,[]⟩).1:=by rw [hE1,vX DK]
  exact kP H (SC (Rm rfl (aM qD rfl (LR results11 rfl fun H=>H.rt (av vi e.symm)))))
 intro Gj a H
 try have DK:=dF Gj
 rw [iV (gu.1 DK),Cc] at hE1;have hs5:=h5 (gu.1 DK);subst hs5;refine kP H (Kc lM (SQ fun _ vH=>SR fun _ kV=>Rm rfl (Rk rfl (aT NM aD 1 rfl rfl (Rc rfl (Kz kV (Cd rfl ?_ ?_))))))) <;> clear H lM kV
 ·intro mK a H
  try have Ma:=dT mK
  refine aN (fun _ yC=>?_)
  have e:jk d=9:=by rw [hE1,dQ Ma];rfl
  exact kP H (SC (aM yC rfl (LR results11 rfl fun H=>H.rt (av vi e.symm))))
 intro mK a H
 try have Ma:=dF mK
 refine fF ?_;refine vH _ _ ?_;clear vH;refine aN (fun _ vI=>?_)
 have e:jk d=0:=by rw [hE1,gY Ma];rfl
 exact kP H (SC (aM vI rfl (LR results11 rfl fun H=>H.rt (av vi e.symm))))
theorem anz (G:GH) (w0:World) (hG:Hold G w0) (D:jT) (d:qR) (hR:BF G D d) (hz:Fw d) :
  Calls prog 9 #[D.val] w0 (bY w0 G fun u G'=>∃ b,u=.bool b):=by
 obtain ⟨df,dp,dd,dy,dr,d1,d2,d3,d4,ins,mv⟩:=D;obtain ⟨hfl,hhd,hin,hmv,nN,hst⟩:=hR;dsimp only at hfl hhd hin hmv nN hst;subst hin;subst hmv;refine eN [(0,_)] func9 rfl ntmps9 rfl rfl hG ?_;intro a H;refine dh (fun _ K1=>?_);refine fB (cs:=[_,_,_,_,_,_,_,_,_,_,_]) H wn rfl rfl rfl ?_;clear H;intro b1 a w hb1 H;refine kH H (ak K1 rfl (SQ fun _ K2=>?_));clear H K1;intro a H;obtain ⟨Ga,hma,hb1',H⟩:=H.dW;have hgs:=fun j v hj=>EB hb1' 7 [bU d1,bU d2,bU d3,bU d4] rfl j v hj;have hgh:=fun j v hj=>EB hb1' 1 [bU dp,vi d.fin.marks.ins,vi d.fin.marks.move,bU dd,bU dy] rfl j v hj
 have hgr:aG Ga b1 6=some (bU dr):=by unfold aG;rw [hb1'];rfl
 have hgf:aG Ga b1 0=some (bU df):=by unfold aG;rw [hb1'];rfl
 replace hfl:=hfl.mono hma;replace hst:=hst.mono hma;refine kP H (SC (Rf F9 rfl ?_));clear H;intro a H;refine bP vC (cs:=[bU dp,vi d.fin.marks.ins,vi d.fin.marks.move,bU dd,bU dy]) H wn rfl rfl (fun j v hj=>H.hp.aG (hgh j v hj)) rfl ?_;clear H;intro a H;refine eH vC H wn rfl ?_;clear H;intro b3 a w hb3 H;refine bT vC 0 (vs:=[_,_,_,_,_]) _ H wn rfl rfl rfl rfl rfl rfl rfl rfl ?_;clear H;intro w H;dsimp only [List.set,setRow] at H;refine kH H (Kn K2 (SR fun _ K3=>Rf BZ rfl (Rg jJ rfl (by assumption) ?_)));clear H K2;intro a H;refine s_call Yu H wn rfl (abP _ _ H.ro d.flow _ hfl hz.fl) rfl ?_;clear H;rintro v8 G8 a w ⟨b8,rfl⟩ zV H;refine kH H (Rm rfl (Sp 9 rfl ?_ ?_)) <;> clear H
 ·intro h9 a H
  refine kH H (YF Dh h9 rfl ?_);clear H;intro a H;refine bP V9 (cs:=[bU d1,bU d2,bU d3,bU d4]) H (wg H rfl rfl h9) rfl rfl (fun j v hj=>H.hp.aG (aH zV (hgs j v hj))) rfl ?_;clear H;intro a H;refine s_call agE H (wg H rfl rfl h9) rfl (anC _ _ H.ro d.iI _ _ _ _ (hst.mono zV) hz.sn hz.st) rfl ?_;clear H;rintro v12 yw a w ⟨b12,rfl⟩ xH H;replace hgr:=aH xH (aH zV hgr);refine kH H (Pt h9 rfl (Rm rfl (Sp 14 rfl ?_ ?_))) <;> clear H
  ·intro gq a H
   refine kH H (YF Dg gq rfl (YR xW gq rfl hgr (YL xY gq rfl (YC gq rfl (Pt gq rfl (Rm rfl (Sp 20 rfl ?_ ?_))))))) <;> clear H
   ·intro h20 a H
    refine kH H (YF BX h20 rfl (YO zx 0 h20 rfl (YL sQ h20 rfl (YC h20 rfl (Pt h20 rfl (Rm rfl (Sp 26 rfl ?_ ?_))))))) <;> clear H
    ·intro eO a H
     refine kH H (YF zP eO rfl (YF zO eO rfl (YO Ah 0 eO rfl (YL xX eO rfl (YC eO rfl (Pt eO rfl (Rm rfl (Sp 33 rfl ?_ ?_)))))))) <;> clear H
     ·intro oL a H
      exact kH H (YF zP oL rfl (YF mY oL rfl (YO nC 0 oL rfl (YL mQ oL rfl (YC oL rfl (Pt oL rfl (ak K3 rfl (LR results9 rfl fun H=>H.rt ⟨_,rfl⟩))))))))
     intro oL a H
     exact kH H (aZ oL rfl (aS oL rfl (Pf oL rfl (ak K3 rfl (LR results9 rfl fun H=>H.rt ⟨_,rfl⟩)))))
    intro eO a H
    exact kH H (aZ eO rfl (aS eO rfl (Pf eO rfl (Rm rfl (aZ rfl rfl (aS rfl rfl (Pf rfl rfl (ak K3 rfl (LR results9 rfl fun H=>H.rt ⟨_,rfl⟩)))))))))
   intro h20 a H
   exact kH H (aS h20 rfl (aS h20 rfl (Pf h20 rfl (Rm rfl (aZ rfl rfl (aS rfl rfl (Pf rfl rfl (Rm rfl (aZ rfl rfl (aS rfl rfl (Pf rfl rfl (ak K3 rfl (LR results9 rfl fun H=>H.rt ⟨_,rfl⟩)))))))))))))
  intro gq a H
  exact kH H (aS gq rfl (aS gq rfl (Pf gq rfl (Rm rfl (aS rfl rfl (aS rfl rfl (Pf rfl rfl (Rm rfl (aZ rfl rfl (aS rfl rfl (Pf rfl rfl (Rm rfl (aZ rfl rfl (aS rfl rfl (Pf rfl rfl (ak K3 rfl (LR results9 rfl fun H=>H.rt ⟨_,rfl⟩)))))))))))))))))
 intro h9 a H
 exact kH H (aZ h9 rfl (Pf h9 rfl (Rm rfl (aS rfl rfl (aS rfl rfl (Pf rfl rfl (Rm rfl (aS rfl rfl (aS rfl rfl (Pf rfl rfl (Rm rfl (aZ rfl rfl (aS rfl rfl (Pf rfl rfl (Rm rfl (aZ rfl rfl (aS rfl rfl (Pf rfl rfl (ak K3 rfl (LR results9 rfl fun H=>H.rt ⟨_,rfl⟩))))))))))))))))))))
end
section
open Go.RowKit
theorem NG:∀ args w,(callFunc 8 args).run prog w=.ok (.enter 8 args) w:=enters func8 rfl (by kernel_rfl)
theorem agT:∀ args w,(callFunc 9 args).run prog w=.ok (.enter 9 args) w:=enters func9 rfl (by kernel_rfl)
theorem afs:∀ args w,(callFunc 11 args).run prog w=.ok (.enter 11 args) w:=enters func11 rfl (by kernel_rfl)
theorem afx:∀ args w,(callFunc 12 args).run prog w=.ok (.enter 12 args) w:=enters func12 rfl (by kernel_rfl)
theorem afD:∀ args w,(callFunc 14 args).run prog w=.ok (.enter 14 args) w:=enters func14 rfl (by kernel_rfl)
theorem afL:∀ args w,(callFunc 15 args).run prog w=.ok (.enter 15 args) w:=enters func15 rfl (by kernel_rfl)
abbrev tX (A:List jh):Nat:=(A.map fun f=>qP f.items).sum
theorem VZ (A B:List jh):tX (A++B)=tX A+tX B:=by simp [tX]
mutual
theorem aof (note:Bool) (t:Int):∀ x:ay,tX (uw note t x)+(x.text.size+1)≤cO x.dat
 | .mk k c i tx h f r=>by
  have hf:=PL true t f;have hr:=acp note t r;have hz:=oW (.mk k c i tx h f r);dsimp only [ay.text,ay.flow,ay.rows,ay.head] at hz ⊢;rw [uw]
  by_cases h6:k=6
  ·rw [au h6,tX,dV,List.sum_cons];dsimp only;unfold tX at hf;omega
  rw [ah h6]
  by_cases h7:k=7
  ·rw [au h7];omega
  rw [ah h7];show 0+_≤_;omega
theorem PL (note:Bool) (t:Int):∀ l:List ay,tX (iT note t l)+qP l≤bq l
 | []=>by rw [iT];exact dw _
 | x :: l=>by
  have h1:=aof note t x;have h2:=PL note t l;rw [iT,VZ,qP]
  simp only [bq,dV,dZ] at *;omega
theorem aog (note:Bool) (t:Int):∀ x:bH,tX (uy note t x)≤cO x.dat
 | .mk h cs=>by
  have hc:=aco note t cs;have hz:=uD (.mk h cs);dsimp only [bH.cells,bH.head] at hz;rw [uy];omega
theorem acp (note:Bool) (t:Int):∀ l:List bH,tX (mF note t l)≤eD l
 | []=>by rw [mF];exact dw _
 | x :: l=>by
  have h1:=aog note t x;have h2:=acp note t l;rw [mF,VZ]
  simp only [eD,dV,dZ] at *;omega
theorem aoe (note:Bool) (t:Int):∀ x:bD,tX (uq note t x)≤cO x.dat
 | .mk i h f=>by
  have hf:=PL note (t+1) f;have hz:=uz (.mk i h f);dsimp only [bD.flow,bD.head] at hz;rw [uq,tX,dV,List.sum_cons];dsimp only;unfold tX at hf;omega
theorem aco (note:Bool) (t:Int):∀ l:List bD,tX (mR note t l)≤iw l
 | []=>by rw [mR];exact dw _
 | x :: l=>by
  have h1:=aoe note t x;have h2:=aco note t l;rw [mR,VZ]
  simp only [iw,dV,dZ] at *;omega
end
theorem aop (A:List jh):0≤kR A∧kR A≤(tX A:Nat):=by
 have key:∀ (A:List jh) (n:Int),n≤A.foldl (fun n f=>n+oQ f.items) n∧A.foldl (fun n f=>n+oQ f.items) n≤n+(tX A:Nat):=by
  intro A
  induction A with
  | nil=>intro n;exact ⟨Int.le_refl _,by show n≤n+((0:Nat):Int);omega⟩
  | cons f A ih =>
   intro n
   have h1:0≤oQ f.items∧oQ f.items≤(qP f.items:Nat):=by
    have:=PD f.items
    unfold oQ;split <;> omega
   obtain ⟨h2,h3⟩:=ih (n+oQ f.items);rw [List.foldl_cons,tX,dV,List.sum_cons]
   unfold tX at h3
   omega
 have h:=key A 0;exact ⟨h.1,by have:=h.2;unfold kR;omega⟩
theorem aoq (l:List ay):0≤kR (dx l)∧kR (dx l)≤(bq l:Nat):=by
 have h1:=aop (dx l);have h2:=PL false 0 l;rw [dx,tX,dV,List.sum_cons] at h1;rw [dx];dsimp only at h1
 unfold tX at h2
 omega
theorem aht {d:qR} (hc:jk d=0) {i:Nat} (hi:i < (dx d.flow).length):(dx d.flow)[i].body=decide ((dx d.flow)[i].id=0):=by
 have hok:=Vf hc;have LC:=IG (oK hc (fq d.mJ true false 0 d.flow ⟨0,[]⟩).1 (by simp))
 cases i with
 | zero=>rfl
 | succ i =>
  have hm:(dx d.flow)[i+1]∈iT false 0 d.flow:=by
   show (iT false 0 d.flow)[i]'(by simpa [dx] using hi)∈_
   exact jv _
  have h1:=(JM d.mJ true false 0 (Int.le_refl _) (by decide) d.flow _ _ LC _ hm).2.2;have h2:=hok.pos _ ((MG false 0 d.flow).subset (List.mem_map_of_mem hm));rw [h1,gY (by omega)]
theorem akw {d:qR} {f:jh} {l:List ay} (n:Int):fq (aK (rW (gF d.flow)) d.iI.styles d.iI.lists d.revs) f.body f.note f.tables l ⟨n,[]⟩=((sK d f l).1,⟨(sK d f l).2.n+n,(sK d f l).2.aU⟩):=by
 have h:=PW n (aK (rW (gF d.flow)) d.iI.styles d.iI.lists d.revs) f.body f.note f.tables l ⟨0,[]⟩;rw [show vF n ⟨0,[]⟩=(⟨n,[]⟩:CS) from by unfold vF;simp] at h;exact h
set_option maxHeartbeats 4000000 in
theorem akx (G:GH) (w0:World) (hG:Hold G w0) (D:jT) (d:qR) (hR:BF G D d) (hz:Fw d) (id:Int) (l:List ay) (vl:Option Addr × Nat × Nat) (hv:aC G (.sl 11 (l.map ay.dat)) (bU vl)) (hl:bq l≤1073741824) :
  Calls prog 3 #[D.val,vi id,bU vl] w0 (bY w0 G fun u G'=>u=.bool true):=by
 have zX:=hz.fl;have hzs:=hz.sn;have hzl:=hz.st.ln;have Hf:=hz.rn;refine eN [(0,_),(1,_),(2,_)] func3 rfl ntmps3 rfl rfl hG ?_;intro a H;refine dh (fun _ K1=>?_);refine fB (cs:=[_,_,_,_,_,_,_,_,_,_,_]) H wn rfl rfl rfl ?_;clear H;intro b3 a w hb3 H;refine kH H (ak K1 rfl (SQ fun _ K2=>SQ fun _ K3=>?_));clear H K1;intro a H;obtain ⟨Ga,hma,Bb,H⟩:=H.dW;have hga:=fun j v hj=>EB Bb 0 D.cells rfl j v hj;replace hR:=hR.mono hma;replace hv:=hv.mono hma;refine qG ?_;refine s_call NG H wn rfl (OO _ _ H.ro) rfl ?_;clear H;rintro v12 yw a w rfl xH H;replace hR:=hR.mono xH;replace hv:=hv.mono xH;replace hga:=fun j v hj=>aH xH (hga j v hj);refine kH H (Rn rfl (Rm rfl (Sp 14 rfl ?_ ?_))) <;> clear H
 ·intro gq a H
  exact absurd gq (by decide)
 intro gq a H
 try have sN:=dF gq
 refine bP lX (cs:=D.cells) H (wg H rfl rfl gq) rfl rfl (fun j v hj=>H.hp.aG (hga j v hj)) rfl ?_;clear H;intro a H;refine s_call agT H (wg H rfl rfl gq) rfl (anz _ _ H.ro D d hR hz) rfl ?_;clear H;rintro v16 yx a w ⟨b16,rfl⟩ uT H;replace hR:=hR.mono uT;replace hv:=hv.mono uT;replace hga:=fun j v hj=>aH uT (hga j v hj);refine kH H (YN gq rfl (Pf gq rfl (Rm rfl (Sp 19 rfl ?_ ?_)))) <;> clear H
 ·intro h19 a H
  refine kH H (aZ h19 rfl (Pt h19 rfl (Rm rfl (aZ rfl rfl (Pt rfl rfl (Kn K3 (Ct rfl rfl (SR fun _ K4=>?_))))))));clear H K3;intro a H;refine s_call NG H wn rfl (OO _ _ H.ro) rfl ?_;clear H;rintro v29 CO a w rfl Jf H;refine kH H (ak K4 rfl ?_);clear H K4;intro a H;refine lr H results3 rfl ?_
  exact H.rt (by first
   | rfl
   | exact aL (aF hE)
   | exact aL (dQ (by rw [hE,ny,ah (fun h=>h p73),dQ mq];rfl))
   | exact aL (dQ (by rw [hE,ny,ah (fun h=>h p73),gY mq,p73];rfl))
   | exact aL (dQ (by rw [hE,ny,au p73])))
 intro h19 a H
 try have wL:=dF h19
 refine kH H (YM h19 rfl ?_);clear H;intro a H;refine s_call Yu H (wg H rfl rfl h19) rfl (abP _ _ H.ro l _ hv hl) rfl ?_;clear H;rintro v21 MS a w ⟨b21,rfl,-⟩ sJ H;replace hR:=hR.mono sJ;replace hv:=hv.mono sJ;replace hga:=fun j v hj=>aH sJ (hga j v hj);refine kH H (YN h19 rfl (Pf h19 rfl (Rm rfl (Sp 24 rfl ?_ ?_)))) <;> clear H
 ·intro fJ a H
  refine kH H (aZ fJ rfl (Pt fJ rfl (Kn K3 (Ct rfl rfl (SR fun _ K5=>?_)))));clear H K3;intro a H;refine s_call NG H wn rfl (OO _ _ H.ro) rfl ?_;clear H;rintro v29 CO a w rfl Jf H;refine kH H (ak K5 rfl ?_);clear H K5;intro a H;refine lr H results3 rfl ?_
  exact H.rt (by first
   | rfl
   | exact aL (aF hE)
   | exact aL (dQ (by rw [hE,ny,ah (fun h=>h p73),dQ mq];rfl))
   | exact aL (dQ (by rw [hE,ny,ah (fun h=>h p73),gY mq,p73];rfl))
   | exact aL (dQ (by rw [hE,ny,au p73])))
 intro fJ a H
 try have nO:=dF fJ
 refine bP lX (cs:=D.cells) H (wg H rfl rfl fJ) rfl rfl (fun j v hj=>H.hp.aG (hga j v hj)) rfl ?_;clear H;intro a H;refine s_call afs H (wg H rfl rfl fJ) rfl (akV _ _ H.ro D d hR hz) rfl ?_;clear H;rintro v26 G26 a w rfl TY H;replace hR:=hR.mono TY;replace hv:=hv.mono TY;replace hga:=fun j v hj=>aH TY (hga j v hj);refine kH H (YC fJ rfl (Pf fJ rfl (Kn K3 (Cd rfl ?_ ?_)))) <;> clear H K3
 ·intro jC a H
  refine dh (fun _ K6=>?_);refine s_call NG H wn rfl (OO _ _ H.ro) rfl ?_;clear H;rintro v29 CO a w rfl Jf H;refine kH H (ak K6 rfl ?_);clear H K6;intro a H;refine lr H results3 rfl ?_
  exact H.rt (by first
   | rfl
   | exact aL (aF hE)
   | exact aL (dQ (by rw [hE,ny,ah (fun h=>h p73),dQ mq];rfl))
   | exact aL (dQ (by rw [hE,ny,ah (fun h=>h p73),gY mq,p73];rfl))
   | exact aL (dQ (by rw [hE,ny,au p73])))
 intro jC a H
 try have p28:=dF jC
 refine fF ?_;refine K2 _ _ ?_;clear K2;refine aN (fun _ K7=>?_)
 have hc:jk d=0:=by first|omega|simp_all
 have hok:=Vf hc;have hil:=aaw zX;have z:=oK hc;have s1:=oK (z _ jB) (jX d.iI) (by simp);have LC:=IG (z (fq d.mJ true false 0 d.flow ⟨0,[]⟩).1 (by simp));obtain ⟨I,hQ⟩:∃ I,I=rW (gF d.flow):=⟨_,rfl⟩
 have hIl:I.length=(gF d.flow).length:=by rw [hQ,rW,List.length_mergeSort]
 have hmz:Eh d.iI.styles d.iI.lists d.revs:=⟨Pz (oK s1 _ jB),hzs,hzl,Hf⟩;have hbw:=Aw d.flow
 have hbl:(dx d.flow).length≤1073741825:=by
  have hn:=DY false 0 d.flow;rw [dx,kW];omega
 have hun:=aoq d.flow;refine qG ?_;refine bP lX (cs:=D.cells) H wn rfl rfl (fun j v hj=>H.hp.aG (hga j v hj)) rfl ?_;clear H;intro a H;refine kH H (Rm rfl (Rm rfl ?_));clear H;intro a H;refine s_call afx H wn rfl (aeH _ _ H.ro D d hR hz hc id l vl hv hl) rfl ?_;clear H;rintro v33 G33 a w rfl T9 H;replace hR:=hR.mono T9;replace hv:=hv.mono T9;replace hga:=fun j v hj=>aH T9 (hga j v hj);refine kH H (aM K7 rfl (SR fun _ K8=>?_));clear H K7;intro a H;refine bP lX (cs:=D.cells) H wn rfl rfl (fun j v hj=>H.hp.aG (hga j v hj)) rfl ?_;clear H;intro a H;refine s_call QX H wn rfl (RX _ _ H.ro D d.flow hR.fl (by omega)) rfl ?_;clear H;rintro v35 Qb a w Uu Ua H;obtain ⟨A8,n8,c8,rfl⟩:=Uu.form;have ZW:=Uu.len;rw [bQ] at ZW;obtain rfl:n8=(lH d.flow).length:=ZW;replace hR:=hR.mono Ua;replace hv:=hv.mono Ua;replace hga:=fun j v hj=>aH Ua (hga j v hj);refine kH H (ak K8 rfl (SQ fun _ K9=>SR fun _ aV=>ak aV rfl (SB ?_)));clear H K8 aV;intro a H;skip;refine eT (ι:=Nat) (Tc:=[(1,_),(2,_),(3,_),(7,_),(8,_)]) (Lc:=[]) (fun gh=>[(9,vi gh)]) (fun gh=>[]) (fun gh=>Qb) (fun gh=>gh≤(lH d.flow).length∧((dx d.flow).take gh).find? (fun f=>decide (f.id=id))=none) (fun gh=>(lH d.flow).length - gh) (0) (by exact (H).sub ⟨rfl,rfl,rfl,rfl,rfl,rfl,aB⟩) ?_ ?_
 ·exact ⟨gX _,rfl⟩
 clear H;intro i a w hI H;obtain ⟨hi,hnf⟩:=hI;dsimp only [lca,aO] at H;refine kP H (SQ fun _ bF=>SR fun _ bG=>Rm rfl (Rm rfl (Rl BD rfl (Rc rfl (Kz bG (Cd rfl ?_ ?_)))))) <;> clear H bG
 ·intro jR a H
  try have p39:=dT jR
  have hi2:i < (lH d.flow).length:=by omega
  have hk:i < (dx d.flow).length:=by omega
  obtain ⟨b,o,vv,rfl,hrow,-⟩:=QD Uu hi2;obtain ⟨e1,-,e3,e4⟩:=QE hi2;have hbz:=aht hc hk;have htb:=Ze LC (jv hk);obtain ⟨f,hf⟩:∃ f,f=(dx d.flow)[i]:=⟨_,rfl⟩;rw [← hf] at e1 e3 e4 hbz htb;refine kP H (Kc bF (SQ fun _ bM=>SB (SR fun _ bN=>Rm rfl (Rm rfl (Ri BD DW rfl rfl (Rf RF rfl (Rg aD rfl (hrow 0 _ rfl) ?_)))))));clear H bF;intro a H;rw [e1] at H;refine kH H (Rm rfl (Rc rfl (Kz bN (Cd rfl ?_ ?_)))) <;> clear H bN
  ·intro h48 a H
   try have p48:=dT h48
   have Lm:=NQ (p:=fun f=>decide (f.id=id)) hk hnf (by rw [← hf];exact aF p48);rw [← hf] at Lm
   have hE:Bn d id l=ny d f l:=by unfold Bn;rw [Lm];rfl
   subst p48;refine aN (fun _ bW=>?_)
   have Jl:∀ (iy:Nat) (v:aj) (G G':GH),(∀ k o,G k=some o→G' k=some o)→(fun (iy:Nat) (v:aj) (G:GH)=>match iy with|0=>v=.agg D.cells.toArray|1=>v=.agg D.cells.toArray|2=>aC G (.sl 1 (I.map fun q=>[li q])) v|3=>v=.agg D.cells.toArray|4=>v=vi (kR (dx d.flow))|_=>True) iy v G→(fun (iy:Nat) (v:aj) (G:GH)=>match iy with|0=>v=.agg D.cells.toArray|1=>v=.agg D.cells.toArray|2=>aC G (.sl 1 (I.map fun q=>[li q])) v|3=>v=.agg D.cells.toArray|4=>v=vi (kR (dx d.flow))|_=>True) iy v G':=by
    intro iy v G G' hm h
    match iy,h with
    | 0,h=>exact h
    | 1,h=>exact h
    | 2,h=>exact aC.mono hm h
    | 3,h=>exact h
    | 4,h=>exact h
    | 5,h=>exact trivial
    | 6,h=>exact trivial
    | 7,h=>exact trivial
    | _+8,h=>exact trivial
   refine Nf (hmx) [[],[],[1],[],[1,2,3],(ra 0 5),(ra 0 6),(ra 0 7)] [5,6,7] (by kernel_rfl) (by kernel_rfl) (fun (iy:Nat) (v:aj) (G:GH)=>match iy with|0=>v=.agg D.cells.toArray|1=>v=.agg D.cells.toArray|2=>aC G (.sl 1 (I.map fun q=>[li q])) v|3=>v=.agg D.cells.toArray|4=>v=vi (kR (dx d.flow))|_=>True) Jl H ?_ ?_
   ·clear H;refine aI ?_ ?_ ?_ ?_ (aI ?_ (cu rfl) (cu rfl) (cu rfl) dN)
    ·refine jZ [] rfl trivial (by kernel_rfl) Jl rfl rfl ?_;intro fV a w G1 hG HT H fin;refine bP lX (cs:=D.cells) H wn rfl rfl (fun j v hj=>H.hp.aG (aH hG (hga j v hj))) rfl ?_;clear H;intro a H;exact fin H iJ rfl
    ·refine jZ [] rfl trivial (by kernel_rfl) Jl rfl rfl ?_;intro fV a w G1 hG HT H fin;refine bP lX (cs:=D.cells) H wn rfl rfl (fun j v hj=>H.hp.aG (aH hG (hga j v hj))) rfl ?_;clear H;intro a H;exact fin H iJ rfl
    ·refine jZ [(1,50,_)] rfl ⟨fun _ _ h=>h,aB⟩ (by kernel_rfl) Jl rfl rfl ?_;intro fV a w G1 hG HT H fin;refine s_call afD H wn rfl (akY _ _ H.ro D d.flow (hR.fl.mono hG) hok.ok zX) rfl ?_;clear H;rintro v51 WQ a w ⟨R,hx1,hx2,hx3⟩ KY H;exact fin H KY ((by rw [hQ,← anQ (hx1.trans (aax d.flow)) hx2];exact hx3))
    ·refine jZ [] rfl trivial (by kernel_rfl) Jl rfl rfl ?_;intro fV a w G1 hG HT H fin;refine bP lX (cs:=D.cells) H wn rfl rfl (fun j v hj=>H.hp.aG (aH hG (hga j v hj))) rfl ?_;clear H;intro a H;exact fin H iJ rfl
    refine jZ [(3,52,_)] rfl ⟨fun _ _ h=>h,aB⟩ (by kernel_rfl) Jl rfl rfl ?_;intro fV a w G1 hG HT H fin;refine s_call afL H wn rfl (ale _ _ H.ro D d.flow (hR.fl.mono hG) zX) rfl ?_;clear H;rintro v53 WR a w rfl KZ H;exact fin H KZ (rfl)
   clear H;intro a w G zS H hv;have H:=H.bg (hv 0 49 rfl rfl) rfl;obtain ⟨u51,ajZ,Uo⟩:=hv 2 51 (by decide) rfl;(try dsimp only at Uo);obtain ⟨Wz,n51,c51,rfl⟩:=Uo.form;have H:=H.qV ajZ;have H:=H.bg (hv 4 53 rfl rfl) rfl;clear hv;refine lJ abX [_,_,_,_,_,_,_,_,_,_,_,_,_,_] H wn rfl rfl rfl rfl ?_;clear H;intro a H;refine fB (cs:=[_,_,_,_,_,_,_,_,_,_,_,_,_,_]) H wn rfl rfl rfl ?_;clear H;intro QC a w air H;refine kH H (Ra rfl ?_);clear H;intro a H;refine aJ ⟨rfl,?_⟩;refine bW _ _ ?_;clear bW;refine aN (fun _ cK=>?_);replace hR:=hR.mono zS;replace hv:=hv.mono zS;replace hrow:=fun j u hj=>aH zS (hrow j u hj);have hmk:Au I (.slice Wz n51 c51) _ D d.iI.styles d.iI.lists d.revs:=⟨hR.st.st,hR.st.li,hR.rv,Uo⟩;refine dI hmx [[],[],[],[2],[],[],[4,5],[4,5,6],(ra 4 4),[],[],[9,10],[9,10,11],(ra 9 4),(ra 0 14),(ra 0 15)] [14,15] (by kernel_rfl) [_,_,_,.bool f.body,_,_,_,_,.bool f.note,_,_,_,_,vi f.tables] H (aI (Z0 rfl (Rm rfl)) (Z0 rfl (Rm rfl)) (Z0 rfl (Rm rfl)) ?_ (aI (Z0 rfl (Rm rfl)) (Z0 rfl (Rm rfl)) (Z2 4 60 5 61 rfl (Ri BD DW rfl rfl)) (Z1 6 62 rfl (Rf Y7 rfl)) (aI ?_ (Z0 rfl (Rm rfl)) (Z0 rfl (Rm rfl)) (Z2 9 65 10 66 rfl (Ri BD DW rfl rfl)) (aI (Z1 11 67 rfl (Rf RG rfl)) ?_ (cu rfl) (cu rfl) dN)))) ?_
   ·refine eF 2 58 rfl rfl fun _ a w G1 hG HT H fin=>?_;refine kH H (Rc rfl ?_);clear H;intro a H;exact fin H iJ (aL hbz.symm)
   ·refine eF 7 63 rfl rfl fun _ a w G1 hG HT H fin=>?_;refine kH H (Rg qQ rfl (aH hG (hrow 4 _ rfl)) ?_);clear H;intro a H;rw [e3] at H;exact fin H iJ rfl
   ·refine eF 12 68 rfl rfl fun _ a w G1 hG HT H fin=>?_;refine kH H (Rg aD rfl (aH hG (hrow 5 _ rfl)) ?_);clear H;intro a H;rw [e4] at H;exact fin H iJ rfl
   clear H;intro a w G rM H hv;have H:=H.bg (hv 0 56 rfl rfl) rfl;have H:=H.bg (hv 1 57 rfl rfl) rfl;have H:=H.bg (hv 3 59 rfl rfl) rfl;have H:=H.bg (hv 8 64 rfl rfl) rfl;have H:=H.bg (hv 13 69 rfl rfl) rfl;clear hv;refine gP Ny (Li:=[]) (L:=[iP (.slice Wz n51 c51) D QC (.slice none 0 0) (kR (dx d.flow))]) H wn rfl (U3 4294967297 (by omega) _ _ [] _ _ _ _ _ QC _ ⟨kR (dx d.flow),[]⟩ l _ f.body f.note f.tables (hmk.mono rM) hmz ⟨[],rfl,gQ.nil⟩ (Hp.owns (Li:=[]) H.hp) (hv.mono rM) (by omega) htb.1 htb.2 hun.1 (by dsimp only;omega) (by dsimp only [List.length_nil];omega)) rfl ?_;clear H;rintro v70 _ _ a w ⟨rfl,v5,L5,s5,rfl,rfl,hv5,h5⟩ - H;dsimp only [lca,aO] at H;rw [hQ,akw] at h5 H;dsimp only at h5 H;refine kH H (Ra rfl ?_);clear H;intro a H;refine aJ ⟨rfl,?_⟩;refine cK _ _ ?_;clear cK;refine kP H (SQ fun _ bS=>SR fun _ dD=>Rm rfl (Rc rfl (Rm rfl (Sp 73 rfl ?_ ?_)))) <;> clear H
   ·intro iR a H
    try have p73:=dT iR
    obtain rfl:=h5 p73;have hup:(0:Int)≤(sK d f l).2.n:=(JV (aK (rW (gF d.flow)) d.iI.styles d.iI.lists d.revs) f.body f.note f.tables l ⟨0,[]⟩).1;refine kH H (YM iR rfl ?_);clear H;intro a H;refine sO H (wg H rfl rfl iR) rfl rfl ?_;clear H;intro a H;refine kH H (YF NM iR rfl (YO aD 0 iR rfl (YC iR rfl (Pt iR rfl (Kz dD (Cd rfl ?_ ?_)))))) <;> clear H dD
    ·intro iH a H
     try have mq:=dT iH
     refine kP H (SC (aM bS rfl (SR fun _ dO=>Rm rfl (Rm rfl (Rc rfl (ak dO rfl ?_))))));clear H bS dO;intro a H;refine lr H results3 rfl ?_
     exact H.rt (by first
      | rfl
      | exact aL (aF hE)
      | exact aL (dQ (by rw [hE,ny,ah (fun h=>h p73),dQ mq];rfl))
      | exact aL (dQ (by rw [hE,ny,ah (fun h=>h p73),gY mq,p73];rfl))
      | exact aL (dQ (by rw [hE,ny,au p73])))
    intro iH a H
    try have mq:=dF iH
    refine kP H (Kc bS (SR fun _ dK=>Rm rfl (Rm rfl (Rc rfl (ak dK rfl ?_)))));clear H bS dK;intro a H;refine lr H results3 rfl ?_
    exact H.rt (by first
     | rfl
     | exact aL (aF hE)
     | exact aL (dQ (by rw [hE,ny,ah (fun h=>h p73),dQ mq];rfl))
     | exact aL (dQ (by rw [hE,ny,ah (fun h=>h p73),gY mq,p73];rfl))
     | exact aL (dQ (by rw [hE,ny,au p73])))
   intro iR a H
   try have p73:=dF iR
   refine kH H (aZ iR rfl (aS iR rfl (Pf iR rfl (Kz dD (Cf rfl rfl (Kc bS (SR fun _ dS=>Rm rfl (Rm rfl (Rc rfl (ak dS rfl ?_))))))))));clear H dD bS dS;intro a H;refine lr H results3 rfl ?_
   exact H.rt (by first
    | rfl
    | exact aL (aF hE)
    | exact aL (dQ (by rw [hE,ny,ah (fun h=>h p73),dQ mq];rfl))
    | exact aL (dQ (by rw [hE,ny,ah (fun h=>h p73),gY mq,p73];rfl))
    | exact aL (dQ (by rw [hE,ny,au p73])))
  intro h48 a H
  try have p48:=dF h48
  refine kP H (Kc bM (SC (Rm rfl (Rd rfl (Ra rfl ?_)))));clear H bM;intro a H;refine aJ ?_;refine dH (i+1) (by exact (H).sub ⟨rfl,rfl,rfl,rfl,rfl,rfl,aB⟩) ?_ ?_
  ·exact ⟨by omega,RP hk hnf (by rw [← hf];exact aP p48)⟩
  first|omega|(dsimp only;omega)
 intro jR a H
 try have p39:=dF jR
 have hE:Bn d id l=8:=by unfold Bn;rw [RO (by rw [show (dx d.flow).length=i by omega];exact hnf)];rfl
 refine dR ?_;refine K9 _ _ ?_;clear K9;refine kP H (SR fun _ eP=>Rm rfl (Rc rfl (ak eP rfl ?_)));clear H eP;intro a H;refine lr H results3 rfl ?_
 exact H.rt (by first
  | rfl
  | exact aL (aF hE)
  | exact aL (dQ (by rw [hE,ny,ah (fun h=>h p73),dQ mq];rfl))
  | exact aL (dQ (by rw [hE,ny,ah (fun h=>h p73),gY mq,p73];rfl))
  | exact aL (dQ (by rw [hE,ny,au p73])))
end
section
open Go.ChangeShapes Go.RowKit Go.Deep
theorem DU {ρ:Type} {dat:ρ→List Dat}:∀ {l:List ρ} {x:ρ},x∈l→cO (dat x)+1≤dZ (l.map dat)
 | y :: l,x,h=>by
  rw [dV,dZ]
  rcases ow.1 h with rfl|h
  ·omega
  have:=DU (dat:=dat) h;omega
section
variable {H:Type} {enc:TypeId × aj→H} {W:World} {base:Nat} {spare:Nat→Bool} {held:Bool}
theorem anv:sV prog 156 6 [(3,0,1),(3,1,1),(9,2,1),(3,3,1),(3,4,1),(23,5,1)]:=⟨by kernel_rfl,by kernel_rfl,by kernel_rfl⟩
theorem aex:prog.cellsOf 156=6:=by kernel_rfl
theorem ams {n:Nat} {cs:List aj} {D:DataW H} {Pl:List MemPlace} (h:DataW.trod enc prog W base spare held n 156 cs=some (D,Pl)):∃ r:bL,bJ (qK W) r.dat cs∧cO r.dat+1≤8*Rows.uptoBulk D:=by
 obtain ⟨xs,m,hx,hl,hxl,hf⟩:=uW anv h
 match cs,hl,xs,hxl with
 | [c0,c1,c2,c3,c4,c5],_,[y0,y1,y2,y3,y4,y5],_ =>
  have h0:=hf 0 _ _ _ rfl;have h1:=hf 1 _ _ _ rfl;have h2:=hf 2 _ _ _ rfl;have h3:=hf 3 _ _ _ rfl;have h4:=hf 4 _ _ _ rfl;have h5:=hf 5 _ _ _ rfl
  simp only at hx
  have hD:Rows.uptoBulk D=Rows.uptoBulk y0.1+(Rows.uptoBulk y1.1+(Rows.uptoBulk y2.1+(Rows.uptoBulk y3.1+(Rows.uptoBulk y4.1+(Rows.uptoBulk y5.1+0)))))+1:=by rw [hx];simp only [dV,uI,Rows.uptoBulk,Rows.uptoBulkAll]
  obtain ⟨k0,e0,d0,-⟩:=DataW.trod_int underlying3 h0;obtain ⟨k1,e1,d1,-⟩:=DataW.trod_int underlying3 h1;obtain ⟨k2,e2,d2,-⟩:=DataW.trod_string underlying9 h2;obtain ⟨k3,e3,d3,-⟩:=DataW.trod_int underlying3 h3;obtain ⟨k4,e4,d4,-⟩:=DataW.trod_int underlying3 h4;obtain ⟨k5,q5,e5,r5,d5⟩:=wN (dat:=jL.dat) (sz:=2) (by omega) underlying23 X6 h5 (fun n cs' D Pl hh _=>abx hh)
  simp at e0 e1 e2 e3 e4 e5
  subst e0 e1 e2 e3 e4 e5
  have b0:Rows.uptoBulk y0.1=1:=by rw [d0];rfl
  have b1:Rows.uptoBulk y1.1=1:=by rw [d1];rfl
  have b2:Rows.uptoBulk y2.1=k2.size+1:=by rw [d2];show k2.data.toList.length+1=k2.data.size+1;rw [yD]
  have b3:Rows.uptoBulk y3.1=1:=by rw [d3];rfl
  have b4:Rows.uptoBulk y4.1=1:=by rw [d4];rfl
  refine ⟨⟨k0,k1,k2,k3,k4,k5⟩,?_,?_⟩
  ·exact ⟨_,_,rfl,(by simp [aC,Value.oneCell']),⟨_,_,rfl,(by simp [aC,Value.oneCell']),⟨_,_,rfl,(by simp [aC,Value.oneCell']),⟨_,_,rfl,(by simp [aC,Value.oneCell']),⟨_,_,rfl,(by simp [aC,Value.oneCell']),⟨_,_,rfl,r5,rfl⟩⟩⟩⟩⟩⟩
  simp only [bL.dat,cO,pW];omega
theorem ano:sV prog 194 4 [(3,0,1),(3,1,1),(9,2,1),(3,3,1)]:=⟨by kernel_rfl,by kernel_rfl,by kernel_rfl⟩
theorem aeu:prog.cellsOf 194=4:=by kernel_rfl
theorem amn {n:Nat} {cs:List aj} {D:DataW H} {Pl:List MemPlace} (h:DataW.trod enc prog W base spare held n 194 cs=some (D,Pl)):∃ r:pX,bJ (qK W) r.dat cs∧cO r.dat+1≤8*Rows.uptoBulk D:=by
 obtain ⟨xs,m,hx,hl,hxl,hf⟩:=uW ano h
 match cs,hl,xs,hxl with
 | [c0,c1,c2,c3],_,[y0,y1,y2,y3],_ =>
  have h0:=hf 0 _ _ _ rfl;have h1:=hf 1 _ _ _ rfl;have h2:=hf 2 _ _ _ rfl;have h3:=hf 3 _ _ _ rfl
  simp only at hx
  have hD:Rows.uptoBulk D=Rows.uptoBulk y0.1+(Rows.uptoBulk y1.1+(Rows.uptoBulk y2.1+(Rows.uptoBulk y3.1+0)))+1:=by rw [hx];simp only [dV,uI,Rows.uptoBulk,Rows.uptoBulkAll]
  obtain ⟨k0,e0,d0,-⟩:=DataW.trod_int underlying3 h0;obtain ⟨k1,e1,d1,-⟩:=DataW.trod_int underlying3 h1;obtain ⟨k2,e2,d2,-⟩:=DataW.trod_string underlying9 h2;obtain ⟨k3,e3,d3,-⟩:=DataW.trod_int underlying3 h3
  simp at e0 e1 e2 e3
  subst e0 e1 e2 e3
  have b0:Rows.uptoBulk y0.1=1:=by rw [d0];rfl
  have b1:Rows.uptoBulk y1.1=1:=by rw [d1];rfl
  have b2:Rows.uptoBulk y2.1=k2.size+1:=by rw [d2];show k2.data.toList.length+1=k2.data.size+1;rw [yD]
  have b3:Rows.uptoBulk y3.1=1:=by rw [d3];rfl
  refine ⟨⟨k0,k1,k2,k3⟩,?_,?_⟩
  ·exact ⟨_,_,rfl,(by simp [aC,Value.oneCell']),⟨_,_,rfl,(by simp [aC,Value.oneCell']),⟨_,_,rfl,(by simp [aC,Value.oneCell']),⟨_,_,rfl,(by simp [aC,Value.oneCell']),rfl⟩⟩⟩⟩
  simp only [pX.dat,cO,pW];omega
theorem anm:sV prog 159 2 [(3,0,1),(157,1,1)]:=⟨by kernel_rfl,by kernel_rfl,by kernel_rfl⟩
theorem aes:prog.cellsOf 159=2:=by kernel_rfl
theorem amo {n:Nat} {cs:List aj} {D:DataW H} {Pl:List MemPlace} (h:DataW.trod enc prog W base spare held n 159 cs=some (D,Pl)):∃ r:dM,bJ (qK W) r.dat cs∧cO r.dat+1≤8*Rows.uptoBulk D:=by
 obtain ⟨xs,m,hx,hl,hxl,hf⟩:=uW anm h
 match cs,hl,xs,hxl with
 | [c0,c1],_,[y0,y1],_ =>
  have h0:=hf 0 _ _ _ rfl;have h1:=hf 1 _ _ _ rfl
  simp only at hx
  have hD:Rows.uptoBulk D=Rows.uptoBulk y0.1+(Rows.uptoBulk y1.1+0)+1:=by rw [hx];simp only [dV,uI,Rows.uptoBulk,Rows.uptoBulkAll]
  obtain ⟨k0,e0,d0,-⟩:=DataW.trod_int underlying3 h0;obtain ⟨k1,q1,e1,r1,d1⟩:=wN (dat:=pX.dat) (sz:=4) (by omega) underlying157 aeu h1 (fun n cs' D Pl hh _=>amn hh)
  simp at e0 e1
  subst e0 e1
  have b0:Rows.uptoBulk y0.1=1:=by rw [d0];rfl
  refine ⟨⟨k0,k1⟩,?_,?_⟩
  ·exact ⟨_,_,rfl,(by simp [aC,Value.oneCell']),⟨_,_,rfl,r1,rfl⟩⟩
  simp only [dM.dat,cO,pW];omega
theorem anh:sV prog 164 6 [(3,0,1),(3,1,1),(9,2,1),(3,3,1),(9,4,1),(4,5,1)]:=⟨by kernel_rfl,by kernel_rfl,by kernel_rfl⟩
theorem aeo:prog.cellsOf 164=6:=by kernel_rfl
theorem amj {n:Nat} {cs:List aj} {D:DataW H} {Pl:List MemPlace} (h:DataW.trod enc prog W base spare held n 164 cs=some (D,Pl)):∃ r:jd,bJ (qK W) r.dat cs∧cO r.dat+1≤8*Rows.uptoBulk D:=by
 obtain ⟨xs,m,hx,hl,hxl,hf⟩:=uW anh h
 match cs,hl,xs,hxl with
 | [c0,c1,c2,c3,c4,c5],_,[y0,y1,y2,y3,y4,y5],_ =>
  have h0:=hf 0 _ _ _ rfl;have h1:=hf 1 _ _ _ rfl;have h2:=hf 2 _ _ _ rfl;have h3:=hf 3 _ _ _ rfl;have h4:=hf 4 _ _ _ rfl;have h5:=hf 5 _ _ _ rfl
  simp only at hx
  have hD:Rows.uptoBulk D=Rows.uptoBulk y0.1+(Rows.uptoBulk y1.1+(Rows.uptoBulk y2.1+(Rows.uptoBulk y3.1+(Rows.uptoBulk y4.1+(Rows.uptoBulk y5.1+0)))))+1:=by rw [hx];simp only [dV,uI,Rows.uptoBulk,Rows.uptoBulkAll]
  obtain ⟨k0,e0,d0,-⟩:=DataW.trod_int underlying3 h0;obtain ⟨k1,e1,d1,-⟩:=DataW.trod_int underlying3 h1;obtain ⟨k2,e2,d2,-⟩:=DataW.trod_string underlying9 h2;obtain ⟨k3,e3,d3,-⟩:=DataW.trod_int underlying3 h3;obtain ⟨k4,e4,d4,-⟩:=DataW.trod_string underlying9 h4;obtain ⟨k5,e5,d5⟩:=DataW.trod_bool underlying4 h5
  simp at e0 e1 e2 e3 e4 e5
  subst e0 e1 e2 e3 e4 e5
  have b0:Rows.uptoBulk y0.1=1:=by rw [d0];rfl
  have b1:Rows.uptoBulk y1.1=1:=by rw [d1];rfl
  have b2:Rows.uptoBulk y2.1=k2.size+1:=by rw [d2];show k2.data.toList.length+1=k2.data.size+1;rw [yD]
  have b3:Rows.uptoBulk y3.1=1:=by rw [d3];rfl
  have b4:Rows.uptoBulk y4.1=k4.size+1:=by rw [d4];show k4.data.toList.length+1=k4.data.size+1;rw [yD]
  have b5:Rows.uptoBulk y5.1=1:=by rw [d5];rfl
  refine ⟨⟨k0,k1,k2,k3,k4,k5⟩,?_,?_⟩
  ·exact ⟨_,_,rfl,(by simp [aC,Value.oneCell']),⟨_,_,rfl,(by simp [aC,Value.oneCell']),⟨_,_,rfl,(by simp [aC,Value.oneCell']),⟨_,_,rfl,(by simp [aC,Value.oneCell']),⟨_,_,rfl,(by simp [aC,Value.oneCell']),⟨_,_,rfl,(by simp [aC,Value.oneCell']),rfl⟩⟩⟩⟩⟩⟩
  simp only [jd.dat,cO,pW];omega
theorem anw:sV prog 167 2 [(9,0,1),(9,1,1)]:=⟨by kernel_rfl,by kernel_rfl,by kernel_rfl⟩
theorem aez:prog.cellsOf 167=2:=by kernel_rfl
theorem amt {n:Nat} {cs:List aj} {D:DataW H} {Pl:List MemPlace} (h:DataW.trod enc prog W base spare held n 167 cs=some (D,Pl)):∃ r:nP,bJ (qK W) r.dat cs∧cO r.dat+1≤8*Rows.uptoBulk D:=by
 obtain ⟨xs,m,hx,hl,hxl,hf⟩:=uW anw h
 match cs,hl,xs,hxl with
 | [c0,c1],_,[y0,y1],_ =>
  have h0:=hf 0 _ _ _ rfl;have h1:=hf 1 _ _ _ rfl
  simp only at hx
  have hD:Rows.uptoBulk D=Rows.uptoBulk y0.1+(Rows.uptoBulk y1.1+0)+1:=by rw [hx];simp only [dV,uI,Rows.uptoBulk,Rows.uptoBulkAll]
  obtain ⟨k0,e0,d0,-⟩:=DataW.trod_string underlying9 h0;obtain ⟨k1,e1,d1,-⟩:=DataW.trod_string underlying9 h1
  simp at e0 e1
  subst e0 e1
  have b0:Rows.uptoBulk y0.1=k0.size+1:=by rw [d0];show k0.data.toList.length+1=k0.data.size+1;rw [yD]
  have b1:Rows.uptoBulk y1.1=k1.size+1:=by rw [d1];show k1.data.toList.length+1=k1.data.size+1;rw [yD]
  refine ⟨⟨k0,k1⟩,?_,?_⟩
  ·exact ⟨_,_,rfl,(by simp [aC,Value.oneCell']),⟨_,_,rfl,(by simp [aC,Value.oneCell']),rfl⟩⟩
  simp only [nP.dat,cO,pW];omega
theorem ant:sV prog 82 3 [(3,0,1),(9,1,1),(3,2,1)]:=⟨by kernel_rfl,by kernel_rfl,by kernel_rfl⟩
theorem aew:prog.cellsOf 82=3:=by kernel_rfl
theorem amq {n:Nat} {cs:List aj} {D:DataW H} {Pl:List MemPlace} (h:DataW.trod enc prog W base spare held n 82 cs=some (D,Pl)):∃ r:dU,bJ (qK W) r.dat cs∧cO r.dat+1≤8*Rows.uptoBulk D:=by
 obtain ⟨xs,m,hx,hl,hxl,hf⟩:=uW ant h
 match cs,hl,xs,hxl with
 | [c0,c1,c2],_,[y0,y1,y2],_ =>
  have h0:=hf 0 _ _ _ rfl;have h1:=hf 1 _ _ _ rfl;have h2:=hf 2 _ _ _ rfl
  simp only at hx
  have hD:Rows.uptoBulk D=Rows.uptoBulk y0.1+(Rows.uptoBulk y1.1+(Rows.uptoBulk y2.1+0))+1:=by rw [hx];simp only [dV,uI,Rows.uptoBulk,Rows.uptoBulkAll]
  obtain ⟨k0,e0,d0,-⟩:=DataW.trod_int underlying3 h0;obtain ⟨k1,e1,d1,-⟩:=DataW.trod_string underlying9 h1;obtain ⟨k2,e2,d2,-⟩:=DataW.trod_int underlying3 h2
  simp at e0 e1 e2
  subst e0 e1 e2
  have b0:Rows.uptoBulk y0.1=1:=by rw [d0];rfl
  have b1:Rows.uptoBulk y1.1=k1.size+1:=by rw [d1];show k1.data.toList.length+1=k1.data.size+1;rw [yD]
  have b2:Rows.uptoBulk y2.1=1:=by rw [d2];rfl
  refine ⟨⟨k0,k1,k2⟩,?_,?_⟩
  ·exact ⟨_,_,rfl,(by simp [aC,Value.oneCell']),⟨_,_,rfl,(by simp [aC,Value.oneCell']),⟨_,_,rfl,(by simp [aC,Value.oneCell']),rfl⟩⟩⟩
  simp only [dU.dat,cO,pW];omega
theorem anu:sV prog 36 4 [(31,0,1),(32,1,1),(33,2,1),(34,3,1)]:=⟨by kernel_rfl,by kernel_rfl,by kernel_rfl⟩
structure Qv (s:vM) (n:Nat):Prop where
 st:dZ (s.styles.map bL.dat)≤n
 li:dZ (s.lists.map dM.dat)≤n
 cm:dZ (s.comments.map jd.dat)≤n
 va:dZ (s.vars.map nP.dat)≤n
theorem Qv.zn {s:vM} {n:Nat} (h:Qv s n) (hn:n≤4294967296):Kl s∧s.styles.length≤4294967296:=by
 obtain ⟨h1,h2,h3,h4⟩:=h;have l1:=mP (s.styles.map bL.dat);have l2:=mP (s.lists.map dM.dat);have l3:=mP (s.comments.map jd.dat);have l4:=mP (s.vars.map nP.dat);rw [bQ] at l1 l2 l3 l4;refine ⟨⟨fun x hx=>?_,by omega,fun x hx y hy=>?_,by omega,fun x hx=>?_,by omega,fun x hx=>?_,fun x hx=>?_,fun x hx=>?_⟩,by omega⟩
 ·have:=DU (dat:=bL.dat) hx
  simp only [bL.dat,cO,pW] at this;omega
 ·have:=DU (dat:=dM.dat) hx
  simp only [dM.dat,cO,pW] at this
  have h5:=DU (dat:=pX.dat) hy
  simp only [pX.dat,cO,pW] at h5;omega
 ·have:=DU (dat:=jd.dat) hx
  simp only [jd.dat,cO,pW] at this;omega
 ·have:=DU (dat:=nP.dat) hx
  simp only [nP.dat,cO,pW] at this;omega
 ·have:=DU (dat:=bL.dat) hx;have h5:=mP (x.props.map jL.dat);rw [bQ] at h5
  simp only [bL.dat,cO,pW] at this;omega
 have:=DU (dat:=dM.dat) hx;have h5:=mP (x.levels.map pX.dat);rw [bQ] at h5
 simp only [dM.dat,cO,pW] at this;omega
theorem amr {n:Nat} {cs:List aj} {x:DataW H × List MemPlace} (h:DataW.trod enc prog W base spare held n 36 cs=some x):∃ (s:vM) (a b c d:aj),cs=[a,b,c,d]∧CW (qK W) s a b c d∧Qv s (8*Rows.uptoBulk x.1):=by
 obtain ⟨xs,m,hx,hl,hxl,hf⟩:=uW anu h
 match cs,hl,xs,hxl with
 | [c0,c1,c2,c3],_,[y0,y1,y2,y3],_ =>
  have h0:=hf 0 _ _ _ rfl;have h1:=hf 1 _ _ _ rfl;have h2:=hf 2 _ _ _ rfl;have h3:=hf 3 _ _ _ rfl;obtain ⟨k0,q0,e0,r0,d0⟩:=wN (dat:=bL.dat) (sz:=6) (by omega) underlying31 aex h0 (fun n cs' D Pl hh _=>ams hh);obtain ⟨k1,q1,e1,r1,d1⟩:=wN (dat:=dM.dat) (sz:=2) (by omega) underlying32 aes h1 (fun n cs' D Pl hh _=>amo hh);obtain ⟨k2,q2,e2,r2,d2⟩:=wN (dat:=jd.dat) (sz:=6) (by omega) underlying33 aeo h2 (fun n cs' D Pl hh _=>amj hh);obtain ⟨k3,q3,e3,r3,d3⟩:=wN (dat:=nP.dat) (sz:=2) (by omega) underlying34 aez h3 (fun n cs' D Pl hh _=>amt hh)
  simp at e0 e1 e2 e3
  subst e0 e1 e2 e3
  have hD:Rows.uptoBulk x.1=Rows.uptoBulk y0.1+(Rows.uptoBulk y1.1+(Rows.uptoBulk y2.1+(Rows.uptoBulk y3.1+0)))+1:=by rw [hx];simp only [dV,uI,Rows.uptoBulk,Rows.uptoBulkAll]
  exact ⟨⟨k0,k1,k2,k3⟩,_,_,_,_,rfl,⟨r0,r1,r2,r3⟩,⟨by show dZ (k0.map _)≤_;omega,by show dZ (k1.map _)≤_;omega,by show dZ (k2.map _)≤_;omega,by show dZ (k3.map _)≤_;omega⟩⟩
theorem abO:sV prog 38 11 [(22,0,1),(29,1,5),(30,6,1),(36,7,4)]:=⟨by kernel_rfl,by kernel_rfl,by kernel_rfl⟩
theorem DR {G:GH} {sz:Nat} {rs:List (List Dat)} {v:aj} (h:aC G (.sl sz rs) v):∃ x,v=bU x:=by
 obtain ⟨a,n,c,rfl⟩:=h.form;exact ⟨(a,n,c),rfl⟩
theorem aml {n:Nat} {cs:List aj} {x:DataW H × List MemPlace} (h:DataW.trod enc prog W base spare held n 38 cs=some x) (hb:Rows.uptoBulk x.1≤1048576):∃ (D:jT) (d:qR),cs=D.cells∧BF (qK W) D d∧Fw d:=by
 obtain ⟨xs,m,hx,hl,hxl,hf⟩:=uW abO h
 match cs,hl,xs,hxl with
 | [c0,c1,c2,c3,c4,c5,c6,c7,c8,c9,c10],_,[y0,y1,y2,y3],_ =>
  have h0:=hf 0 _ _ _ rfl;have h1:=hf 1 _ _ _ rfl;have h2:=hf 2 _ _ _ rfl;have h3:=hf 3 _ _ _ rfl;obtain ⟨l,q0,e0,r0,d0⟩:=abw h0;obtain ⟨hd,p,dd,ll,e1,r1,d1⟩:=Pm h1;obtain ⟨rv,q2,e2,r2,d2⟩:=wN (dat:=dU.dat) (sz:=3) (by omega) underlying30 aew h2 (fun n cs' D Pl hh _=>amq hh);obtain ⟨s,a,b,c,d,e3,r3,d3⟩:=amr h3
  simp at e0 e1 e2 e3
  obtain ⟨rfl,rfl,rfl,rfl,rfl⟩:=e1;obtain ⟨rfl,rfl,rfl,rfl⟩:=e3;subst e0 e2
  have hD:Rows.uptoBulk x.1=Rows.uptoBulk y0.1+(Rows.uptoBulk y1.1+(Rows.uptoBulk y2.1+(Rows.uptoBulk y3.1+0)))+1:=by rw [hx];simp only [dV,uI,Rows.uptoBulk,Rows.uptoBulkAll]
  obtain ⟨x0,rfl⟩:=DR r0;obtain ⟨x1,rfl⟩:=DR r1.props;obtain ⟨x2,rfl⟩:=DR r1.bV;obtain ⟨x3,rfl⟩:=DR r1.layers;obtain ⟨x4,rfl⟩:=DR r2;obtain ⟨x5,rfl⟩:=DR r3.st;obtain ⟨x6,rfl⟩:=DR r3.li;obtain ⟨x7,rfl⟩:=DR r3.cm;obtain ⟨x8,rfl⟩:=DR r3.va;obtain ⟨hz1,hz2⟩:=d3.zn (by omega);have l2:=mP (rv.map dU.dat);rw [bQ] at l2;refine ⟨⟨x0,x1,x2,x3,x4,x5,x6,x7,x8,hd.marks.ins,hd.marks.move⟩,⟨l,hd,rv,s⟩,rfl,⟨r0,r1,rfl,rfl,r2,r3⟩,⟨by show bq l≤_;omega,by show oV hd≤_;omega,by show rv.length≤_;omega,fun x hx=>?_,hz2,hz1⟩⟩;have:=DU (dat:=dU.dat) hx
  simp only [dU.dat,cO,pW] at this
  omega
end
end
end Go.Proofs.YthmanofbmnfemaaGreat
