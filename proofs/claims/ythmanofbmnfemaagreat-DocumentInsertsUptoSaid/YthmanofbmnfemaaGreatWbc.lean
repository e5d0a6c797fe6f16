/-
  What the claim stands on, part 3: Lpc Scn By Lps Lcl Dst Sty Mk Stz Dsc Mi Ro Ri Chn Chk Dsv Mq Nck.
-/
import Derived.Test.YthmanofbmnfemaaGreatWbb
import Derived.Lib.ConvBytes
import Derived.Laws.MakeOwn
namespace Go.Proofs.YthmanofbmnfemaaGreat
open Go.Proofs.Tryz
section
open Go.RowKit
theorem agz:∀ args w,(callFunc 245 args).run prog w=.ok (.enter 245 args) w:=enters func245 rfl (by kernel_rfl)
theorem yN:dJ prog 289 0 0:=⟨by kernel_rfl⟩
theorem YD:∀ args w,(callFunc 235 args).run prog w=.ok (.enter 235 args) w:=enters func235 rfl (by kernel_rfl)
theorem YE:∀ args w,(callFunc 239 args).run prog w=.ok (.enter 239 args) w:=enters func239 rfl (by kernel_rfl)
theorem YG:∀ args w,(callFunc 240 args).run prog w=.ok (.enter 240 args) w:=enters func240 rfl (by kernel_rfl)
theorem qH:dJ prog 289 1 1:=⟨by kernel_rfl⟩
theorem Q8:∀ args w,(callFunc 238 args).run prog w=.ok (.enter 238 args) w:=enters func238 rfl (by kernel_rfl)
theorem BU:dJ prog 289 5 6:=⟨by kernel_rfl⟩
def sH (s p:ByteArray):Bool:=decide (p.size≤s.size) && ((s.extract 0 p.size).toList == p.toList)
theorem aie (G:GH) (w0:World) (hG:Hold G w0) (s p:ByteArray) (hs:s.size≤4611686018427387904) (hp:p.size≤4611686018427387904):Calls prog 245 #[.string s,.string p] w0 (bY w0 G fun u G'=>u=.bool (sH s p)∧G=G'):=by
 refine eN [(0,_),(1,_)] func245 rfl ntmps245 rfl rfl hG ?_;intro a H;refine kP H (SR fun _ K1=>ak K1 rfl (SR fun _ K2=>Rm rfl (Rv iB rfl (Rm rfl (Rv iB rfl (Rc rfl (Rm rfl (Sp 10 rfl ?_ ?_)))))))) <;> clear H K1
 ·intro h10 a H
  try have uf:=dT h10
  refine kH H (YM h10 rfl (YM h10 rfl ?_));clear H;intro a H;refine Bu iB H (wg H rfl rfl h10) rfl rfl ?_;clear H;intro a H;refine amX p.size iB H (wg H rfl rfl h10) rfl rfl rfl (by omega) rfl ?_;clear H;intro a H;refine kH H (YM h10 rfl ?_);clear H;intro a H;refine Ia H (wg H rfl rfl h10) rfl rfl rfl ?_;clear H;intro a H;exact kH H (Pt h10 rfl (ak K2 rfl (LR results245 rfl fun H=>H.rt ⟨aL (by unfold sH;first|(simp_all;done)|(simp_all;omega)),rfl⟩)))
 intro h10 a H
 try have uf:=dF h10
 exact kH H (aZ h10 rfl (aZ h10 rfl (Pf h10 rfl (ak K2 rfl (LR results245 rfl fun H=>H.rt ⟨aL (by unfold sH;first|(simp_all;done)|(simp_all;omega)),rfl⟩)))))
theorem Tn (G:GH) (w0:World) (hG:Hold G w0) (s p:ByteArray) (hs:s.size≤4611686018427387904) (hp:p.size≤4611686018427387904):Calls prog 238 #[.string s,.string p] w0 (bY w0 G fun u G'=>u=.bool (sH s p)∧G=G'):=by
 refine eN [(0,_),(1,_)] func238 rfl ntmps238 rfl rfl hG ?_;intro a H;refine kP H (SR fun _ K1=>ak K1 rfl (SR fun _ K2=>Rm rfl (Rm rfl ?_)));clear H K1;intro a H;refine s_call agz H wn rfl (aie _ _ H.ro s p hs hp) rfl ?_;clear H;rintro v7 _ a w ⟨rfl,rfl⟩ - H;exact kH H (ak K2 rfl (LR results238 rfl fun H=>H.rt ⟨rfl,rfl⟩))
def vU (s:ByteArray) (k:Nat):Bool:=decide (k < s.size) && decide (49≤iY s k) && decide (iY s k≤57)
theorem Yo (G:GH) (L:OL) (w0:World) (b:Nat) (s:ByteArray) (i:Int) (p v q:aj) (pl e:Int) (k:Nat) (hs:s.size≤4611686018427387904) (hO:ji G (iL b s i p v q pl e :: L) w0) :
  Calls prog 239 #[(aQ b 0),vi k] w0 (iM w0 G (iL b s i p v q pl e :: L) fun u G' L'=>u=.bool (vU s k)∧L'=iL b s i p v q pl e :: L∧G'=G):=by
 refine lq (N:=30) (T:=[(0,_),(1,_)]) func239 rfl ntmps239 rfl rfl hO ?_;intro a H;refine kP H (SR fun _ K1=>ak K1 rfl (SR fun _ K2=>Rm rfl (Rm rfl (Rk rfl (aT yN gW 0 rfl rfl (Rv iB rfl (Rc rfl (Rm rfl (Sp 12 rfl ?_ ?_))))))))) <;> clear H K1
 ·intro h12 a H
  try have pK:=dT h12
  refine kH H (YM h12 rfl ?_);clear H;intro a H;refine sO H (wg H rfl rfl h12) rfl rfl ?_;clear H;intro a H;refine kH H (YF yN h12 rfl (YO gW 0 h12 rfl (YM h12 rfl ?_)));clear H;intro a H;refine pU k iB H (wg H rfl rfl h12) rfl rfl rfl (by omega) rfl ?_;clear H;intro a H;rw [← nJ] at H;refine kH H (YC h12 rfl (Pt h12 rfl (Rm rfl (Sp 21 rfl ?_ ?_)))) <;> clear H
  ·intro h21 a H
   try have nX:=dT h21
   refine kH H (YM h21 rfl ?_);clear H;intro a H;refine sO H (wg H rfl rfl h21) rfl rfl ?_;clear H;intro a H;refine kH H (YF yN h21 rfl (YO gW 0 h21 rfl (YM h21 rfl ?_)));clear H;intro a H;refine pU k iB H (wg H rfl rfl h21) rfl rfl rfl (by omega) rfl ?_;clear H;intro a H;rw [← nJ] at H;exact kH H (YC h21 rfl (Pt h21 rfl (ak K2 rfl (LR results239 rfl fun H=>H.hp.fO ⟨aL (by unfold vU;first|(simp_all;done)|(simp_all;omega)),rfl,rfl⟩))))
  intro h21 a H
  try have nX:=dF h21
  exact kH H (aZ h21 rfl (aS h21 rfl (aS h21 rfl (Pf h21 rfl (ak K2 rfl (LR results239 rfl fun H=>H.hp.fO ⟨aL (by unfold vU;first|(simp_all;done)|(simp_all;omega)),rfl,rfl⟩))))))
 intro h12 a H
 try have pK:=dF h12
 exact kH H (aZ h12 rfl (aS h12 rfl (aS h12 rfl (Pf h12 rfl (Rm rfl (aZ rfl rfl (aS rfl rfl (aS rfl rfl (Pf rfl rfl (ak K2 rfl (LR results239 rfl fun H=>H.hp.fO ⟨aL (by unfold vU;first|(simp_all;done)|(simp_all;omega)),rfl,rfl⟩)))))))))))
structure vL where
 i:Nat
 lit:List UInt8
 parts:List jH
 pl:Nat
 e:Int
def pR (s:ByteArray) (x:vL):vL :=
 if sH (s.extract x.i s.size) ⟨#[37,37]⟩=true then ⟨x.i+2,x.lit++[37],x.parts,x.pl,x.e⟩
 else if vU s (x.i+1)=true then ⟨x.i+2,[],vY x.lit x.parts++[⟨⟨#[]⟩,iY s (x.i+1) - 48,false⟩],x.pl+1,x.e⟩
 else if sH (s.extract x.i s.size) ⟨#[37,100]⟩=true∧vU s (x.i+2)=true then ⟨x.i+3,[],vY x.lit x.parts++[⟨⟨#[]⟩,iY s (x.i+2) - 48,true⟩],x.pl+1,x.e⟩
 else ⟨x.i,x.lit,x.parts,x.pl,14⟩
abbrev xS (b:Nat) (s:ByteArray) (x:vL) (p v q:aj):Nat × Obj:=iL b s x.i p v q x.pl x.e
theorem Yn {s:ByteArray} {k:Nat} (h:vU s k=true):k < s.size∧49≤iY s k∧iY s k≤57:=by
 simpa [vU,and_assoc] using h
set_option maxHeartbeats 1000000 in
theorem alQ (G:GH) (Lp Lo:OL) (w0:World) (b:Nat) (s:ByteArray) (x:vL) (p v q:aj) (hR:BK b x.lit x.parts p v q Lp Lo) (hO:ji G (xS b s x p v q :: (Lp++Lo)) w0) (hs:s.size≤4294967290) (hi:x.i < s.size) (hl:x.lit.length≤4294967290) (hp:x.parts.length≤4294967290) (hpl:x.pl≤4294967290) :
    Calls prog 234 #[(aQ b 0)] w0 (iM w0 G (xS b s x p v q :: (Lp++Lo)) fun u G' L'=>∃ p' v' q' qU jU,L'=xS b s (pR s x) p' v' q' :: (qU++jU)∧BK b (pR s x).lit (pR s x).parts p' v' q' qU jU):=by
  obtain ⟨i,lit,parts,pl,e⟩:=x;dsimp only [xS] at *
  have hex:(s.extract i s.size).size≤4611686018427387904:=by rw [ByteArray.size_extract];omega
  obtain ⟨A,c,rfl,aap,aaq⟩:=hR.buf.shape;obtain ⟨B,d,rfl,aad,aae⟩:=hR.prt.shape;obtain ⟨Lt,qm⟩:∃ x,x=Lp++Lo:=⟨_,rfl⟩;rw [← qm] at hO ⊢;refine lq (N:=93) (T:=[(0,_)]) func234 rfl ntmps234 rfl rfl hO ?_;intro a H;refine sD ?_;refine aN (fun _ K1=>?_);refine dI hmx [[],[0],[0,1],[0,1,2],[],[4],[4,5],[4,5,6],(ra 0 8),(ra 0 9),(ra 0 10)] [] (by kernel_rfl) [_,_,_,.string s,_,_,_,vi i,.string (s.extract i s.size),.bool (sH (s.extract i s.size) ⟨#[37,37]⟩),_] H (aI (Z0 rfl (Rm rfl)) (Z1 0 6 rfl (Rk rfl)) (Z1 1 7 rfl (Rf yN rfl)) (Z1 2 8 rfl (Ro gW 0 rfl)) (aI (Z0 rfl (Rm rfl)) (Z1 4 10 rfl (Rk rfl)) (Z1 5 11 rfl (Rf qH rfl)) (Z1 6 12 rfl (Ro aD 0 rfl)) (bC ?_ (bC ?_ (bC (Z1 9 15 rfl (Ra rfl)) dN))))) ?_
  · refine eU 3 9 7 13 rfl rfl fun _ a w G1 hG HT H fin=>?_;refine VK i iB H wn rfl rfl rfl (by omega) rfl ?_;clear H;intro a H;exact fin H iJ rfl
  · refine eF 8 14 rfl rfl fun _ a w G1 hG HT H fin=>?_;refine s_call Q8 H wn rfl (Tn _ _ H.ro _ _ hex (by decide)) rfl ?_;clear H;rintro v15 Fx a w ⟨rfl,rfl⟩ Gn H;exact fin H Gn (rfl)
  clear H;intro a w G rJ H hv;have H:=H.bg (hv 10 5 rfl rfl) rfl;clear hv;refine aJ ⟨rfl,?_⟩;refine K1 _ _ ?_;clear K1;refine qF H rfl ?_ ?_
  · intro h5
    try have p5:=dT h5
    refine kP H (SR fun _ K2=>Rm rfl (Rk rfl (Rf KJ rfl ?_)));clear H;intro a H;refine gP YD (Li:=[]) (L:=iL b s i p (.slice A lit.length c) (.slice B parts.length d) pl e :: Lt) H wn rfl (by subst qm;exact acV _ Lp Lo _ b s i p _ B parts.length d pl e lit.length _ 37 hR.ptr (Hp.owns (Li:=[]) H.hp) hR.buf (by omega)) rfl ?_;clear H;rintro v19 _ L19 a w ⟨aqQ,adA,rfl,EP,rfl⟩ GN H;dsimp only [List.nil_append] at H;obtain ⟨A19,c19,rfl,-,-⟩:=EP.shape;refine K2 _ _ ?_;clear K2;refine kP H (SC (Rm rfl (Rk rfl (aT qH aD 0 rfl rfl (Rd rfl (Rk rfl (Rf qH rfl ?_)))))));clear H;intro a H;refine bT aD 0 (vs:=[_]) _ H wn rfl rfl rfl rfl rfl rfl rfl rfl ?_;clear H;intro w H;dsimp only [List.set,setRow] at H;refine aJ ?_;refine (leave0 H results234 ?_).2;exact H.hp.fO ⟨_,_,_,Lp,adA,by rw [pR,au h5];rfl,by rw [pR,au h5];exact ⟨.inr rfl,by simpa [Lib.byteCells] using EP,hR.prt⟩⟩
  intro h5
  try have p5:=dF h5
  refine kP H (SR fun _ K3=>Rm rfl (Rm rfl (Rk rfl (aT qH aD 0 rfl rfl (Rd rfl ?_)))));clear H;intro a H;rw [show ((i:Int)+1)=((i+1:Nat):Int) from rfl] at H;refine gP YE (Li:=[]) (L:=iL b s i p (.slice A lit.length c) (.slice B parts.length d) pl e :: Lt) H wn rfl (Yo _ Lt _ b s i p _ _ pl e (i+1) (by omega) (Hp.owns (Li:=[]) H.hp)) rfl ?_;clear H;rintro v34 _ L34 a w ⟨rfl,rfl,rfl⟩ ZP H;dsimp only [List.nil_append] at H;refine kH H (ak K3 rfl (Cd rfl ?_ ?_)) <;> clear H K3
  · intro h27 a H
    try have p27:=dT h27
    have hd1:=Yn h27;refine aN (fun _ K4=>?_);refine dI hmx [[],[],[1],[1,2],[1,2,3],[],[5],[5,6],[5,6,7],(ra 5 4),(ra 1 9),(ra 0 11)] [11] (by kernel_rfl) [_,_,_,_,.string s,_,_,_,vi i,_,.int .u8 (iY s (i+1))] H (aI (Z0 rfl (Rm rfl)) (Z0 rfl (Rm rfl)) (Z1 1 36 rfl (Rk rfl)) (Z1 2 37 rfl (Rf yN rfl)) (aI (Z1 3 38 rfl (Ro gW 0 rfl)) (Z0 rfl (Rm rfl)) (Z1 5 40 rfl (Rk rfl)) (Z1 6 41 rfl (Rf qH rfl)) (aI (Z1 7 42 rfl (Ro aD 0 rfl)) (Z1 8 43 rfl (Rd rfl)) ?_ (cu rfl) dN))) ?_
    · refine eU 4 39 9 44 rfl rfl fun _ a w G1 hG HT H fin=>?_;refine pU (i+1) iB H wn rfl rfl rfl hd1.1 rfl ?_;clear H;intro a H;rw [← nJ] at H;exact fin H iJ rfl
    clear H;intro a w G N7 H hv;have H:=H.bg (hv 0 35 rfl rfl) rfl;have H:=H.bg (hv 10 45 rfl rfl) rfl;clear hv;refine gP YG (Li:=[]) (L:=iL b s i p (.slice A lit.length c) (.slice B parts.length d) pl e :: Lt) H wn rfl (by subst qm;exact abt _ Lp Lo _ b s i p _ _ pl e lit parts (iY s (i+1)) false hR (Hp.owns (Li:=[]) H.hp) (by omega) (by omega) hd1.2 (by omega)) rfl ?_;clear H;rintro v46 Qc L46 a w ⟨p46,aoF,q46,Ka,J9,rfl,xG⟩ Dx H;dsimp only [List.nil_append] at H;obtain ⟨A46,c46,rfl,-,-⟩:=xG.buf.shape;obtain ⟨B46,d46,rfl,-,-⟩:=xG.prt.shape;refine aJ ⟨rfl,?_⟩;refine K4 _ _ ?_;clear K4;refine kP H (SC (Rm rfl (Rk rfl (aT qH aD 0 rfl rfl (Rd rfl (Rk rfl (Rf qH rfl ?_)))))));clear H;intro a H;refine bT aD 0 (vs:=[_]) _ H wn rfl rfl rfl rfl rfl rfl rfl rfl ?_;clear H;intro w H;dsimp only [List.set,setRow] at H;refine aJ ?_;refine (leave0 H results234 ?_).2;exact H.hp.fO ⟨_,_,_,Ka,J9,by rw [pR,ah (by simp [h5]),au h27];rfl,by rw [pR,ah (by simp [h5]),au h27];exact xG⟩
  intro h27 a H
  try have p27:=dF h27
  refine aN (fun _ K5=>?_)
  by_cases c1:sH (s.extract i s.size) ⟨#[37,100]⟩=true
  · skip;refine dI hmx [[],[0],[0,1],[0,1,2],[],[4],[4,5],[4,5,6],(ra 0 8),(ra 0 9),(ra 0 10),(ra 0 11),(ra 0 11),(ra 0 11++[12]),(ra 0 11++[12,13]),(ra 0 11++[12,13,14]),(ra 0 11++ra 12 4),(ra 0 17),(ra 0 18),(ra 0 19)] [] (by kernel_rfl) [_,_,_,.string s,_,_,_,vi i,.string (s.extract i s.size),.bool (sH (s.extract i s.size) ⟨#[37,100]⟩),.bool (decide (sH (s.extract i s.size) ⟨#[37,100]⟩=true)),_,_,(aQ b 0),_,vi i,vi ((i+2:Nat):Int),.bool (vU s (i+2)),_,_] H (aI (Z0 rfl (Rm rfl)) (Z1 0 55 rfl (Rk rfl)) (Z1 1 56 rfl (Rf yN rfl)) (Z1 2 57 rfl (Ro gW 0 rfl)) (aI (Z0 rfl (Rm rfl)) (Z1 4 59 rfl (Rk rfl)) (Z1 5 60 rfl (Rf qH rfl)) (Z1 6 61 rfl (Ro aD 0 rfl)) (aI ?_ ?_ ?_ (Z1 10 65 rfl (YM (aF c1) rfl)) (aI (Z1 10 65 rfl (YM (aF c1) rfl)) ?_ (Z2 13 68 10 65 rfl (YF qH (aF c1) rfl)) (Z2 14 69 10 65 rfl (YO aD 0 (aF c1) rfl)) (aI ?_ ?_ (Z2 10 65 17 72 rfl (Pt (aF c1) rfl)) (Z1 18 73 rfl (Ra rfl)) dN))))) ?_
    · refine eU 3 58 7 62 rfl rfl fun _ a w G1 hG HT H fin=>?_;refine VK i iB H wn rfl rfl rfl (by omega) rfl ?_;clear H;intro a H;exact fin H iJ rfl
    · refine eF 8 63 rfl rfl fun _ a w G1 hG HT H fin=>?_;refine s_call Q8 H wn rfl (Tn _ _ H.ro _ _ hex (by decide)) rfl ?_;clear H;rintro v64 G64 a w ⟨rfl,rfl⟩ SL H;exact fin H SL (rfl)
    · refine eF 9 64 rfl rfl fun _ a w G1 hG HT H fin=>?_;refine kH H (Rm rfl ?_);clear H;intro a H;exact fin H iJ (by show _=_;simp)
    · refine eU 12 67 10 65 rfl rfl fun _ a w G1 hG HT H fin=>?_;refine sO H (wg H rfl rfl (aF c1)) rfl rfl ?_;clear H;intro a H;exact fin H iJ rfl
    · refine eU 15 70 10 65 rfl rfl fun _ a w G1 hG HT H fin=>?_;refine Pp _ H (wg H rfl rfl (aF c1)) rfl rfl rfl (by omega) (by omega) rfl ?_;clear H;intro a H;exact fin H iJ rfl
    · refine vK 11 66 16 71 10 65 rfl rfl fun _ a w G1 hG HT H fin=>?_;refine gP YE (Li:=[]) (L:=iL b s i p (.slice A lit.length c) (.slice B parts.length d) pl e :: Lt) H (wg H rfl rfl (aF c1)) rfl (Yo _ Lt _ b s i p _ _ pl e (i+2) (by omega) (Hp.owns (Li:=[]) H.hp)) rfl ?_;clear H;rintro v72 G72 L72 a w ⟨rfl,rfl,rfl⟩ ahR H;dsimp only [List.nil_append] at H;exact fin H ahR (rfl)
    clear H;intro a w G SN H hv;have H:=H.bg (hv 19 54 rfl rfl) rfl;clear hv;refine aJ ⟨rfl,?_⟩;refine K5 _ _ ?_;clear K5;refine qF H rfl ?_ ?_
    · intro iG
      try have p54:=dT iG
      have hd2:=Yn iG;refine aN (fun _ K6=>?_);refine dI hmx [[],[],[1],[1,2],[1,2,3],[],[5],[5,6],[5,6,7],(ra 5 4),(ra 1 9),(ra 0 11)] [11] (by kernel_rfl) [_,_,_,_,.string s,_,_,_,vi i,_,.int .u8 (iY s (i+2))] H (aI (Z0 rfl (Rm rfl)) (Z0 rfl (Rm rfl)) (Z1 1 75 rfl (Rk rfl)) (Z1 2 76 rfl (Rf yN rfl)) (aI (Z1 3 77 rfl (Ro gW 0 rfl)) (Z0 rfl (Rm rfl)) (Z1 5 79 rfl (Rk rfl)) (Z1 6 80 rfl (Rf qH rfl)) (aI (Z1 7 81 rfl (Ro aD 0 rfl)) (Z1 8 82 rfl (Rd rfl)) ?_ (cu rfl) dN))) ?_
      · refine eU 4 78 9 83 rfl rfl fun _ a w G1 hG HT H fin=>?_;refine pU (i+2) iB H wn rfl rfl rfl hd2.1 rfl ?_;clear H;intro a H;rw [← nJ] at H;exact fin H iJ rfl
      clear H;intro a w G zR H hv;have H:=H.bg (hv 0 74 rfl rfl) rfl;have H:=H.bg (hv 10 84 rfl rfl) rfl;clear hv;refine gP YG (Li:=[]) (L:=iL b s i p (.slice A lit.length c) (.slice B parts.length d) pl e :: Lt) H wn rfl (by subst qm;exact abt _ Lp Lo _ b s i p _ _ pl e lit parts (iY s (i+2)) true hR (Hp.owns (Li:=[]) H.hp) (by omega) (by omega) hd2.2 (by omega)) rfl ?_;clear H;rintro v85 G85 L85 a w ⟨p46,aoF,q46,Ka,J9,rfl,xG⟩ apV H;dsimp only [List.nil_append] at H;obtain ⟨A46,c46,rfl,-,-⟩:=xG.buf.shape;obtain ⟨B46,d46,rfl,-,-⟩:=xG.prt.shape;refine aJ ⟨rfl,?_⟩;refine K6 _ _ ?_;clear K6;refine kP H (SC (Rm rfl (Rk rfl (aT qH aD 0 rfl rfl (Rd rfl (Rk rfl (Rf qH rfl ?_)))))));clear H;intro a H;refine bT aD 0 (vs:=[_]) _ H wn rfl rfl rfl rfl rfl rfl rfl rfl ?_;clear H;intro w H;dsimp only [List.set,setRow] at H;refine aJ ?_;refine (leave0 H results234 ?_).2
      have tY:¬ sH (s.extract i s.size) ⟨#[37,37]⟩=true:=by simp [h5]
      have xJ:¬ vU s (i+1)=true:=by simp [h27]
      first
        | exact H.hp.fO ⟨_,_,_,Ka,J9,by rw [pR,ah tY,ah xJ,au ⟨c1,iG⟩];rfl,by rw [pR,ah tY,ah xJ,au ⟨c1,iG⟩];exact xG⟩
        | (have EM:¬ (sH (s.extract i s.size) ⟨#[37,100]⟩=true∧vU s (i+2)=true):=by simp_all
           exact H.hp.fO ⟨_,_,_,Lp,Lo,by rw [pR,ah tY,ah xJ,ah EM,qm],by rw [pR,ah tY,ah xJ,ah EM];exact hR⟩)
    intro iG
    try have p54:=dF iG
    refine kP H (SC (Rm rfl (Rk rfl (Rf BU rfl ?_))));clear H;intro a H;refine bT gZ 0 (vs:=[_]) _ H wn rfl rfl rfl rfl rfl rfl rfl rfl ?_;clear H;intro w H;dsimp only [List.set,setRow] at H;refine aJ ?_;refine (leave0 H results234 ?_).2
    have tY:¬ sH (s.extract i s.size) ⟨#[37,37]⟩=true:=by simp [h5]
    have xJ:¬ vU s (i+1)=true:=by simp [h27]
    first
      | exact H.hp.fO ⟨_,_,_,Ka,J9,by rw [pR,ah tY,ah xJ,au ⟨c1,iG⟩];rfl,by rw [pR,ah tY,ah xJ,au ⟨c1,iG⟩];exact xG⟩
      | (have EM:¬ (sH (s.extract i s.size) ⟨#[37,100]⟩=true∧vU s (i+2)=true):=by simp_all
         exact H.hp.fO ⟨_,_,_,Lp,Lo,by rw [pR,ah tY,ah xJ,ah EM,qm],by rw [pR,ah tY,ah xJ,ah EM];exact hR⟩)
  skip;refine dI hmx [[],[0],[0,1],[0,1,2],[],[4],[4,5],[4,5,6],(ra 0 8),(ra 0 9),(ra 0 10),(ra 0 11),(ra 0 11),(ra 0 11++[12]),(ra 0 11++[12,13]),(ra 0 11++[12,13,14]),(ra 0 11++ra 12 4),(ra 0 17),(ra 0 18),(ra 0 19)] [] (by kernel_rfl) [_,_,_,.string s,_,_,_,vi i,.string (s.extract i s.size),.bool (sH (s.extract i s.size) ⟨#[37,100]⟩),.bool (decide (sH (s.extract i s.size) ⟨#[37,100]⟩=true)),undef,undef,undef,undef,undef,undef,undef,_,_] H (aI (Z0 rfl (Rm rfl)) (Z1 0 55 rfl (Rk rfl)) (Z1 1 56 rfl (Rf yN rfl)) (Z1 2 57 rfl (Ro gW 0 rfl)) (aI (Z0 rfl (Rm rfl)) (Z1 4 59 rfl (Rk rfl)) (Z1 5 60 rfl (Rf qH rfl)) (Z1 6 61 rfl (Ro aD 0 rfl)) (aI ?_ ?_ ?_ (aW (j:=10) (by kernel_rfl) (fun _ _ _ _ _ h=>h) rfl rfl rfl rfl rfl (fun _ _ h=>aY h (aL (aP c1))) rfl (fun _=>rfl)) (aI (aW (j:=10) (by kernel_rfl) (fun _ _ _ _ _ h=>h) rfl rfl rfl rfl rfl (fun _ _ h=>aY h (aL (aP c1))) rfl (fun _=>rfl)) (aW (j:=10) (by kernel_rfl) (fun _ _ _ _ _ h=>h) rfl rfl rfl rfl rfl (fun _ _ h=>aY h (aL (aP c1))) rfl (fun _=>rfl)) (aW (j:=10) (by kernel_rfl) (fun _ _ _ _ _ h=>h) rfl rfl rfl rfl rfl (fun _ _ h=>aY h (aL (aP c1))) rfl (fun _=>rfl)) (aW (j:=10) (by kernel_rfl) (fun _ _ _ _ _ h=>h) rfl rfl rfl rfl rfl (fun _ _ h=>aY h (aL (aP c1))) rfl (fun _=>rfl)) (aI (aW (j:=10) (by kernel_rfl) (fun _ _ _ _ _ h=>h) rfl rfl rfl rfl rfl (fun _ _ h=>aY h (aL (aP c1))) rfl (fun _=>rfl)) (aW (j:=10) (by kernel_rfl) (fun _ _ _ _ _ h=>h) rfl rfl rfl rfl rfl (fun _ _ h=>aY h (aL (aP c1))) rfl (fun _=>rfl)) (Z2 10 65 17 72 rfl (Pf (aP c1) rfl)) (Z1 18 73 rfl (Ra rfl)) dN))))) ?_
  · refine eU 3 58 7 62 rfl rfl fun _ a w G1 hG HT H fin=>?_;refine VK i iB H wn rfl rfl rfl (by omega) rfl ?_;clear H;intro a H;exact fin H iJ rfl
  · refine eF 8 63 rfl rfl fun _ a w G1 hG HT H fin=>?_;refine s_call Q8 H wn rfl (Tn _ _ H.ro _ _ hex (by decide)) rfl ?_;clear H;rintro v64 G64 a w ⟨rfl,rfl⟩ SL H;exact fin H SL (rfl)
  · refine eF 9 64 rfl rfl fun _ a w G1 hG HT H fin=>?_;refine kH H (Rm rfl ?_);clear H;intro a H;exact fin H iJ (by show _=_;simp)
  clear H;intro a w G SN H hv;have H:=H.bg (hv 19 54 rfl rfl) rfl;clear hv;refine aJ ⟨rfl,?_⟩;refine K5 _ _ ?_;clear K5;refine oh H rfl rfl ?_;refine kP H (SC (Rm rfl (Rk rfl (Rf BU rfl ?_))));clear H;intro a H;refine bT gZ 0 (vs:=[_]) _ H wn rfl rfl rfl rfl rfl rfl rfl rfl ?_;clear H;intro w H;dsimp only [List.set,setRow] at H;refine aJ ?_;refine (leave0 H results234 ?_).2
  have tY:¬ sH (s.extract i s.size) ⟨#[37,37]⟩=true:=by simp [h5]
  have xJ:¬ vU s (i+1)=true:=by simp [h27]
  first
    | exact H.hp.fO ⟨_,_,_,Ka,J9,by rw [pR,ah tY,ah xJ,au ⟨c1,iG⟩];rfl,by rw [pR,ah tY,ah xJ,au ⟨c1,iG⟩];exact xG⟩
    | (have EM:¬ (sH (s.extract i s.size) ⟨#[37,100]⟩=true∧vU s (i+2)=true):=by simp_all
       exact H.hp.fO ⟨_,_,_,Lp,Lo,by rw [pR,ah tY,ah xJ,ah EM,qm],by rw [pR,ah tY,ah xJ,ah EM];exact hR⟩)
end
section
open Go.RowKit
theorem agu:∀ args w,(callFunc 234 args).run prog w=.ok (.enter 234 args) w:=enters func234 rfl (by kernel_rfl)
def M9 (s:ByteArray) (i:Nat):UInt8:=if h:i < s.size then s[i] else 0
theorem adN (s:ByteArray) (i:Nat):iY s i=((M9 s i).toNat:Int):=by
 unfold iY M9;split <;> rfl
def oU (s:ByteArray) (x:vL):vL:=if iY s x.i=37 then pR s x else ⟨x.i+1,x.lit++[M9 s x.i],x.parts,x.pl,x.e⟩
def DN (s:ByteArray):Nat→vL→vL
 | 0,x=>x
 | f+1,x=>if x.i < s.size∧x.e=0 then DN s f (oU s x) else x
def mS (s:ByteArray) (x:vL):Nat:=if x.e=0 then s.size - x.i else 0
theorem abL {s:ByteArray} {f:Nat} {x:vL} (h:¬ (x.i < s.size∧x.e=0)):DN s f x=x:=by
 cases f with
 | zero=>rfl
 | succ f=>rw [DN,ah h]
theorem ahs (lit:List UInt8) (parts:List jH):(vY lit parts).length≤parts.length+1:=by unfold vY;split <;> simp
theorem ace (s:ByteArray) (x:vL) (h:x.i < s.size∧x.e=0) (h1:x.lit.length≤x.i) (h2:x.parts.length≤2*x.i) (h3:x.pl≤x.i) :
  (oU s x).i≤x.i+3∧(oU s x).lit.length≤(oU s x).i∧(oU s x).parts.length≤2*(oU s x).i∧(oU s x).pl≤(oU s x).i∧mS s (oU s x) < mS s x∧mS s x≤s.size:=by
 have hf:=ahs x.lit x.parts;have hm:mS s x=s.size - x.i:=au h.2
 unfold oU pR
 split
 ·split
  ·refine ⟨?_,?_,?_,?_,?_,?_⟩ <;> simp only [mS,jP,kW,List.length_nil] at*<;> simp only [h.2,if_true] at*<;> omega
  split
  ·refine ⟨?_,?_,?_,?_,?_,?_⟩ <;> simp only [mS,jP,kW,List.length_nil] at*<;> simp only [h.2,if_true] at*<;> omega
  split
  ·refine ⟨?_,?_,?_,?_,?_,?_⟩ <;> simp only [mS,jP,kW,List.length_nil] at*<;> simp only [h.2,if_true] at*<;> omega
  refine ⟨?_,?_,?_,?_,?_,?_⟩ <;> simp only [mS,jP,kW,List.length_nil] at*<;> simp only [h.2,if_true] at*<;> (try omega) <;> (simp;omega)
 refine ⟨?_,?_,?_,?_,?_,?_⟩ <;> simp only [mS,jP,kW,List.length_nil] at*<;> simp only [h.2,if_true] at*<;> omega
def CB:vL:=⟨0,[],[],0,0⟩
def lF (s:ByteArray):vL:=DN s s.size CB
def vk (x:vL):Int:=if x.e=0∧9 < (x.pl:Int) then 9 else x.e
set_option maxHeartbeats 1000000 in
theorem anb (G:GH) (MZ MX:OL) (w0:World) (b:Nat) (s:ByteArray) (p0 v0 q0:aj) (hR:BK b [] [] p0 v0 q0 MZ MX) (hO:ji G (xS b s CB p0 v0 q0 :: (MZ++MX)) w0) (hs:s.size≤1073741824) :
  Calls prog 225 #[(aQ b 0)] w0 (iM w0 G (xS b s CB p0 v0 q0 :: (MZ++MX)) fun u G' L'=>∃ p' v' q' qU jU,L'=iL b s (lF s).i p' v' q' (lF s).pl (vk (lF s)) :: (qU++jU)∧BK b [] (vY (lF s).lit (lF s).parts) p' v' q' qU jU):=by
 obtain ⟨A0,c0,rfl,-,-⟩:=hR.buf.shape;obtain ⟨B0,d0,rfl,-,-⟩:=hR.prt.shape;refine lq (N:=68) (T:=[(0,_)]) func225 rfl ntmps225 rfl rfl hO ?_;intro a H;refine aN (fun _ K1=>?_);refine sD ?_;skip;refine eT (ι:=Nat × vL × aj × Option Addr × Nat × Option Addr × Nat × OL × OL × GH) (Tc:=[(0,_)]) (Lc:=[]) (fun gh=>[]) (fun gh=>[xS b s gh.2.1 gh.2.2.1 (.slice gh.2.2.2.1 gh.2.1.lit.length gh.2.2.2.2.1) (.slice gh.2.2.2.2.2.1 gh.2.1.parts.length gh.2.2.2.2.2.2.1)]++(gh.2.2.2.2.2.2.2.1++gh.2.2.2.2.2.2.2.2.1)) (fun gh=>gh.2.2.2.2.2.2.2.2.2) (fun gh=>BK b gh.2.1.lit gh.2.1.parts gh.2.2.1 (.slice gh.2.2.2.1 gh.2.1.lit.length gh.2.2.2.2.1) (.slice gh.2.2.2.2.2.1 gh.2.1.parts.length gh.2.2.2.2.2.2.1) gh.2.2.2.2.2.2.2.1 gh.2.2.2.2.2.2.2.2.1∧DN s gh.1 gh.2.1=lF s∧mS s gh.2.1≤gh.1∧gh.1≤s.size∧gh.2.1.i≤s.size+3∧gh.2.1.lit.length≤gh.2.1.i∧gh.2.1.parts.length≤2*gh.2.1.i∧gh.2.1.pl≤gh.2.1.i) (fun gh=>gh.1) ((s.size,CB,p0,A0,c0,B0,d0,MZ,MX,G)) (by exact (H).sub ⟨rfl,aB⟩) ?_ ?_
 ·exact ⟨hR,rfl,by simp [mS,CB],dw _,by simp [CB],by simp [CB],by simp [CB],by simp [CB]⟩
 clear H;rintro ⟨k,x,p,vA,vc,qA,qc,Lp,Lo,g⟩ a w hI H;dsimp only at hI H;obtain ⟨hR,hsc,hmk,hks,hxi,hx1,hx2,hx3⟩:=hI;dsimp only [lca,aO] at H;refine aN (fun _ K2=>?_);refine aN (fun _ K3=>?_)
 by_cases c0:(x.i:Int) < (s.size:Int)
 ·skip
  by_cases c1:x.e=0
  ·skip;refine dI hmx [[],[0],[0,1],[0,1,2],[],[4],[4,5],[4,5,6],(ra 4 4),(ra 0 9),(ra 0 10),(ra 0 11),(ra 0 12),(ra 0 13),(ra 0 14),(ra 0 15),(ra 0 16)] [] (by kernel_rfl) [_,_,_,vi x.i,_,_,_,.string s,_,_,_,_,(aQ b 0),_,vi x.e,_,_] H (aI (Z0 rfl (Rm rfl)) (Z1 0 2 rfl (Rk rfl)) (Z1 1 3 rfl (Rf qH rfl)) (Z1 2 4 rfl (Ro aD 0 rfl)) (aI (Z0 rfl (Rm rfl)) (Z1 4 6 rfl (Rk rfl)) (Z1 5 7 rfl (Rf yN rfl)) (Z1 6 8 rfl (Ro gW 0 rfl)) (aI (Z1 7 9 rfl (Rv iB rfl)) (Z2 3 5 8 10 rfl (Rc rfl)) (Z1 9 11 rfl (Rm rfl)) (Z1 10 12 rfl (YM (aF c0) rfl)) (aI ?_ (Z2 12 14 10 12 rfl (YF BU (aF c0) rfl)) (Z2 13 15 10 12 rfl (YO gZ 0 (aF c0) rfl)) (Z2 14 16 10 12 rfl (YC (aF c0) rfl)) (bC (Z2 10 12 15 17 rfl (Pt (aF c0) rfl)) dN))))) ?_
   ·refine eU 11 13 10 12 rfl rfl fun _ a w G1 hG HT H fin=>?_;refine sO H (wg H rfl rfl (aF c0)) rfl rfl ?_;clear H;intro a H;exact fin H iJ rfl
   clear H;intro a w G Zk H hv;have H:=H.bg (hv 16 18 rfl rfl) rfl;clear hv;refine aJ ⟨rfl,?_⟩;refine K3 _ _ ?_;clear K3;refine Ay H rfl (aF c1) ?_;refine kP H (Kc K2 (SB (SQ fun _ K4=>SQ fun _ K5=>?_)));clear H K2;intro a H;refine dI hmx [[],[0],[0,1],[0,1,2],[],[4],[4,5],[4,5,6],(ra 0 8),(ra 0 9)] [] (by kernel_rfl) [_,_,_,.string s,_,_,_,vi x.i,.int .u8 (iY s x.i),_] H (aI (Z0 rfl (Rm rfl)) (Z1 0 19 rfl (Rk rfl)) (Z1 1 20 rfl (Rf yN rfl)) (Z1 2 21 rfl (Ro gW 0 rfl)) (aI (Z0 rfl (Rm rfl)) (Z1 4 23 rfl (Rk rfl)) (Z1 5 24 rfl (Rf qH rfl)) (Z1 6 25 rfl (Ro aD 0 rfl)) (bC ?_ (bC (Z1 8 27 rfl (Rc rfl)) dN)))) ?_
   ·refine eU 3 22 7 26 rfl rfl fun _ a w G1 hG HT H fin=>?_;refine pU x.i iB H wn rfl rfl rfl (by omega) rfl ?_;clear H;intro a H;rw [← nJ] at H;exact fin H iJ rfl
   clear H;intro a w G rJ H hv;have H:=H.bg (hv 9 28 rfl rfl) rfl;clear hv;refine aJ ⟨rfl,?_⟩;refine K5 _ _ ?_;clear K5;refine qF H rfl ?_ ?_
   ·intro jC
    try have p28:=dT jC
    refine kP H (SR fun _ K6=>Rm rfl ?_);clear H;intro a H;refine gP agu (Li:=[]) (L:=xS b s x p (.slice vA x.lit.length vc) (.slice qA x.parts.length qc) :: (Lp++Lo)) H wn rfl (alQ _ Lp Lo _ b s x p _ _ hR (Hp.owns (Li:=[]) H.hp) (by omega) (by omega) (by omega) (by omega) (by omega)) rfl ?_;clear H;rintro v30 D5 J8 a w ⟨p',v',q',qU,jU,rfl,Oa⟩ EK H;dsimp only [List.nil_append] at H;have hst:oU s x=pR s x:=au p28;have hok:=ace s x ⟨by omega,c1⟩ hx1 hx2 hx3
    have hkk:k=(k - 1)+1:=by omega
    have UC:DN s (k - 1) (oU s x)=lF s:=by rw [hkk,DN,au ⟨by omega,c1⟩] at hsc;exact hsc
    rw [← hst] at H Oa;obtain ⟨Wy,XU,rfl,-,-⟩:=Oa.buf.shape;obtain ⟨B30,d30,rfl,-,-⟩:=Oa.prt.shape;refine K6 _ _ ?_;clear K6;refine dR ?_;refine dH ((k - 1,oU s x,p',Wy,XU,B30,d30,qU,jU,D5)) (by exact (H).sub ⟨rfl,aB⟩) ?_ ?_
    ·(try dsimp only);exact ⟨Oa,UC,by omega,by omega,by omega,by omega,by omega,by omega⟩
    first|omega|(dsimp only;omega)
   intro jC
   try have p28:=dF jC
   refine fF ?_;refine K4 _ _ ?_;clear K4;refine aN (fun _ K7=>?_);refine dI hmx [[],[0],[0,1],[],[3],[3,4],[3,4,5],[],[7],[7,8],[7,8,9],(ra 3 8),(ra 0 12)] [12] (by kernel_rfl) [_,_,_,_,_,_,.string s,_,_,_,vi x.i,.int .u8 (iY s x.i)] H (aI (Z0 rfl (Rm rfl)) (Z1 0 31 rfl (Rk rfl)) (Z1 1 32 rfl (Rf KJ rfl)) (Z0 rfl (Rm rfl)) (aI (Z1 3 34 rfl (Rk rfl)) (Z1 4 35 rfl (Rf yN rfl)) (Z1 5 36 rfl (Ro gW 0 rfl)) (Z0 rfl (Rm rfl)) (aI (Z1 7 38 rfl (Rk rfl)) (Z1 8 39 rfl (Rf qH rfl)) (Z1 9 40 rfl (Ro aD 0 rfl)) ?_ (bC (cu rfl) dN)))) ?_
   ·refine eU 6 37 10 41 rfl rfl fun _ a w G1 hG HT H fin=>?_;refine pU x.i iB H wn rfl rfl rfl (by omega) rfl ?_;clear H;intro a H;rw [← nJ] at H;exact fin H iJ rfl
   clear H;intro a w G Zl H hv;have H:=H.bg (hv 2 33 rfl rfl) rfl;have H:=H.bg (hv 11 42 rfl rfl) rfl;clear hv;refine gP YD (Li:=[]) (L:=xS b s x p (.slice vA x.lit.length vc) (.slice qA x.parts.length qc) :: (Lp++Lo)) H wn rfl (acV _ Lp Lo _ b s x.i p _ qA x.parts.length qc x.pl x.e x.lit.length _ (iY s x.i) hR.ptr (Hp.owns (Li:=[]) H.hp) hR.buf (by omega)) rfl ?_;clear H;rintro v43 _ L43 a w ⟨aqR,Qs,rfl,aaj,rfl⟩ nu H;dsimp only [List.nil_append] at H;obtain ⟨ML,Nc,rfl,-,-⟩:=aaj.shape;have hst:oU s x=⟨x.i+1,x.lit++[M9 s x.i],x.parts,x.pl,x.e⟩:=ah p28;have hok:=ace s x ⟨by omega,c1⟩ hx1 hx2 hx3
   have hkk:k=(k - 1)+1:=by omega
   have UC:DN s (k - 1) (oU s x)=lF s:=by rw [hkk,DN,au ⟨by omega,c1⟩] at hsc;exact hsc
   have ahV:BK b (oU s x).lit (oU s x).parts (aQ b 2) (.slice ML (oU s x).lit.length Nc) (.slice qA (oU s x).parts.length qc) Lp Qs:=by
    rw [hst];exact ⟨.inr rfl,by simpa [Lib.byteCells,adN] using aaj,hR.prt⟩
   refine aJ ⟨rfl,?_⟩;refine K7 _ _ ?_;clear K7;refine kP H (SC (Rm rfl (Rk rfl (aT qH aD 0 rfl rfl (Rd rfl (Rk rfl (Rf qH rfl ?_)))))));clear H;intro a H;refine bT aD 0 (vs:=[_]) _ H wn rfl rfl rfl rfl rfl rfl rfl rfl ?_;clear H;intro w H;dsimp only [List.set,setRow] at H;replace H:St _ _ _ _ _ _ (xS b s (oU s x) (aQ b 2) (.slice ML (oU s x).lit.length Nc) (.slice qA (oU s x).parts.length qc) :: (Lp++Qs)) _ _ _:=H.cast (by rw [hst];simp [xS,iL]);refine aJ ?_;refine dH ((k - 1,oU s x,(aQ b 2),ML,Nc,qA,qc,Lp,Qs,_)) (by exact (H).sub ⟨rfl,aB⟩) ?_ ?_
   ·(try dsimp only);exact ⟨ahV,UC,by omega,by omega,by omega,by omega,by omega,by omega⟩
   first|omega|(dsimp only;omega)
  skip;refine dI hmx [[],[0],[0,1],[0,1,2],[],[4],[4,5],[4,5,6],(ra 4 4),(ra 0 9),(ra 0 10),(ra 0 11),(ra 0 12),(ra 0 13),(ra 0 14),(ra 0 15),(ra 0 16)] [] (by kernel_rfl) [_,_,_,vi x.i,_,_,_,.string s,_,_,_,_,(aQ b 0),_,vi x.e,_,_] H (aI (Z0 rfl (Rm rfl)) (Z1 0 2 rfl (Rk rfl)) (Z1 1 3 rfl (Rf qH rfl)) (Z1 2 4 rfl (Ro aD 0 rfl)) (aI (Z0 rfl (Rm rfl)) (Z1 4 6 rfl (Rk rfl)) (Z1 5 7 rfl (Rf yN rfl)) (Z1 6 8 rfl (Ro gW 0 rfl)) (aI (Z1 7 9 rfl (Rv iB rfl)) (Z2 3 5 8 10 rfl (Rc rfl)) (Z1 9 11 rfl (Rm rfl)) (Z1 10 12 rfl (YM (aF c0) rfl)) (aI ?_ (Z2 12 14 10 12 rfl (YF BU (aF c0) rfl)) (Z2 13 15 10 12 rfl (YO gZ 0 (aF c0) rfl)) (Z2 14 16 10 12 rfl (YC (aF c0) rfl)) (bC (Z2 10 12 15 17 rfl (Pt (aF c0) rfl)) dN))))) ?_
  ·refine eU 11 13 10 12 rfl rfl fun _ a w G1 hG HT H fin=>?_;refine sO H (wg H rfl rfl (aF c0)) rfl rfl ?_;clear H;intro a H;exact fin H iJ rfl
  clear H;intro a w G Zk H hv;have H:=H.bg (hv 16 18 rfl rfl) rfl;clear hv;refine aJ ⟨rfl,?_⟩;refine K3 _ _ ?_;clear K3;refine oh H rfl (aP c1) ?_;refine dR ?_;refine K1 _ _ ?_;clear K1;refine aN (fun _ K8=>?_)
  have UM:x=lF s:=by
   rw [abL (by first|exact fun h=>c0 (by omega)|exact fun h=>c1 h.2)] at hsc;exact hsc
  subst UM;refine kP H (SC (Rm rfl ?_));clear H;intro a H;refine gP Q7 (Li:=[]) (L:=xS b s (lF s) p (.slice vA (lF s).lit.length vc) (.slice qA (lF s).parts.length qc) :: (Lp++Lo)) H wn rfl (RZ _ Lp Lo _ b s (lF s).i p _ _ (lF s).pl (lF s).e (lF s).lit (lF s).parts hR (Hp.owns (Li:=[]) H.hp) (by omega) (by omega)) rfl ?_;clear H;rintro v52 Qf L52 a w ⟨p52,aoG,q52,adH,adD,rfl,tV⟩ Ud H;dsimp only [List.nil_append] at H;obtain ⟨A52,c52,rfl,-,-⟩:=tV.buf.shape;obtain ⟨B52,d52,rfl,-,-⟩:=tV.prt.shape;refine kH H (Kn K8 (SR fun _ K9=>Rm rfl (Rk rfl (aT BU gZ 0 rfl rfl (Rc rfl (Rm rfl (Sp 58 rfl ?_ ?_))))))) <;> clear H K8
  ·intro iZ a H
   try have p58:=dT iZ
   refine kH H (YM iZ rfl ?_);clear H;intro a H;refine sO H (wg H rfl rfl iZ) rfl rfl ?_;clear H;intro a H;refine kH H (YF NK iZ rfl (YO aD 0 iZ rfl (YC iZ rfl (Pt iZ rfl (Kz K9 (Cd rfl ?_ ?_)))))) <;> clear H K9
   ·intro h64 a H
    try have p64:=dT h64
    refine kP H (SC (Rm rfl (Rk rfl (Rf BU rfl ?_))));clear H;intro a H;refine bT gZ 0 (vs:=[_]) _ H wn rfl rfl rfl rfl rfl rfl rfl rfl ?_;clear H;intro w H;dsimp only [List.set,setRow] at H;refine aJ ?_;refine (leave0 H results225 ?_).2
    first
     | exact H.hp.fO ⟨_,_,_,_,_,by rw [vk,au ⟨by assumption,by assumption⟩],tV⟩
     | exact H.hp.fO ⟨_,_,_,_,_,by rw [vk,ah (by first|exact fun h=>p58 h.1|exact fun h=>p64 h.2)],tV⟩
   intro h64 a H
   try have p64:=dF h64
   refine fF ?_;refine (leave0 H results225 ?_).2
   first
    | exact H.hp.fO ⟨_,_,_,_,_,by rw [vk,au ⟨by assumption,by assumption⟩],tV⟩
    | exact H.hp.fO ⟨_,_,_,_,_,by rw [vk,ah (by first|exact fun h=>p58 h.1|exact fun h=>p64 h.2)],tV⟩
  intro iZ a H
  try have p58:=dF iZ
  refine kH H (aZ iZ rfl (aS iZ rfl (Pf iZ rfl (Kz K9 (Cf rfl rfl ?_)))));clear H K9;intro a H;refine fF ?_;refine (leave0 H results225 ?_).2
  first
   | exact H.hp.fO ⟨_,_,_,_,_,by rw [vk,au ⟨by assumption,by assumption⟩],tV⟩
   | exact H.hp.fO ⟨_,_,_,_,_,by rw [vk,ah (by first|exact fun h=>p58 h.1|exact fun h=>p64 h.2)],tV⟩
 skip;refine dI hmx [[],[0],[0,1],[0,1,2],[],[4],[4,5],[4,5,6],(ra 4 4),(ra 0 9),(ra 0 10),(ra 0 11),(ra 0 12),(ra 0 13),(ra 0 14),(ra 0 15),(ra 0 16)] [] (by kernel_rfl) [_,_,_,vi x.i,_,_,_,.string s,_,_,_,undef,undef,undef,undef,undef,_] H (aI (Z0 rfl (Rm rfl)) (Z1 0 2 rfl (Rk rfl)) (Z1 1 3 rfl (Rf qH rfl)) (Z1 2 4 rfl (Ro aD 0 rfl)) (aI (Z0 rfl (Rm rfl)) (Z1 4 6 rfl (Rk rfl)) (Z1 5 7 rfl (Rf yN rfl)) (Z1 6 8 rfl (Ro gW 0 rfl)) (aI (Z1 7 9 rfl (Rv iB rfl)) (Z2 3 5 8 10 rfl (Rc rfl)) (Z1 9 11 rfl (Rm rfl)) (aW (j:=10) (by kernel_rfl) (fun _ _ _ _ _ h=>h) rfl rfl rfl rfl rfl (fun _ _ h=>aY h (aL (aP c0))) rfl (fun _=>rfl)) (aI (aW (j:=10) (by kernel_rfl) (fun _ _ _ _ _ h=>h) rfl rfl rfl rfl rfl (fun _ _ h=>aY h (aL (aP c0))) rfl (fun _=>rfl)) (aW (j:=10) (by kernel_rfl) (fun _ _ _ _ _ h=>h) rfl rfl rfl rfl rfl (fun _ _ h=>aY h (aL (aP c0))) rfl (fun _=>rfl)) (aW (j:=10) (by kernel_rfl) (fun _ _ _ _ _ h=>h) rfl rfl rfl rfl rfl (fun _ _ h=>aY h (aL (aP c0))) rfl (fun _=>rfl)) (aW (j:=10) (by kernel_rfl) (fun _ _ _ _ _ h=>h) rfl rfl rfl rfl rfl (fun _ _ h=>aY h (aL (aP c0))) rfl (fun _=>rfl)) (bC (Z2 10 12 15 17 rfl (Pf (aP c0) rfl)) dN))))) ?_
 clear H;intro a w G Zk H hv;have H:=H.bg (hv 16 18 rfl rfl) rfl;clear hv;refine aJ ⟨rfl,?_⟩;refine K3 _ _ ?_;clear K3;refine oh H rfl rfl ?_;refine dR ?_;refine K1 _ _ ?_;clear K1;refine aN (fun _ aV=>?_)
 have UM:x=lF s:=by
  rw [abL (by first|exact fun h=>c0 (by omega)|exact fun h=>c1 h.2)] at hsc;exact hsc
 subst UM;refine kP H (SC (Rm rfl ?_));clear H;intro a H;refine gP Q7 (Li:=[]) (L:=xS b s (lF s) p (.slice vA (lF s).lit.length vc) (.slice qA (lF s).parts.length qc) :: (Lp++Lo)) H wn rfl (RZ _ Lp Lo _ b s (lF s).i p _ _ (lF s).pl (lF s).e (lF s).lit (lF s).parts hR (Hp.owns (Li:=[]) H.hp) (by omega) (by omega)) rfl ?_;clear H;rintro v52 Qf L52 a w ⟨p52,aoG,q52,adH,adD,rfl,tV⟩ Ud H;dsimp only [List.nil_append] at H;obtain ⟨A52,c52,rfl,-,-⟩:=tV.buf.shape;obtain ⟨B52,d52,rfl,-,-⟩:=tV.prt.shape;refine kH H (Kn aV (SR fun _ bF=>Rm rfl (Rk rfl (aT BU gZ 0 rfl rfl (Rc rfl (Rm rfl (Sp 58 rfl ?_ ?_))))))) <;> clear H aV
 ·intro iZ a H
  try have p58:=dT iZ
  refine kH H (YM iZ rfl ?_);clear H;intro a H;refine sO H (wg H rfl rfl iZ) rfl rfl ?_;clear H;intro a H;refine kH H (YF NK iZ rfl (YO aD 0 iZ rfl (YC iZ rfl (Pt iZ rfl (Kz bF (Cd rfl ?_ ?_)))))) <;> clear H bF
  ·intro h64 a H
   try have p64:=dT h64
   refine kP H (SC (Rm rfl (Rk rfl (Rf BU rfl ?_))));clear H;intro a H;refine bT gZ 0 (vs:=[_]) _ H wn rfl rfl rfl rfl rfl rfl rfl rfl ?_;clear H;intro w H;dsimp only [List.set,setRow] at H;refine aJ ?_;refine (leave0 H results225 ?_).2
   first
    | exact H.hp.fO ⟨_,_,_,_,_,by rw [vk,au ⟨by assumption,by assumption⟩],tV⟩
    | exact H.hp.fO ⟨_,_,_,_,_,by rw [vk,ah (by first|exact fun h=>p58 h.1|exact fun h=>p64 h.2)],tV⟩
  intro h64 a H
  try have p64:=dF h64
  refine fF ?_;refine (leave0 H results225 ?_).2
  first
   | exact H.hp.fO ⟨_,_,_,_,_,by rw [vk,au ⟨by assumption,by assumption⟩],tV⟩
   | exact H.hp.fO ⟨_,_,_,_,_,by rw [vk,ah (by first|exact fun h=>p58 h.1|exact fun h=>p64 h.2)],tV⟩
 intro iZ a H
 try have p58:=dF iZ
 refine kH H (aZ iZ rfl (aS iZ rfl (Pf iZ rfl (Kz bF (Cf rfl rfl ?_)))));clear H bF;intro a H;refine fF ?_;refine (leave0 H results225 ?_).2
 first
  | exact H.hp.fO ⟨_,_,_,_,_,by rw [vk,au ⟨by assumption,by assumption⟩],tV⟩
  | exact H.hp.fO ⟨_,_,_,_,_,by rw [vk,ah (by first|exact fun h=>p58 h.1|exact fun h=>p64 h.2)],tV⟩
end
section
open Go.RowKit
def BA (c:Int):List Dat:=[.lf (.int .u8 c)]
theorem acs {G:GH} {c:Int} {cs:List aj} (h:bJ G (BA c) cs):cs=[.int .u8 c]:=by
 simp only [BA,bJ,aC] at h
 obtain ⟨_,_,rfl,⟨rfl,_⟩,rfl⟩:=h
 rfl
def Iz (s:ByteArray):List Int:=s.data.toList.map fun b=>(b.toNat:Int)
theorem aee (G:GH) (l:List Int):ig G 1 (l.map BA) (l.map fun c=>Value.int .u8 c):=by
 refine ⟨l.map fun c=>[.int .u8 c],by induction l with|nil=>rfl|cons x r ih=>simp [ih],by simp,fun j r cs hr hc=>?_⟩
 rw [qE] at hr hc
 obtain ⟨x,hx,rfl⟩:=oC.1 hr
 rw [hx] at hc
 cases hc
 exact ⟨by simp only [BA,bJ];exact ⟨_,_,rfl,by simp [aC,Value.oneCell'],rfl⟩,rfl⟩
theorem amu {G:GH} {sz b o n cap:Nat} {cur:Array aj} {e:TypeId} {fz:Nat × Nat} {rows:List (List Dat)} (hb:G b=some (.cells cur e fz)) (h:aC (fun k=>if k=b then some (.cells cur e (0,0)) else G k) (.sl sz rows) (.slice (some ⟨b,o,none⟩) n cap)) (hr:∀ r∈rows,∃ c,r=BA c):aC G (.sl sz rows) (.slice (some ⟨b,o,none⟩) n cap):=by
 simp only [aC] at h ⊢
 obtain ⟨A,c,h1,h2,h3,h4⟩:=h
 refine ⟨A,c,h1,h2,h3,fun hn=>?_⟩
 obtain ⟨b',o',e',hrr⟩:=h4 hn
 injection h1 with e1
 subst e1
 injection e' with e2
 injection e2 with e3 e4
 subst e3;subst e4
 refine ⟨_,_,rfl,mU.mk fun k r hk=>?_⟩
 obtain ⟨cs,g1,g2,g3⟩:=hrr.get hk
 refine ⟨cs,g1,fun j u hj=>?_,?_⟩
 ·have:=g2 j u hj
  unfold aG at this ⊢
  simp only [if_true] at this
  rw [hb];exact this
 ·obtain ⟨c,rfl⟩:=hr r (nQ hk)
  have:=acs g3
  subst this
  simp only [BA,bJ];exact ⟨_,_,rfl,by simp [aC,Value.oneCell'],rfl⟩
section
variable {N:Nat} {D:List Deferred} {w0:World} {F:Nat→Prop} {G0 G:GH} {L:OL} {T:List (Nat × aj)}
variable {r:Option Nat} {P:Program} {ops:Array Oper} {Q:Exit→Act→World→Prop} {rest:List Oper} {a:Act} {w:World}
variable {d:Nat} {ty:TypeId} {pos:String} {aR:Array Edge} {g:Option (Nat × Bool)}
theorem aoy {w:World} {b o n:Nat} {c:Array aj} {e:TypeId} {fz:Nat × Nat} (h:w.heap[b]?=some (.cells c e fz)) (hn:n≠0):∃ Gd,wZ b (.cells c e Gd) w (w.freeze ⟨b,o,none⟩ n):=by
 unfold World.freeze
 rw [ah hn]
 refine ⟨if fz.1 == fz.2 then (o,o+n) else (min fz.1 o,max fz.2 (o+n)),rfl,rfl,rfl,by simp,?_,fun k hk=>?_⟩
 ·simp [Array.getElem?_modify,h]
 ·simp [Array.getElem?_modify,Ne.symm hk]
theorem amN {t u e:TypeId} {x:Operand} {s:ByteArray} (ht:P.underlying t=some .string) (hu:P.underlying u=some (.slice e)) (he:P.underlying e=some (.int .u8)) (H:St N D w0 F G0 G L T a w) (hw:Region.wanted ⟨some d,.convert t u x,ty,pos,aR,g⟩ (yielded ops a.tmps)=true) (hx:ev T x=some (.string s)) (hz:s.size≤4294967296) (hd:Nat.blt d N=true)
  (k:∀ v G' a' w',(∀ k o,G k=some o→G' k=some o)→aC G' (.sl 1 ((Iz s).map BA)) v→St N D w0 F G0 G' L ((d,v) :: T) a' w'→WL r P ops Q rest a' w'):WL r P ops Q (⟨some d,.convert t u x,ty,pos,aR,g⟩ :: rest) a w:=by
 have hc:=Lib.run_convert_string_bytes (P:=P) w t u e s ht hu he
 have hge:=grownCap_ge w s.size 0 e
 have hml:s.size≤maxLen:=by
  have:maxLen=9223372036854775807:=rfl
  omega
 have hgm:=grownCap_le_maxLen w s.size 0 e hml
 have H1:=H.hp.drew.alloc (.cells (Lib.bytesCells w e s) e)
 have hw1:(w.drew.alloc (.cells (Lib.bytesCells w e s) e)).heap[w.drew.heap.size]?=some (.cells (Lib.bytesCells w e s) e (0,0)):=H1.own _ jB
 obtain ⟨fz,hu2⟩:=aoy (o:=(Lib.bytesCells w e s).size) (n:=1) hw1 (by decide)
 have H2:=H1.upd (i:=0) rfl hu2
 have H3:St N D w0 F G0 G ((w.heap.size,.cells (Lib.bytesCells w e s) e fz) :: L) ((d,.slice (some ⟨w.heap.size,0,none⟩) s.size (grownCap w s.size 0 e)) :: T) (a.put (some d) (.slice (some ⟨w.heap.size,0,none⟩) s.size (grownCap w s.size 0 e))) (Lib.bytesWorld w e s):=H.put hd _ H2
 obtain ⟨G',hm,hb,H4⟩:=H3.dW
 have hlen:(Iz s).length=s.size:=by rw [Iz,bQ,yD];rfl
 have hrep:aC G' (.sl 1 ((Iz s).map BA)) (.slice (some ⟨w.heap.size,0,none⟩) s.size (grownCap w s.size 0 e)):=by
  refine amu hb ?_ (fun r hr=>by obtain ⟨c,-,rfl⟩:=List.mem_map.1 hr;exact ⟨c,rfl⟩)
  refine aC.eZ (cur:=Lib.bytesCells w e s) (e:=e) (n:=s.size) (cap:=grownCap w s.size 0 e) (by simp) (by rw [bQ,hlen]) hge hgm ?_ (aee _ _)
  rw [Lib.bytesCells,Array.toList_append,Nat.mul_one,List.take_left' (by rw [Array.toList_map,bQ,yD];rfl)]
  simp [Iz]
 have k2:=k _ _ _ _ hm hrep H4
 refine iF (v:=.slice (some ⟨w.heap.size,0,none⟩) s.size (grownCap w s.size 0 e)) (w':=Lib.bytesWorld w e s) hw rfl ?_ k2
 simp only [execOp,H.ev hx,fD,hc,pq,sW]
theorem abG {t yt:TypeId} {x y:Operand} {p q:ByteArray} (H:St N D w0 F G0 G L T a w) (hw:Region.wanted ⟨some d,.binOp .lss t x y yt,ty,pos,aR,g⟩ (yielded ops a.tmps)=true) (hx:ev T x=some (.string p)) (hy:ev T y=some (.string q)) (hd:Nat.blt d N=true)
  (k:∀ a',St N D w0 F G0 G L ((d,.bool (Op.bytesLess p.toList q.toList)) :: T) a' w→WL r P ops Q rest a' w):WL r P ops Q (⟨some d,.binOp .lss t x y yt,ty,pos,aR,g⟩ :: rest) a w:=by
 refine iF (v:=.bool (Op.bytesLess p.toList q.toList)) (w':=w) hw rfl ?_ (k _ (H.put hd _ H.hp))
 simp [execOp,H.ev hx,H.ev hy,fD,eqGuard,binOp,Op.stringOp]
end
end
section
open Go.RowKit
theorem agt:∀ args w,(callFunc 233 args).run prog w=.ok (.enter 233 args) w:=enters func233 rfl (by kernel_rfl)
theorem agq:∀ args w,(callFunc 225 args).run prog w=.ok (.enter 225 args) w:=enters func225 rfl (by kernel_rfl)
theorem agn:∀ args w,(callFunc 223 args).run prog w=.ok (.enter 223 args) w:=enters func223 rfl (by kernel_rfl)
theorem anK:sU prog 289 [(0,1),(1,1),(2,2),(4,1),(5,1),(6,1)] [.string ⟨#[]⟩,.int .i64 0,.pointer none,.slice none 0 0,.slice none 0 0,.int .i64 0,.int .i64 0]:=⟨by kernel_rfl,by kernel_rfl⟩
theorem agr:∀ args w,(callFunc 226 args).run prog w=.ok (.enter 226 args) w:=enters func226 rfl (by kernel_rfl)
theorem ahh:dJ prog 258 1 1:=⟨by kernel_rfl⟩
theorem afY:∀ args w,(callFunc 199 args).run prog w=.ok (.enter 199 args) w:=enters func199 rfl (by kernel_rfl)
theorem aga:∀ args w,(callFunc 200 args).run prog w=.ok (.enter 200 args) w:=enters func200 rfl (by kernel_rfl)
theorem agp:∀ args w,(callFunc 224 args).run prog w=.ok (.enter 224 args) w:=enters func224 rfl (by kernel_rfl)
theorem agb:∀ args w,(callFunc 201 args).run prog w=.ok (.enter 201 args) w:=enters func201 rfl (by kernel_rfl)
def Qw (fv:aj) (G:GH) (c:Int) (b:Bool):Prop:=∀ (G1:GH) (w1:World),(∀ b o,G b=some o→G1 b=some o)→Hold G1 w1→zD prog fv [.int .u8 c] w1 (bY w1 G1 fun u G'=>u=.bool b)
theorem aks (G:GH) (w0:World) (hG:Hold G w0) (l:List Int) (p:Int→Bool) (v fv:aj) (hv:aC G (.sl 1 (l.map BA)) v) (hf:∀ c∈l,Qw fv G c (p c)) :
  Calls prog 233 #[v,fv] w0 (bY w0 G fun u G'=>u=vi (qp (l.findIdx? p))):=by
 obtain ⟨A,c,rfl,hc1,hc2,hg⟩:=hv.slice;have hml:maxLen=9223372036854775807:=rfl;rw [bQ] at *;refine eN [(0,_),(1,_)] func233 rfl ntmps233 rfl rfl hG ?_;intro a H;refine kP H (SR fun _ K1=>ak K1 rfl (SQ fun _ K2=>SR fun _ K3=>Rm rfl (Rl Ie rfl (Rm rfl (Kz K3 (SB ?_))))));clear H K1 K3;intro a H;skip;refine eT (ι:=Nat × GH) (Tc:=[(0,_),(1,_),(7,_)]) (Lc:=[]) (fun gh=>[(8,vi gh.1)]) (fun gh=>[]) (fun gh=>gh.2) (fun gh=>gh.1≤l.length∧(l.take gh.1).findIdx? p=none∧(∀ b o,G b=some o→gh.2 b=some o)) (fun gh=>l.length - gh.1) ((0,G)) (by exact (H).sub ⟨rfl,rfl,rfl,rfl,aB⟩) ?_ ?_
 ·exact ⟨by omega,rfl,fun _ _ h=>h⟩
 clear H;rintro ⟨k,g⟩ a w hI H;dsimp only at hI H;obtain ⟨hk,hno,hgm⟩:=hI;dsimp only [lca,aO] at H;refine kP H (SR fun _ K4=>Rc rfl (Kz K4 (SQ fun _ K5=>Cd rfl ?_ ?_))) <;> clear H K4
 ·intro h9 a H
  try have p9:=dT h9
  have hk2:k < l.length:=by omega
  obtain ⟨b,o,cs,rfl,hcl,hrow,hr⟩:=hg k (BA l[k]) (by simp [hk2]);obtain rfl:=acs hr
  have hcell:aG G b (o+k*1)=some (.int .u8 l[k]):=by simpa using hrow 0 _ rfl
  refine kP H (Kc K5 (SQ fun _ K6=>SB (SR fun _ K7=>Rm rfl (ak K7 rfl (SR fun _ K8=>Rm rfl (Rm rfl (Rm rfl (Ri Ie PO rfl rfl (Rg PO rfl (aH hgm hcell) ?_)))))))));clear H K5 K7;intro a H;refine vg H wn rfl rfl (hf _ (jv hk2) _ _ hgm H.ro) rfl ?_;clear H;rintro v16 yx a w rfl uT H;refine K8 _ _ ?_;clear K8;refine qF H rfl ?_ ?_
  ·intro h16
   try have p16:=dT h16
   refine kP H (SR fun _ K9=>Rm rfl (ak K9 rfl ?_));clear H K9;intro a H;refine lr H results233 rfl ?_
   first
    | exact H.rt (by rw [za hk2 hno h16];rfl)
    | exact H.rt (by rw [show l.take k=l from lZ (by omega)] at hno;rw [hno];rfl)
  intro h16
  try have p16:=dF h16
  refine kP H (Kc K6 (SC (Rd rfl (Rm rfl ?_))));clear H K6;intro a H;refine aJ ?_;refine dH ((k+1,yx)) (by exact (H).sub ⟨rfl,rfl,rfl,rfl,aB⟩) ?_ ?_
  ·(try dsimp only);exact ⟨by omega,Hg hk2 hno h16,fun b o h=>uT b o (hgm b o h)⟩
  first|omega|(dsimp only;omega)
 intro h9 a H
 try have p9:=dF h9
 refine dR ?_;refine K2 _ _ ?_;clear K2;refine kP H (SR fun _ aV=>ak aV rfl ?_);clear H aV;intro a H;refine lr H results233 rfl ?_
 first
  | exact H.rt (by rw [za hk2 hno h16];rfl)
  | exact H.rt (by rw [show l.take k=l from lZ (by omega)] at hno;rw [hno];rfl)
theorem U0 (o:Option Nat):decide (0≤qp o)=o.isSome:=by cases o <;> simp [qp]
theorem afb (G:GH) (w0:World) (hG:Hold G w0) (l:List Int) (p:Int→Bool) (v fv:aj) (hv:aC G (.sl 1 (l.map BA)) v) (hf:∀ c∈l,Qw fv G c (p c)) :
  Calls prog 223 #[v,fv] w0 (bY w0 G fun u G'=>u=.bool (l.findIdx? p).isSome):=by
 obtain ⟨A,c,rfl,hc1,hc2,-⟩:=hv.slice;rw [bQ] at *;refine eN [(0,_),(1,_)] func223 rfl ntmps223 rfl rfl hG ?_;intro a H;refine kP H (SR fun _ K1=>ak K1 rfl (SR fun _ K2=>Rm rfl (Rm rfl ?_)));clear H K1;intro a H;refine s_call agt H wn rfl (aks _ _ H.ro l p _ _ hv hf) rfl ?_;clear H;rintro v7 G7 a w rfl xI H;exact kH H (Rc rfl (ak K2 rfl (LR results223 rfl fun H=>H.rt (aL (U0 _)))))
def Kv (c:Int):Bool:=decide (c < 32) || decide (c=127)
theorem afc (G:GH) (c:Int):Qw (.func (.func 224) #[] #[]) G c (Kv c):=by
 intro G1 w0 hm hG;refine nK (caps:=[]) agp ?_;refine eN [(0,_)] func224 rfl ntmps224 rfl rfl hG ?_;intro a H;refine kP H (SR fun _ K1=>ak K1 rfl (SR fun _ K2=>Rm rfl (Rc rfl (Rm rfl (Sp 5 rfl ?_ ?_))))) <;> clear H K1
 ·intro h5 a H
  try have p5:=dT h5
  exact kH H (aS h5 rfl (Pt h5 rfl (ak K2 rfl (LR results224 rfl fun H=>H.rt (aL (by unfold Kv;first|(simp_all;done)|(simp_all;omega)))))))
 intro h5 a H
 try have p5:=dF h5
 exact kH H (YM h5 rfl (YC h5 rfl (Pf h5 rfl (ak K2 rfl (LR results224 rfl fun H=>H.rt (aL (by unfold Kv;first|(simp_all;done)|(simp_all;omega))))))))
def zm (t:ByteArray):Int:=if 64 < t.size then 10 else if qB t=false then 12 else if ((Iz t).findIdx? Kv).isSome=true then 5 else vk (lF t)
def Ac (t:ByteArray):List jH:=if zm t=0 then vY (lF t).lit (lF t).parts else []
theorem akR (G:GH) (l:List jH):ig G 3 (l.map jH.dat) (ES l):=by
 refine ⟨l.map jH.cells,rfl,by simp,fun j r cs hr hc=>?_⟩;rw [qE] at hr hc;obtain ⟨x,hx,rfl⟩:=oC.1 hr;rw [hx] at hc
 cases hc
 exact ⟨aaU G x,rfl⟩
theorem alP (G:GH) (w0:World) (hG:Hold G w0) (t:ByteArray) (ht:t.size < 4611686018427387904) :
  Calls prog 199 #[.string t] w0 (bY w0 G fun u G'=>∃ x,u=.tuple #[x,vi (zm t)]∧aC G' (.sl 3 ((Ac t).map jH.dat)) x):=by
 refine eN [(0,_)] func199 rfl ntmps199 rfl rfl hG ?_;intro a H;refine kP H (SR fun _ K1=>Ra rfl (ak K1 rfl (SQ fun _ K2=>SB (SR fun _ K3=>Rm rfl (Rv iB rfl (Rc rfl (ak K3 rfl (Cd rfl ?_ ?_)))))))) <;> clear H K1 K3
 ·intro h5 a H
  try have p5:=dT h5
  refine aN (fun _ K4=>?_)
  have he:zm t=10:=by rw [zm,au (by omega)]
  refine kP H (SC (Ra rfl (aM K4 rfl ?_)));clear H K4;intro a H;refine dG ?_;refine (gV H results199 (.cons (bB H rfl) (.cons (bB H rfl) .nil)) ?_).1
  first
   | exact H.rt ⟨_,by rw [he0],by rw [Ac,au he0];exact hrep⟩
   | exact H.rt ⟨_,by rw [he],by rw [Ac,ah (by rw [he];first|decide|assumption)];exact aC.lD rfl (by decide)⟩
 intro h5 a H
 try have p5:=dF h5
 refine kP H (SR fun _ K5=>Rm rfl ?_);clear H;intro a H;refine s_call Eu H wn rfl (Fh _ _ H.ro t ht) rfl ?_;clear H;rintro v11 _ a w ⟨rfl,rfl⟩ - H;refine kH H (Rn rfl (ak K5 rfl (Cd rfl ?_ ?_))) <;> clear H K5
 ·intro h9 a H
  try have p9:=dT h9
  refine aN (fun _ K6=>?_)
  have he:zm t=12:=by rw [zm,ah (by omega),au (by simpa using h9)]
  refine kP H (SC (Ra rfl (aM K6 rfl ?_)));clear H K6;intro a H;refine dG ?_;refine (gV H results199 (.cons (bB H rfl) (.cons (bB H rfl) .nil)) ?_).1
  first
   | exact H.rt ⟨_,by rw [he0],by rw [Ac,au he0];exact hrep⟩
   | exact H.rt ⟨_,by rw [he],by rw [Ac,ah (by rw [he];first|decide|assumption)];exact aC.lD rfl (by decide)⟩
 intro h9 a H
 try have p9:=dF h9
 refine kP H (SR fun _ K7=>Rm rfl ?_);clear H;intro a H;refine amN iB Ie ME H wn rfl (by omega) rfl ?_;clear H;intro v15 Fx a w yU aam H;obtain ⟨A15,c15,rfl,-,-,-⟩:=aam.slice;refine s_call agn H wn rfl (afb _ _ H.ro _ Kv _ _ aam (fun c _=>afc _ c)) rfl ?_;clear H;rintro v16 yx a w rfl uT H;refine kH H (ak K7 rfl (Cd rfl ?_ ?_)) <;> clear H K7
 ·intro gy a H
  try have pO:=dT gy
  refine aN (fun _ K8=>?_)
  have he:zm t=5:=by rw [zm,ah (by omega),ah (by simpa using h9),au gy]
  refine kP H (SC (Ra rfl (aM K8 rfl ?_)));clear H K8;intro a H;refine dG ?_;refine (gV H results199 (.cons (bB H rfl) (.cons (bB H rfl) .nil)) ?_).1
  first
   | exact H.rt ⟨_,by rw [he0],by rw [Ac,au he0];exact hrep⟩
   | exact H.rt ⟨_,by rw [he],by rw [Ac,ah (by rw [he];first|decide|assumption)];exact aC.lD rfl (by decide)⟩
 intro gy a H
 try have pO:=dF gy
 refine kP H (Kc K2 (SR fun _ K9=>Rm rfl ?_));clear H K2;intro a H;refine lJ anK [_,_,_,_,_,_,_] H wn rfl rfl rfl rfl ?_;clear H;intro a H;refine fB (cs:=[_,_,_,_,_,_,_]) H wn rfl rfl rfl ?_;clear H;intro b19 a w aik H;refine kH H (ak K9 rfl (SQ fun _ aV=>SR fun _ bF=>Rm rfl ?_));clear H K9;intro a H;refine gP agq (Li:=[]) (L:=[xS b19 t CB (.pointer none) (.slice none 0 0) (.slice none 0 0)]) H wn rfl (anb _ [] [] _ b19 t _ _ _ ⟨.inl rfl,gQ.nil,gQ.nil⟩ (Hp.owns (Li:=[]) H.hp) (by omega)) rfl ?_;clear H;rintro v21 MS L21 a w ⟨p',v',q',qU,jU,rfl,Ti⟩ sJ H;dsimp only [List.nil_append] at H;obtain ⟨A21,c21,rfl,-,-⟩:=Ti.buf.shape;obtain ⟨B21,d21,rfl,-,-⟩:=Ti.prt.shape;refine bF _ _ ?_;clear bF;refine aN (fun _ bG=>?_)
 have he:zm t=vk (lF t):=by rw [zm,ah (by omega),ah (by simpa using h9),ah (by simp [gy])]
 refine kP H (SC (Rm rfl (Rk rfl (aT BU gZ 0 rfl rfl (Rc rfl (Kn bG (Cd rfl ?_ ?_))))))) <;> clear H bG
 ·intro eO a H
  try have p26:=dT eO
  refine aN (fun _ bM=>?_);have H:=H.sub (T':=[(4,_)]) ⟨rfl,aB⟩;refine dI hmx [[],[0],[0,1],[0,1,2],[],(ra 0 5)] [] (by kernel_rfl) [_,_,_,vi (vk (lF t)),_,_] H (aI (Z0 rfl (Rm rfl)) (Z1 0 27 rfl (Rk rfl)) (Z1 1 28 rfl (Rf BU rfl)) (Z1 2 29 rfl (Ro gZ 0 rfl)) (bC (Z0 rfl (Ra rfl)) (bC (Z1 3 30 rfl (Ra rfl)) dN))) ?_
  clear H;intro a w G rM H hv;have H:=H.bg (hv 4 2 rfl rfl) rfl;have H:=H.bg (hv 5 3 rfl rfl) rfl;clear hv;refine aJ ⟨rfl,?_⟩;refine bM _ _ ?_;clear bM;refine dG ?_;refine (gV H results199 (.cons (bB H rfl) (.cons (bB H rfl) .nil)) ?_).1
  first
   | exact H.rt ⟨_,by rw [he0],by rw [Ac,au he0];exact hrep⟩
   | exact H.rt ⟨_,by rw [he],by rw [Ac,ah (by rw [he];first|decide|assumption)];exact aC.lD rfl (by decide)⟩
 intro eO a H
 try have p26:=dF eO
 refine fF ?_;refine aV _ _ ?_;clear aV;refine aN (fun _ bN=>?_)
 have he0:zm t=0:=by rw [he];omega
 have H:=(St.cast H (show _=[_]++(qU++jU) from rfl)).perm (List.Perm.append_left _ og);have H:=St.un H;obtain ⟨Gr,hmr,hrep,H⟩:=St.Gf (Li:=[_]++jU) (Lo:=qU) H Ti.prt (rows:=(vY (lF t).lit (lF t).parts).map jH.dat) (by simp) (akR _ _);dsimp only [lca,aO] at H;refine kP H (SC (Rm rfl (Rk rfl (aT KL Ms 0 rfl rfl (Ra rfl (aM bN rfl ?_))))));clear H bN;intro a H;refine dG ?_;refine (gV H results199 (.cons (bB H rfl) (.cons (bB H rfl) .nil)) ?_).1
 first
  | exact H.rt ⟨_,by rw [he0],by rw [Ac,au he0];exact hrep⟩
  | exact H.rt ⟨_,by rw [he],by rw [Ac,ah (by rw [he];first|decide|assumption)];exact aC.lD rfl (by decide)⟩
structure pX where
 fmt:Int
 start:Int
 Bz:ByteArray
 restart:Int
def pX.dat (x:pX):List Dat:=[li x.fmt,li x.start,.lf (.string x.Bz),li x.restart]
abbrev pX.cells (x:pX):List aj:=[vi x.fmt,vi x.start,.string x.Bz,vi x.restart]
theorem akT {G:GH} {x:pX} {cs:List aj} (h:bJ G x.dat cs):cs=x.cells:=by
 simp only [pX.dat,bJ,aC] at h
 obtain ⟨_,_,rfl,⟨rfl,_⟩,_,_,rfl,⟨rfl,_⟩,_,_,rfl,⟨rfl,_⟩,_,_,rfl,⟨rfl,_⟩,rfl⟩:=h
 rfl
theorem akr (G:GH) (w0:World) (hG:Hold G w0) (l:List jH) (p:jH→Bool) (v fv:aj) (hv:aC G (.sl 3 (l.map jH.dat)) v) (hf:∀ x∈l,vN fv G x.dat (p x)) :
  Calls prog 226 #[v,fv] w0 (bY w0 G fun u G'=>u=vi (qp (l.findIdx? p))):=by
 obtain ⟨A,c,rfl,hc1,hc2,hg⟩:=hv.slice;have hml:maxLen=9223372036854775807:=rfl;rw [bQ] at *;refine eN [(0,_),(1,_)] func226 rfl ntmps226 rfl rfl hG ?_;intro a H;refine kP H (SR fun _ K1=>ak K1 rfl (SQ fun _ K2=>SR fun _ K3=>Rm rfl (Rl JU rfl (Rm rfl (Kz K3 (SB ?_))))));clear H K1 K3;intro a H;skip;refine eT (ι:=Nat × GH) (Tc:=[(0,_),(1,_),(7,_)]) (Lc:=[]) (fun gh=>[(8,vi gh.1)]) (fun gh=>[]) (fun gh=>gh.2) (fun gh=>gh.1≤l.length∧(l.take gh.1).findIdx? p=none∧(∀ b o,G b=some o→gh.2 b=some o)) (fun gh=>l.length - gh.1) ((0,G)) (by exact (H).sub ⟨rfl,rfl,rfl,rfl,aB⟩) ?_ ?_
 ·exact ⟨by omega,rfl,fun _ _ h=>h⟩
 clear H;rintro ⟨k,g⟩ a w hI H;dsimp only at hI H;obtain ⟨hk,hno,hgm⟩:=hI;dsimp only [lca,aO] at H;refine kP H (SR fun _ K4=>Rc rfl (Kz K4 (SQ fun _ K5=>Cd rfl ?_ ?_))) <;> clear H K4
 ·intro h9 a H
  try have p9:=dT h9
  have hk2:k < l.length:=by omega
  obtain ⟨b,o,cs,rfl,hcl,hrow,hr⟩:=hg k l[k].dat (by simp [hk2]);obtain rfl:=aaT hr;refine kP H (Kc K5 (SQ fun _ K6=>SB (SR fun _ K7=>Rm rfl (ak K7 rfl (SR fun _ K8=>Rm rfl (Rm rfl (Rm rfl (Ri JU JO rfl rfl ?_))))))));clear H K5 K7;intro a H;refine bP JO (cs:=l[k].cells) H wn rfl rfl (fun j v hj=>H.hp.aG (aH hgm (hrow j v hj))) rfl ?_;clear H;intro a H;refine vg H wn rfl rfl (hf _ (jv hk2) _ _ _ hgm H.ro (aaU _ l[k])) rfl ?_;clear H;rintro v16 yx a w rfl uT H;refine K8 _ _ ?_;clear K8;refine qF H rfl ?_ ?_
  ·intro h16
   try have p16:=dT h16
   refine kP H (SR fun _ K9=>Rm rfl (ak K9 rfl ?_));clear H K9;intro a H;refine lr H results226 rfl ?_
   first
    | exact H.rt (by rw [za hk2 hno h16];rfl)
    | exact H.rt (by rw [show l.take k=l from lZ (by omega)] at hno;rw [hno];rfl)
  intro h16
  try have p16:=dF h16
  refine kP H (Kc K6 (SC (Rd rfl (Rm rfl ?_))));clear H K6;intro a H;refine aJ ?_;refine dH ((k+1,yx)) (by exact (H).sub ⟨rfl,rfl,rfl,rfl,aB⟩) ?_ ?_
  ·(try dsimp only);exact ⟨by omega,Hg hk2 hno h16,fun b o h=>uT b o (hgm b o h)⟩
  first|omega|(dsimp only;omega)
 intro h9 a H
 try have p9:=dF h9
 refine dR ?_;refine K2 _ _ ?_;clear K2;refine kP H (SR fun _ aV=>ak aV rfl ?_);clear H aV;intro a H;refine lr H results226 rfl ?_
 first
  | exact H.rt (by rw [za hk2 hno h16];rfl)
  | exact H.rt (by rw [show l.take k=l from lZ (by omega)] at hno;rw [hno];rfl)
theorem afa (G:GH) (w0:World) (hG:Hold G w0) (l:List jH) (p:jH→Bool) (v fv:aj) (hv:aC G (.sl 3 (l.map jH.dat)) v) (hf:∀ x∈l,vN fv G x.dat (p x)) :
  Calls prog 200 #[v,fv] w0 (bY w0 G fun u G'=>u=.bool (l.findIdx? p).isSome):=by
 obtain ⟨A,c,rfl,hc1,hc2,-⟩:=hv.slice;rw [bQ] at *;refine eN [(0,_),(1,_)] func200 rfl ntmps200 rfl rfl hG ?_;intro a H;refine kP H (SR fun _ K1=>ak K1 rfl (SR fun _ K2=>Rm rfl (Rm rfl ?_)));clear H K1;intro a H;refine s_call agr H wn rfl (akr _ _ H.ro l p _ _ hv hf) rfl ?_;clear H;rintro v7 G7 a w rfl xI H;exact kH H (Rc rfl (ak K2 rfl (LR results200 rfl fun H=>H.rt (aL (U0 _)))))
theorem akU {G:GH} {bl:Nat} {k:Int} (hb:aG G bl 0=some (vi k)) (x:jH):vN (.func (.func 201) #[] #[(aQ bl 0)]) G x.dat (decide (k < x.level)):=by
 intro G1 w0 cs hm hG hr;refine nK (caps:=[(aQ bl 0)]) agb ?_;obtain rfl:=aaT hr;replace hb:=aH hm hb;refine eN [(0,_),(1,_)] func201 rfl ntmps201 rfl rfl hG ?_;intro a H;refine dh (fun _ K1=>?_);refine fB (cs:=[_,_,_]) H wn rfl rfl rfl ?_;clear H;intro b2 a w hb2 H;refine kH H (ak K1 rfl (SR fun _ K2=>aT ahh aD 0 rfl rfl (Rg aD rfl (by assumption) ?_)));clear H K1;intro a H;exact kH H (Rc rfl (ak K2 rfl (LR results201 rfl fun H=>H.rt rfl)))
def Co (t:ByteArray) (k:Int):Int:=if k < 1∨9 < k then 2 else if zm t=0∧((Ac t).findIdx? fun x=>decide (k < x.level)).isSome=true then 6 else zm t
theorem akS (G:GH) (w0:World) (hG:Hold G w0) (t:ByteArray) (k:Int) (ht:t.size < 4611686018427387904) :
  Calls prog 156 #[.string t,vi k] w0 (bY w0 G fun u G'=>u=vi (Co t k)):=by
 refine eN [(0,_),(1,_)] func156 rfl ntmps156 rfl rfl hG ?_;intro a H;refine dh (fun _ K1=>?_);refine fB (cs:=[_]) H wn rfl rfl rfl ?_;clear H;intro b3 a w hb3 H;refine kH H (ak K1 rfl (SQ fun _ K2=>SR fun _ K3=>Ro aD 0 rfl (Rc rfl (Rm rfl (Sp 9 rfl ?_ ?_))))) <;> clear H K1
 ·intro h9 a H
  try have p9:=dT h9
  refine kH H (aS h9 rfl (Pt h9 rfl (Kz K3 (Ct rfl rfl (SR fun _ K4=>ak K4 rfl ?_)))));clear H K3 K4;intro a H;refine lr H results156 rfl ?_
  exact H.rt (av vi (by unfold Co;(repeat' split) <;> first|rfl|(exfalso;simp_all;done)|(exfalso;simp_all;omega)|(simp_all;done)))
 intro h9 a H
 try have p9:=dF h9
 refine kH H (YO aD 0 h9 rfl (YC h9 rfl (Pf h9 rfl (Kz K3 (Cd rfl ?_ ?_))))) <;> clear H K3
 ·intro h12 a H
  try have pK:=dT h12
  refine kP H (SR fun _ K5=>ak K5 rfl ?_);clear H K5;intro a H;refine lr H results156 rfl ?_
  exact H.rt (av vi (by unfold Co;(repeat' split) <;> first|rfl|(exfalso;simp_all;done)|(exfalso;simp_all;omega)|(simp_all;done)))
 intro h12 a H
 try have pK:=dF h12
 refine fF ?_;refine K2 _ _ ?_;clear K2;refine aN (fun _ K6=>?_);obtain ⟨Ga,hma,Bb,H⟩:=H.dW
 have hbk:aG Ga b3 0=some (vi k):=by unfold aG;rw [Bb];rfl
 refine kP H (SC (Rm rfl ?_));clear H;intro a H;refine s_call afY H wn rfl (alP _ _ H.ro t ht) rfl ?_;clear H;rintro v15 Fx a w ⟨x15,rfl,aas⟩ yU H;obtain ⟨A15,c15,rfl,-,-,-⟩:=aas.slice;replace hbk:=aH yU hbk;refine kH H (Rm rfl ?_);clear H;intro a H;(iterate 2 refine nA H wn rfl rfl rfl ?_;clear H;intro a H);refine kH H (Ra rfl (aM K6 rfl (SQ fun _ K7=>SR fun _ K8=>Rm rfl (Rc rfl (Rm rfl (Sp 20 rfl ?_ ?_)))))) <;> clear H K6
 ·intro h20 a H
  try have qw:=dT h20
  refine kH H (YM h20 rfl ?_);clear H;intro a H;refine pV H (wg H rfl rfl h20) rfl rfl ?_;clear H;intro a H;refine s_call aga H (wg H rfl rfl h20) rfl (afa _ _ H.ro _ (fun x=>decide (k < x.level)) _ _ aas (fun x _=>akU hbk x)) rfl ?_;clear H;rintro v23 P9 a w rfl GQ H;refine kH H (Pt h20 rfl (Kz K8 (Cd rfl ?_ ?_))) <;> clear H K8
  ·intro fJ a H
   try have nO:=dT fJ
   refine kP H (SC (aM K7 rfl (SR fun _ K9=>Rm rfl (ak K9 rfl ?_))));clear H K7 K9;intro a H;refine lr H results156 rfl ?_
   exact H.rt (av vi (by unfold Co;(repeat' split) <;> first|rfl|(exfalso;simp_all;done)|(exfalso;simp_all;omega)|(simp_all;done)))
  intro fJ a H
  try have nO:=dF fJ
  refine kP H (Kc K7 (SR fun _ aV=>Rm rfl (ak aV rfl ?_)));clear H K7 aV;intro a H;refine lr H results156 rfl ?_
  exact H.rt (av vi (by unfold Co;(repeat' split) <;> first|rfl|(exfalso;simp_all;done)|(exfalso;simp_all;omega)|(simp_all;done)))
 intro h20 a H
 try have qw:=dF h20
 refine kH H (aZ h20 rfl (Pf h20 rfl (Kz K8 (Cf rfl rfl (Kc K7 (SR fun _ bF=>Rm rfl (ak bF rfl ?_)))))));clear H K8 K7 bF;intro a H;refine lr H results156 rfl ?_
 exact H.rt (av vi (by unfold Co;(repeat' split) <;> first|rfl|(exfalso;simp_all;done)|(exfalso;simp_all;omega)|(simp_all;done)))
end
section
open Go.RowKit
theorem PN:Ty prog 194 4 40 [.int .i64 0,.int .i64 0,.string ⟨#[]⟩,.int .i64 0] true:=⟨by kernel_rfl,by kernel_rfl⟩
theorem Mx:prog.underlying 157=some (.slice 194):=by kernel_rfl
theorem Y4:dJ prog 194 0 0:=⟨by kernel_rfl⟩
theorem Y5:dJ prog 194 1 1:=⟨by kernel_rfl⟩
theorem ahc:dJ prog 194 2 2:=⟨by kernel_rfl⟩
theorem afI:∀ args w,(callFunc 156 args).run prog w=.ok (.enter 156 args) w:=enters func156 rfl (by kernel_rfl)
theorem Y6:dJ prog 194 3 3:=⟨by kernel_rfl⟩
def F5:Nat→List pX→Int
 | _,[]=>0
 | i,x :: r=>if x.fmt < 1∨7 < x.fmt then 3 else if x.start < 0∨32767 < x.start then 2 else if Co x.Bz ((i+1:Nat):Int)≠0 then Co x.Bz ((i+1:Nat):Int) else if x.restart < 0∨(i:Int) < x.restart then 5 else F5 (i+1) r
def eu (l:List pX):Int:=if l.length=0 then 11 else if 9 < l.length then 9 else F5 0 l
theorem jF {l:List pX} {k:Nat} (h:k < l.length):F5 k (l.drop k)=if l[k].fmt < 1∨7 < l[k].fmt then 3 else if l[k].start < 0∨32767 < l[k].start then 2 else if Co l[k].Bz ((k+1:Nat):Int)≠0 then Co l[k].Bz ((k+1:Nat):Int) else if l[k].restart < 0∨(k:Int) < l[k].restart then 5 else F5 (k+1) (l.drop (k+1)):=by
 rw [jV h,F5]
theorem X7 (G:GH) (w0:World) (hG:Hold G w0) (l:List pX) (v:aj) (hv:aC G (.sl 4 (l.map pX.dat)) v) (ht:∀ x∈l,x.Bz.size < 4611686018427387904) :
  Calls prog 91 #[v] w0 (bY w0 G fun u G'=>u=vi (eu l)):=by
 obtain ⟨A,c,rfl,hc1,hc2,hg⟩:=hv.slice;have hml:maxLen=9223372036854775807:=rfl;rw [bQ] at *;refine eN [(0,_)] func91 rfl ntmps91 rfl rfl hG ?_;intro a H;refine kP H (SR fun _ K1=>ak K1 rfl (SQ fun _ K2=>SB (SR fun _ K3=>Rm rfl (Rl Mx rfl (Rc rfl (ak K3 rfl (Cd rfl ?_ ?_))))))) <;> clear H K1 K3
 ·intro h6 a H
  try have p6:=dT h6
  refine kP H (SR fun _ K4=>ak K4 rfl ?_);clear H K4;intro a H;refine lr H results91 rfl ?_
  first
   | exact H.rt (av vi (by rw [eu,au (by omega)]))
   | exact H.rt (av vi (by rw [eu,ah (by omega),au (by omega)]))
   | exact H.rt (av vi (by rw [eu,ah (by omega),ah (by omega),← he,jF hk2,au (by omega)]))
   | exact H.rt (av vi (by rw [eu,ah (by omega),ah (by omega),← he,jF hk2,ah (by omega),au (by omega)]))
   | exact H.rt (av vi (by rw [eu,ah (by omega),ah (by omega),← he,jF hk2,ah (by omega),ah (by omega),au p45]))
   | exact H.rt (av vi (by rw [eu,ah (by omega),ah (by omega),← he,jF hk2,ah (by omega),ah (by omega),ah p45,au (by omega)]))
   | exact H.rt (av vi (by rw [eu,ah (by omega),ah (by omega),← he,fI (by omega)];rfl))
 intro h6 a H
 try have p6:=dF h6
 refine kP H (SR fun _ K5=>Rm rfl (Rl Mx rfl (Rc rfl (ak K5 rfl (Cd rfl ?_ ?_))))) <;> clear H K5
 ·intro h10 a H
  try have uf:=dT h10
  refine kP H (SR fun _ K6=>ak K6 rfl ?_);clear H K6;intro a H;refine lr H results91 rfl ?_
  first
   | exact H.rt (av vi (by rw [eu,au (by omega)]))
   | exact H.rt (av vi (by rw [eu,ah (by omega),au (by omega)]))
   | exact H.rt (av vi (by rw [eu,ah (by omega),ah (by omega),← he,jF hk2,au (by omega)]))
   | exact H.rt (av vi (by rw [eu,ah (by omega),ah (by omega),← he,jF hk2,ah (by omega),au (by omega)]))
   | exact H.rt (av vi (by rw [eu,ah (by omega),ah (by omega),← he,jF hk2,ah (by omega),ah (by omega),au p45]))
   | exact H.rt (av vi (by rw [eu,ah (by omega),ah (by omega),← he,jF hk2,ah (by omega),ah (by omega),ah p45,au (by omega)]))
   | exact H.rt (av vi (by rw [eu,ah (by omega),ah (by omega),← he,fI (by omega)];rfl))
 intro h10 a H
 try have uf:=dF h10
 refine kP H (Kc K2 (SQ fun _ K7=>SR fun _ K8=>Rm rfl (Rl Mx rfl (Rm rfl (Kz K8 (SB ?_))))));clear H K2 K8;intro a H;skip;refine eT (ι:=Nat × GH) (Tc:=[(14,_),(15,_)]) (Lc:=[]) (fun gh=>[(16,vi gh.1)]) (fun gh=>[]) (fun gh=>gh.2) (fun gh=>gh.1≤l.length∧F5 gh.1 (l.drop gh.1)=F5 0 l∧(∀ b o,G b=some o→gh.2 b=some o)) (fun gh=>l.length - gh.1) ((0,G)) (by exact (H).sub ⟨rfl,rfl,rfl,aB⟩) ?_ ?_
 ·exact ⟨gX _,rfl,fun _ _ h=>h⟩
 clear H;rintro ⟨k,g⟩ a w hI H;dsimp only at hI H;obtain ⟨hk,he,hgm⟩:=hI;dsimp only [lca,aO] at H;refine kP H (SR fun _ K9=>Rc rfl (Kz K9 (SQ fun _ aV=>Cd rfl ?_ ?_))) <;> clear H K9
 ·intro gK a H
  try have mo:=dT gK
  have hk2:k < l.length:=by omega
  obtain ⟨b,o,cs,rfl,hcl,hrow,hr⟩:=hg k l[k].dat (by simp [hk2]);obtain rfl:=akT hr;refine kP H (Kc aV (SQ fun _ bF=>SB (SR fun _ bG=>Rm rfl (Ri Mx PN rfl rfl ?_))));clear H aV;intro a H;refine bP PN (cs:=l[k].cells) H wn rfl rfl (fun j v hj=>H.hp.aG (aH hgm (hrow j v hj))) rfl ?_;clear H;intro a H;refine eH PN H wn rfl ?_;clear H;intro b4 a w hb4 H;refine kH H (Ra rfl ?_);clear H;intro a H;refine bT PN 0 (vs:=[_,_,_,_]) _ H wn rfl rfl rfl rfl rfl rfl rfl rfl ?_;clear H;intro w H;dsimp only [List.set,setRow] at H;refine bG _ _ ?_;clear bG;refine kP H (SQ fun _ bM=>SB (SR fun _ bN=>aT Y4 aD 0 rfl rfl (Rc rfl (Rm rfl (Sp 25 rfl ?_ ?_))))) <;> clear H
  ·intro gN a H
   try have p25:=dT gN
   refine kH H (aZ gN rfl (Pt gN rfl (ak bN rfl (Ct rfl rfl (SR fun _ bW=>ak bW rfl ?_)))));clear H bN bW;intro a H;refine lr H results91 rfl ?_
   first
    | exact H.rt (av vi (by rw [eu,au (by omega)]))
    | exact H.rt (av vi (by rw [eu,ah (by omega),au (by omega)]))
    | exact H.rt (av vi (by rw [eu,ah (by omega),ah (by omega),← he,jF hk2,au (by omega)]))
    | exact H.rt (av vi (by rw [eu,ah (by omega),ah (by omega),← he,jF hk2,ah (by omega),au (by omega)]))
    | exact H.rt (av vi (by rw [eu,ah (by omega),ah (by omega),← he,jF hk2,ah (by omega),ah (by omega),au p45]))
    | exact H.rt (av vi (by rw [eu,ah (by omega),ah (by omega),← he,jF hk2,ah (by omega),ah (by omega),ah p45,au (by omega)]))
    | exact H.rt (av vi (by rw [eu,ah (by omega),ah (by omega),← he,fI (by omega)];rfl))
  intro gN a H
  try have p25:=dF gN
  refine kH H (YF Y4 gN rfl (YO aD 0 gN rfl (YC gN rfl (Pf gN rfl (ak bN rfl (Cd rfl ?_ ?_)))))) <;> clear H bN
  ·intro h21 a H
   try have nX:=dT h21
   refine kP H (SR fun _ cK=>ak cK rfl ?_);clear H cK;intro a H;refine lr H results91 rfl ?_
   first
    | exact H.rt (av vi (by rw [eu,au (by omega)]))
    | exact H.rt (av vi (by rw [eu,ah (by omega),au (by omega)]))
    | exact H.rt (av vi (by rw [eu,ah (by omega),ah (by omega),← he,jF hk2,au (by omega)]))
    | exact H.rt (av vi (by rw [eu,ah (by omega),ah (by omega),← he,jF hk2,ah (by omega),au (by omega)]))
    | exact H.rt (av vi (by rw [eu,ah (by omega),ah (by omega),← he,jF hk2,ah (by omega),ah (by omega),au p45]))
    | exact H.rt (av vi (by rw [eu,ah (by omega),ah (by omega),← he,jF hk2,ah (by omega),ah (by omega),ah p45,au (by omega)]))
    | exact H.rt (av vi (by rw [eu,ah (by omega),ah (by omega),← he,fI (by omega)];rfl))
  intro h21 a H
  try have nX:=dF h21
  refine kP H (SR fun _ bS=>aT Y5 aD 0 rfl rfl (Rc rfl (Rm rfl (Sp 34 rfl ?_ ?_)))) <;> clear H
  ·intro eG a H
   try have p34:=dT eG
   refine kH H (aZ eG rfl (Pt eG rfl (ak bS rfl (Ct rfl rfl (SR fun _ dD=>ak dD rfl ?_)))));clear H bS dD;intro a H;refine lr H results91 rfl ?_
   first
    | exact H.rt (av vi (by rw [eu,au (by omega)]))
    | exact H.rt (av vi (by rw [eu,ah (by omega),au (by omega)]))
    | exact H.rt (av vi (by rw [eu,ah (by omega),ah (by omega),← he,jF hk2,au (by omega)]))
    | exact H.rt (av vi (by rw [eu,ah (by omega),ah (by omega),← he,jF hk2,ah (by omega),au (by omega)]))
    | exact H.rt (av vi (by rw [eu,ah (by omega),ah (by omega),← he,jF hk2,ah (by omega),ah (by omega),au p45]))
    | exact H.rt (av vi (by rw [eu,ah (by omega),ah (by omega),← he,jF hk2,ah (by omega),ah (by omega),ah p45,au (by omega)]))
    | exact H.rt (av vi (by rw [eu,ah (by omega),ah (by omega),← he,fI (by omega)];rfl))
  intro eG a H
  try have p34:=dF eG
  refine kH H (YF Y5 eG rfl (YO aD 0 eG rfl (YC eG rfl (Pf eG rfl (ak bS rfl (Cd rfl ?_ ?_)))))) <;> clear H bS
  ·intro qh a H
   try have p30:=dT qh
   refine kP H (SR fun _ dO=>ak dO rfl ?_);clear H dO;intro a H;refine lr H results91 rfl ?_
   first
    | exact H.rt (av vi (by rw [eu,au (by omega)]))
    | exact H.rt (av vi (by rw [eu,ah (by omega),au (by omega)]))
    | exact H.rt (av vi (by rw [eu,ah (by omega),ah (by omega),← he,jF hk2,au (by omega)]))
    | exact H.rt (av vi (by rw [eu,ah (by omega),ah (by omega),← he,jF hk2,ah (by omega),au (by omega)]))
    | exact H.rt (av vi (by rw [eu,ah (by omega),ah (by omega),← he,jF hk2,ah (by omega),ah (by omega),au p45]))
    | exact H.rt (av vi (by rw [eu,ah (by omega),ah (by omega),← he,jF hk2,ah (by omega),ah (by omega),ah p45,au (by omega)]))
    | exact H.rt (av vi (by rw [eu,ah (by omega),ah (by omega),← he,fI (by omega)];rfl))
  intro qh a H
  try have p30:=dF qh
  refine kP H (Kc bM (SQ fun _ dK=>SR fun _ dS=>aT ahc gW 0 rfl rfl (Rm rfl (Rd rfl ?_))));clear H bM;intro a H;rw [show ((k:Int)+1)=((k+1:Nat):Int) from rfl] at H;refine s_call afI H wn rfl (akS _ _ H.ro l[k].Bz ((k+1:Nat):Int) (ht _ (jv hk2))) rfl ?_;clear H;rintro v43 Ap a w rfl nu H;refine kH H (ak dS rfl (SR fun _ eP=>Rm rfl (Rc rfl (Kz eP (Cd rfl ?_ ?_))))) <;> clear H dS eP
  ·intro h45 a H
   try have p45:=dT h45
   refine kP H (SR fun _ gG=>Rm rfl (ak gG rfl ?_));clear H gG;intro a H;refine lr H results91 rfl ?_
   first
    | exact H.rt (av vi (by rw [eu,au (by omega)]))
    | exact H.rt (av vi (by rw [eu,ah (by omega),au (by omega)]))
    | exact H.rt (av vi (by rw [eu,ah (by omega),ah (by omega),← he,jF hk2,au (by omega)]))
    | exact H.rt (av vi (by rw [eu,ah (by omega),ah (by omega),← he,jF hk2,ah (by omega),au (by omega)]))
    | exact H.rt (av vi (by rw [eu,ah (by omega),ah (by omega),← he,jF hk2,ah (by omega),ah (by omega),au p45]))
    | exact H.rt (av vi (by rw [eu,ah (by omega),ah (by omega),← he,jF hk2,ah (by omega),ah (by omega),ah p45,au (by omega)]))
    | exact H.rt (av vi (by rw [eu,ah (by omega),ah (by omega),← he,fI (by omega)];rfl))
  intro h45 a H
  try have p45:=dF h45
  refine kP H (Kc dK (SR fun _ gT=>aT Y6 aD 0 rfl rfl (Rc rfl (Rm rfl (Sp 50 rfl ?_ ?_))))) <;> clear H dK
  ·intro h50 a H
   try have p50:=dT h50
   refine kH H (aS h50 rfl (aS h50 rfl (Pt h50 rfl (Kz gT (Ct rfl rfl (SR fun _ gM=>ak gM rfl ?_))))));clear H gT gM;intro a H;refine lr H results91 rfl ?_
   first
    | exact H.rt (av vi (by rw [eu,au (by omega)]))
    | exact H.rt (av vi (by rw [eu,ah (by omega),au (by omega)]))
    | exact H.rt (av vi (by rw [eu,ah (by omega),ah (by omega),← he,jF hk2,au (by omega)]))
    | exact H.rt (av vi (by rw [eu,ah (by omega),ah (by omega),← he,jF hk2,ah (by omega),au (by omega)]))
    | exact H.rt (av vi (by rw [eu,ah (by omega),ah (by omega),← he,jF hk2,ah (by omega),ah (by omega),au p45]))
    | exact H.rt (av vi (by rw [eu,ah (by omega),ah (by omega),← he,jF hk2,ah (by omega),ah (by omega),ah p45,au (by omega)]))
    | exact H.rt (av vi (by rw [eu,ah (by omega),ah (by omega),← he,fI (by omega)];rfl))
  intro h50 a H
  try have p50:=dF h50
  refine kH H (YF Y6 h50 rfl (YO aD 0 h50 rfl (YM h50 rfl (YC h50 rfl (Pf h50 rfl (Kz gT (Cd rfl ?_ ?_))))))) <;> clear H gT
  ·intro ng a H
   try have p55:=dT ng
   refine kP H (SR fun _ jf=>ak jf rfl ?_);clear H jf;intro a H;refine lr H results91 rfl ?_
   first
    | exact H.rt (av vi (by rw [eu,au (by omega)]))
    | exact H.rt (av vi (by rw [eu,ah (by omega),au (by omega)]))
    | exact H.rt (av vi (by rw [eu,ah (by omega),ah (by omega),← he,jF hk2,au (by omega)]))
    | exact H.rt (av vi (by rw [eu,ah (by omega),ah (by omega),← he,jF hk2,ah (by omega),au (by omega)]))
    | exact H.rt (av vi (by rw [eu,ah (by omega),ah (by omega),← he,jF hk2,ah (by omega),ah (by omega),au p45]))
    | exact H.rt (av vi (by rw [eu,ah (by omega),ah (by omega),← he,jF hk2,ah (by omega),ah (by omega),ah p45,au (by omega)]))
    | exact H.rt (av vi (by rw [eu,ah (by omega),ah (by omega),← he,fI (by omega)];rfl))
  intro ng a H
  try have p55:=dF ng
  refine kP H (Kc bF (SC (Rd rfl (Rm rfl ?_))));clear H bF;intro a H;refine aJ ?_;refine dH ((k+1,Ap)) (by exact (H.dB (Pl:=[_]) (cB:=[]) [] (by decide) rfl).sub ⟨rfl,rfl,rfl,aB⟩) ?_ ?_
  ·(try dsimp only);exact ⟨by omega,by rw [jF hk2,ah (by omega),ah (by omega),ah p45,ah (by omega)] at he;exact he,fun b o h=>nu b o (hgm b o h)⟩
  first|omega|(dsimp only;omega)
 intro gK a H
 try have mo:=dF gK
 refine dR ?_;refine K7 _ _ ?_;clear K7;refine kP H (SR fun _ jq=>ak jq rfl ?_);clear H jq;intro a H;refine lr H results91 rfl ?_
 first
  | exact H.rt (av vi (by rw [eu,au (by omega)]))
  | exact H.rt (av vi (by rw [eu,ah (by omega),au (by omega)]))
  | exact H.rt (av vi (by rw [eu,ah (by omega),ah (by omega),← he,jF hk2,au (by omega)]))
  | exact H.rt (av vi (by rw [eu,ah (by omega),ah (by omega),← he,jF hk2,ah (by omega),au (by omega)]))
  | exact H.rt (av vi (by rw [eu,ah (by omega),ah (by omega),← he,jF hk2,ah (by omega),ah (by omega),au p45]))
  | exact H.rt (av vi (by rw [eu,ah (by omega),ah (by omega),← he,jF hk2,ah (by omega),ah (by omega),ah p45,au (by omega)]))
  | exact H.rt (av vi (by rw [eu,ah (by omega),ah (by omega),← he,fI (by omega)];rfl))
end
section
open Go.RowKit
theorem wP:Ty prog 32 1 24 [.slice none 0 0] false:=⟨by kernel_rfl,by kernel_rfl⟩
theorem wS:prog.underlying 32=some (.slice 159):=by kernel_rfl
theorem zw:Ty prog 159 2 32 [.int .i64 0,.slice none 0 0] true:=⟨by kernel_rfl,by kernel_rfl⟩
theorem KG:dJ prog 159 0 0:=⟨by kernel_rfl⟩
theorem V7:Ty prog 157 1 24 [.slice none 0 0] false:=⟨by kernel_rfl,by kernel_rfl⟩
theorem QV:∀ args w,(callFunc 131 args).run prog w=.ok (.enter 131 args) w:=enters func131 rfl (by kernel_rfl)
theorem Rz:dJ prog 159 1 1:=⟨by kernel_rfl⟩
theorem YU:∀ args w,(callFunc 91 args).run prog w=.ok (.enter 91 args) w:=enters func91 rfl (by kernel_rfl)
theorem IJ:∀ args w,(callFunc 101 args).run prog w=.ok (.enter 101 args) w:=enters func101 rfl (by kernel_rfl)
theorem afP:∀ args w,(callFunc 185 args).run prog w=.ok (.enter 185 args) w:=enters func185 rfl (by kernel_rfl)
theorem afO:∀ args w,(callFunc 184 args).run prog w=.ok (.enter 184 args) w:=enters func184 rfl (by kernel_rfl)
structure dM where
 id:Int
 levels:List pX
def dM.dat (x:dM):List Dat:=[li x.id,.sl 4 (x.levels.map pX.dat)]
structure jd where
 id:Int
 parent:Int
 author:ByteArray
 time:Int
 text:ByteArray
 done:Bool
def jd.dat (x:jd):List Dat:=[li x.id,li x.parent,.lf (.string x.author),li x.time,.lf (.string x.text),.lf (.bool x.done)]
abbrev jd.cells (x:jd):List aj:=[vi x.id,vi x.parent,.string x.author,vi x.time,.string x.text,.bool x.done]
structure nP where
 name:ByteArray
 value:ByteArray
def nP.dat (x:nP):List Dat:=[.lf (.string x.name),.lf (.string x.value)]
abbrev nP.cells (x:nP):List aj:=[.string x.name,.string x.value]
theorem Yd {G:GH} {x:jd} {cs:List aj} (h:bJ G x.dat cs):cs=x.cells:=by
 simp only [jd.dat,bJ,aC] at h
 obtain ⟨_,_,rfl,⟨rfl,_⟩,_,_,rfl,⟨rfl,_⟩,_,_,rfl,⟨rfl,_⟩,_,_,rfl,⟨rfl,_⟩,_,_,rfl,⟨rfl,_⟩,_,_,rfl,⟨rfl,_⟩,rfl⟩:=h
 rfl
theorem aoI {G:GH} {x:nP} {cs:List aj} (h:bJ G x.dat cs):cs=x.cells:=by
 simp only [nP.dat,bJ,aC] at h
 obtain ⟨_,_,rfl,⟨rfl,_⟩,_,_,rfl,⟨rfl,_⟩,rfl⟩:=h
 rfl
theorem Ht {G:GH} {l:List dM} {A:Option Addr} {n c k:Nat} (hv:aC G (.sl 2 (l.map dM.dat)) (.slice A n c)) (hk:k < l.length):∃ b o B d,A=some ⟨b,o,none⟩∧(∀ j u,[vi l[k].id,.slice B l[k].levels.length d][j]?=some u→aG G b (o+k*2+j)=some u)∧aC G (.sl 4 (l[k].levels.map pX.dat)) (.slice B l[k].levels.length d):=by
 obtain ⟨A',c',he,_,_,hg⟩:=hv.slice
 injection he with e1 e2 e3
 subst e1;obtain ⟨b,o,cs,h1,h2,h3,h4⟩:=hg k l[k].dat (by simp [hk])
 simp only [dM.dat,bJ] at h4
 obtain ⟨v1,_,rfl,⟨rfl,-⟩,v2,_,rfl,hl,rfl⟩:∃ v vs,cs=v :: vs∧aC G (li l[k].id) v∧∃ v2 vs2,vs=v2 :: vs2∧aC G (.sl 4 (l[k].levels.map pX.dat)) v2∧vs2=[]:=h4;obtain ⟨B,d,rfl,-,-,-⟩:=hl.slice;rw [bQ] at *;exact ⟨b,o,B,d,h1,h3,hl⟩
theorem akN {G:GH} {bl:Nat} {l:List dM} {A:Option Addr} {n c:Nat} (hb:aG G bl 0=some (.slice A n c)) (hv:aC G (.sl 2 (l.map dM.dat)) (.slice A n c)):uE (.func (.func 185) #[] #[(aQ bl 0)]) G l.length fun k=>(l[k]?.map dM.id).getD 0:=by
 intro k hk G1 w0 hm hG;refine nK (caps:=[(aQ bl 0)]) afP ?_;replace hb:=aH hm hb
 obtain rfl:n=l.length:=by have:=hv.len;simpa using this
 obtain ⟨b,o,B,d,rfl,hrow,-⟩:=Ht (hv.mono hm) hk;have hq:=hrow 0 _ rfl;refine eN [(0,_),(1,_)] func185 rfl ntmps185 rfl rfl hG ?_;intro a H;refine kP H (SR fun _ K1=>ak K1 rfl (SR fun _ K2=>Rg wP rfl (by assumption) ?_));clear H K1;intro a H;refine kH H (Rm rfl (Ri wS zw rfl rfl (Rf KG rfl (Rg aD rfl (by assumption) ?_))));clear H;intro a H;exact kH H (ak K2 rfl (LR results185 rfl fun H=>H.rt (by dsimp only;rw [fP hk];rfl)))
def xM (l:List dM) (i:Nat):Int:=bK [kI (fun k=>(l[k]?.map dM.id).getD 0) i,eu ((l[i]?.map dM.levels).getD [])]
theorem akP {G:GH} {bl:Nat} {l:List dM} {A:Option Addr} {n c:Nat} (hb:aG G bl 0=some (.slice A n c)) (hv:aC G (.sl 2 (l.map dM.dat)) (.slice A n c)) (hl:l.length≤4294967296) (ht:∀ x∈l,∀ y∈x.levels,y.Bz.size < 4611686018427387904):uE (.func (.func 184) #[] #[(aQ bl 0)]) G l.length (xM l):=by
 intro k hk G1 w0 hm hG;refine nK (caps:=[(aQ bl 0)]) afO ?_;replace hb:=aH hm hb;replace hv:=hv.mono hm;have hcb:=akN hb hv
 obtain rfl:n=l.length:=by have:=hv.len;simpa using this
 obtain ⟨b,o,B,d,rfl,hrow,hlv⟩:=Ht hv hk;have hq:=hrow 1 _ rfl
 have he:xM l k=bK [kI (fun k=>(l[k]?.map dM.id).getD 0) k,eu l[k].levels]:=by unfold xM;rw [fP hk];rfl
 refine eN [(0,_),(1,_)] func184 rfl ntmps184 rfl rfl hG ?_;intro a H;refine kP H (SR fun _ K1=>ak K1 rfl (SQ fun _ K2=>?_));clear H K1;intro a H;have H:=H.sub (T':=[(0,_),(1,_)]) ⟨rfl,rfl,aB⟩;refine dI hmx [[],[],[0,1],[],[],[3,4],[3,4,5],(ra 3 4),(ra 0 8),(ra 0 9),(ra 0 10),(ra 0 11)] [9,10,11] (by kernel_rfl) [_,.func (.func 185) #[] #[(aQ bl 0)],vi (kI (fun k=>(l[k]?.map dM.id).getD 0) k),_,_,_,_,_,vi (eu l[k].levels)] H (aI (Z0 rfl (Rm rfl)) ?_ ?_ (X0 rfl fun hG=>Rg wP rfl (aH hG hb)) (aI (Z0 rfl (Rm rfl)) (Z2 3 7 4 8 rfl (Ri wS zw rfl rfl)) (Z1 5 9 rfl (Rf Rz rfl)) (X1 6 10 rfl fun hG=>Rg V7 rfl (aH hG hq)) (aI ?_ (cu rfl) (cu rfl) (cu rfl) dN))) ?_
 ·refine BI rfl fun _ a w G1 hG HT H fin=>?_;refine pV H wn rfl rfl ?_;clear H;intro a H;exact fin H iJ rfl
 ·refine eU 0 4 1 5 rfl rfl fun _ a w G1 hG HT H fin=>?_;refine s_call QV H wn rfl (UW _ _ H.ro k _ _ (by omega) (fun i hi=>(hcb.mono hG) i (by omega))) rfl ?_;clear H;rintro v6 G6 a w rfl lS H;exact fin H lS (rfl)
 ·refine eF 7 11 rfl rfl fun _ a w G1 hG HT H fin=>?_;refine s_call YU H wn rfl (X7 _ _ H.ro _ _ (hlv.mono hG) (ht _ (jv hk))) rfl ?_;clear H;rintro v12 yw a w rfl sG H;exact fin H sG (rfl)
 clear H;intro a w G rJ H hv;have H:=H.bg (hv 2 6 rfl rfl) rfl;have H:=H.bg (hv 8 12 rfl rfl) rfl;clear hv;refine jy qz gZ [_,_] [_,_] H wn rfl rfl rfl rfl rfl (by intro i q h;match i,h with|0,h=>exact h|1,h=>exact h|n+2,h=>simp at h) rfl rfl ?_;clear H;intro b13 a w Od H;obtain ⟨Ao,rQ,Jb,H⟩:=H.dW;refine s_call qZ H wn rfl (rz _ _ H.ro _ _ (Af Jb)) rfl ?_;clear H;rintro v14 _ a w ⟨rfl,rfl⟩ - H;refine kH H (Ra rfl ?_);clear H;intro a H;refine aJ ⟨rfl,?_⟩;refine K2 _ _ ?_;clear K2;refine lr H results184 rfl ?_;exact H.rt (by rw [he])
def vT (l:List dM):Int:=bK [bE (decide (64 < (l.length:Int))) 9,iC (xM l) (min l.length 64)]
theorem uE.le {fv:aj} {G:GH} {n m:Nat} {E:Nat→Int} (h:uE fv G n E) (hm:m≤n):uE fv G m E:=fun i hi=>h i (by omega)
theorem aeI (G:GH) (w0:World) (hG:Hold G w0) (l:List dM) (v:aj) (hv:aC G (.sl 2 (l.map dM.dat)) v) (hl:l.length≤4294967296) (ht:∀ x∈l,∀ y∈x.levels,y.Bz.size < 4611686018427387904) :
  Calls prog 127 #[v] w0 (bY w0 G fun u G'=>u=vi (vT l)):=by
 obtain ⟨A,c,rfl,hc1,hc2,-⟩:=hv.slice;rw [bQ] at *;refine eN [(0,_)] func127 rfl ntmps127 rfl rfl hG ?_;intro a H;refine dh (fun _ K1=>?_);refine fB (cs:=[_]) H wn rfl rfl rfl ?_;clear H;intro b1 a w hb1 H;refine kH H (ak K1 rfl (SQ fun _ K2=>?_));clear H K1;intro a H;have H:=H.sub (T':=[(1,_)]) ⟨rfl,aB⟩;obtain ⟨Ga,hma,hb1',H⟩:=H.dW
 have hbl:aG Ga b1 0=some (.slice A l.length c):=by unfold aG;rw [hb1'];rfl
 have hcb:=akP hbl (hv.mono hma) hl ht;refine dI hmx [[],[0],[0,1],[0,1,2],[],[4],[4,5],[],(ra 0 8),(ra 0 9),(ra 0 10),(ra 0 11)] [9,10,11] (by kernel_rfl) [_,_,_,vi (bE (decide (64 < (l.length:Int))) 9),_,_,vi ((min l.length 64:Nat):Int),.func (.func 184) #[] #[(aQ b1 0)],vi (iC (xM l) (min l.length 64))] H (aI (X0 rfl fun hG=>Rg wP rfl (aH hG hbl)) (Z1 0 3 rfl (Rl wS rfl)) (Z1 1 4 rfl (Rc rfl)) ?_ (aI (X0 rfl fun hG=>Rg wP rfl (aH hG hbl)) (Z1 4 7 rfl (Rl wS rfl)) ?_ ?_ (aI ?_ (cu rfl) (cu rfl) (cu rfl) dN))) ?_
 ·refine eF 2 5 rfl rfl fun _ a w G1 hG HT H fin=>?_;refine s_call jM H wn rfl (jO _ _ H.ro _ 9) rfl ?_;clear H;rintro v6 G6 a w ⟨rfl,-⟩ lS H;exact fin H lS (rfl)
 ·refine eF 5 8 rfl rfl fun _ a w G1 hG HT H fin=>?_;refine Pw H wn rfl rfl rfl ?_;clear H;intro a H;exact fin H iJ (av vi (by omega))
 ·refine BI rfl fun _ a w G1 hG HT H fin=>?_;refine pV H wn rfl rfl ?_;clear H;intro a H;exact fin H iJ rfl
 ·refine eU 6 9 7 10 rfl rfl fun _ a w G1 hG HT H fin=>?_;refine s_call IJ H wn rfl (Ko _ _ H.ro (min l.length 64) (xM l) _ (by omega) ((hcb.mono hG).le (Nat.min_le_left _ _))) rfl ?_;clear H;rintro v11 zG a w rfl yQ H;exact fin H yQ (rfl)
 clear H;intro a w G rJ H hv;have H:=H.bg (hv 3 6 rfl rfl) rfl;have H:=H.bg (hv 8 11 rfl rfl) rfl;clear hv;refine jy qz gZ [_,_] [_,_] H wn rfl rfl rfl rfl rfl (by intro i q h;match i,h with|0,h=>exact h|1,h=>exact h|n+2,h=>simp at h) rfl rfl ?_;clear H;intro b12 a w EH H;obtain ⟨yw,xH,Gx,H⟩:=H.dW;refine s_call qZ H wn rfl (rz _ _ H.ro _ _ (Af Gx)) rfl ?_;clear H;rintro v13 _ a w ⟨rfl,rfl⟩ - H;refine kH H (Ra rfl ?_);clear H;intro a H;refine aJ ⟨rfl,?_⟩;refine K2 _ _ ?_;clear K2;refine lr H results127 rfl ?_;exact H.rt rfl
end
section
open Go.RowKit
theorem nD:prog.underlying 31=some (.slice 156):=by kernel_rfl
theorem kL:Ty prog 156 6 72 [.int .i64 0,.int .i64 0,.string ⟨#[]⟩,.int .i64 0,.int .i64 0,.slice none 0 0] true:=⟨by kernel_rfl,by kernel_rfl⟩
theorem yL:dJ prog 156 1 1:=⟨by kernel_rfl⟩
theorem IV:dJ prog 156 2 2:=⟨by kernel_rfl⟩
theorem vV:dJ prog 156 0 0:=⟨by kernel_rfl⟩
theorem YB:∀ args w,(callFunc 220 args).run prog w=.ok (.enter 220 args) w:=enters func220 rfl (by kernel_rfl)
theorem afX:∀ args w,(callFunc 197 args).run prog w=.ok (.enter 197 args) w:=enters func197 rfl (by kernel_rfl)
theorem agl:∀ args w,(callFunc 221 args).run prog w=.ok (.enter 221 args) w:=enters func221 rfl (by kernel_rfl)
theorem agm:∀ args w,(callFunc 222 args).run prog w=.ok (.enter 222 args) w:=enters func222 rfl (by kernel_rfl)
structure bL where
 id:Int
 kind:Int
 name:ByteArray
 base:Int
 next:Int
 props:List jL
def bL.dat (x:bL):List Dat:=[li x.id,li x.kind,.lf (.string x.name),li x.base,li x.next,.sl 2 (x.props.map jL.dat)]
theorem VT {G:GH} {x:bL} {cs:List aj} (h:bJ G x.dat cs):∃ A c,cs=[vi x.id,vi x.kind,.string x.name,vi x.base,vi x.next,.slice A x.props.length c]∧aC G (.sl 2 (x.props.map jL.dat)) (.slice A x.props.length c):=by
 simp only [bL.dat,bJ] at h
 obtain ⟨v1,_,rfl,h1,v2,_,rfl,h2,v3,_,rfl,h3,v4,_,rfl,h4,v5,_,rfl,h5,v6,_,rfl,h6,rfl⟩:=h
 simp only [aC] at h1 h2 h3 h4 h5
 obtain ⟨rfl,-⟩:=h1;obtain ⟨rfl,-⟩:=h2;obtain ⟨rfl,-⟩:=h3;obtain ⟨rfl,-⟩:=h4;obtain ⟨rfl,-⟩:=h5;obtain ⟨A,c,rfl,-,-,-⟩:=h6.slice;rw [bQ] at *;exact ⟨A,c,rfl,h6⟩
theorem Bw {G:GH} {l:List bL} {A:Option Addr} {n c k:Nat} (hv:aC G (.sl 6 (l.map bL.dat)) (.slice A n c)) (hk:k < l.length):∃ b o pA pc,A=some ⟨b,o,none⟩∧(∀ j u,[vi l[k].id,vi l[k].kind,.string l[k].name,vi l[k].base,vi l[k].next,.slice pA l[k].props.length pc][j]?=some u→aG G b (o+k*6+j)=some u)∧aC G (.sl 2 (l[k].props.map jL.dat)) (.slice pA l[k].props.length pc) ∧
  bJ G l[k].dat [vi l[k].id,vi l[k].kind,.string l[k].name,vi l[k].base,vi l[k].next,.slice pA l[k].props.length pc]:=by
 obtain ⟨A',c',he,_,_,hg⟩:=hv.slice
 injection he with e1 e2 e3
 subst e1;obtain ⟨b,o,cs,h1,h2,h3,h4⟩:=hg k l[k].dat (by simp [hk]);obtain ⟨pA,pc,rfl,hp⟩:=VT h4;exact ⟨b,o,pA,pc,h1,h3,hp,h4⟩
def okB (x:Int):Bool:=decide (32≤x∧x≤126)
def Hy (s:ByteArray) (k:Nat):Bool:=(List.range k).all fun i=>okB (iY s i)
def oq (s:ByteArray):Bool:=decide (s.size≠0∧s.size≤40∧iY s 0≠32∧iY s (s.size - 1)≠32) && Hy s s.size
theorem aln (s:ByteArray) (k:Nat):Hy s (k+1)=(Hy s k && okB (iY s k)):=by simp [Hy,List.range_succ]
theorem Hz {s:ByteArray} {k:Nat} (hk:k < s.size) (h:okB (iY s k)=false):Hy s s.size=false:=by
 rw [Hy,List.all_eq_false];exact ⟨k,by simpa using hk,by simp [h]⟩
theorem OJ (G:GH) (w0:World) (hG:Hold G w0) (s:ByteArray) (hs:s.size≤4611686018427387904):Calls prog 194 #[.string s] w0 (bY w0 G fun u G'=>u=.bool (oq s)):=by
 refine eN [(0,_)] func194 rfl ntmps194 rfl rfl hG ?_;intro a H;refine kP H (SR fun _ K1=>ak K1 rfl (SQ fun _ K2=>SR fun _ K3=>Rm rfl (Rv iB rfl (Rc rfl (Rm rfl (Sp 7 rfl ?_ ?_)))))) <;> clear H K1
 ·intro h7 a H
  try have p7:=dT h7
  refine kH H (aZ h7 rfl (Pt h7 rfl (Rm rfl (aZ rfl rfl (Pt rfl rfl (Rm rfl (aZ rfl rfl (aZ rfl rfl (Pt rfl rfl (Kz K3 (Ct rfl rfl (SR fun _ K4=>ak K4 rfl ?_))))))))))));clear H K3 K4;intro a H;refine lr H results194 rfl ?_
  first
   | exact H.rt (aL (by rw [oq,gY (by omega),sZ]))
   | exact H.rt (aL (by rw [oq,dQ (by omega),show s.size=k by omega,hno];rfl))
   | exact H.rt (aL (by rw [oq,Hz (k:=k) (by omega) (gY (by omega)),Bool.and_false]))
 intro h7 a H
 try have p7:=dF h7
 refine kH H (YM h7 rfl ?_);clear H;intro a H;refine Bu iB H (wg H rfl rfl h7) rfl rfl ?_;clear H;intro a H;refine kH H (YC h7 rfl (Pf h7 rfl (Rm rfl (Sp 12 rfl ?_ ?_)))) <;> clear H
 ·intro h12 a H
  try have pK:=dT h12
  refine kH H (aZ h12 rfl (Pt h12 rfl (Rm rfl (aZ rfl rfl (aZ rfl rfl (Pt rfl rfl (Kz K3 (Ct rfl rfl (SR fun _ K5=>ak K5 rfl ?_)))))))));clear H K3 K5;intro a H;refine lr H results194 rfl ?_
  first
   | exact H.rt (aL (by rw [oq,gY (by omega),sZ]))
   | exact H.rt (aL (by rw [oq,dQ (by omega),show s.size=k by omega,hno];rfl))
   | exact H.rt (aL (by rw [oq,Hz (k:=k) (by omega) (gY (by omega)),Bool.and_false]))
 intro h12 a H
 try have pK:=dF h12
 refine kH H (YM h12 rfl ?_);clear H;intro a H;refine pU 0 iB H (wg H rfl rfl h12) rfl rfl rfl (by omega) rfl ?_;clear H;intro a H;rw [← nJ] at H;refine kH H (YC h12 rfl (Pf h12 rfl (Rm rfl (Sp 17 rfl ?_ ?_)))) <;> clear H
 ·intro gK a H
  try have mo:=dT gK
  refine kH H (aZ gK rfl (aZ gK rfl (Pt gK rfl (Kz K3 (Ct rfl rfl (SR fun _ K6=>ak K6 rfl ?_))))));clear H K3 K6;intro a H;refine lr H results194 rfl ?_
  first
   | exact H.rt (aL (by rw [oq,gY (by omega),sZ]))
   | exact H.rt (aL (by rw [oq,dQ (by omega),show s.size=k by omega,hno];rfl))
   | exact H.rt (aL (by rw [oq,Hz (k:=k) (by omega) (gY (by omega)),Bool.and_false]))
 intro gK a H
 try have mo:=dF gK
 refine kH H (YM gK rfl (YM gK rfl ?_));clear H;intro a H;refine Bu iB H (wg H rfl rfl gK) rfl rfl ?_;clear H;intro a H;refine mD _ H (wg H rfl rfl gK) rfl rfl rfl (by omega) (by omega) rfl ?_;clear H;intro a H;refine pU (s.size - 1) iB H (wg H rfl rfl gK) rfl rfl (by omega) (by omega) rfl ?_;clear H;intro a H;rw [← nJ] at H;refine kH H (YC gK rfl (Pf gK rfl (Kz K3 (Cd rfl ?_ ?_)))) <;> clear H K3
 ·intro fJ a H
  try have nO:=dT fJ
  refine kP H (SR fun _ K7=>ak K7 rfl ?_);clear H K7;intro a H;refine lr H results194 rfl ?_
  first
   | exact H.rt (aL (by rw [oq,gY (by omega),sZ]))
   | exact H.rt (aL (by rw [oq,dQ (by omega),show s.size=k by omega,hno];rfl))
   | exact H.rt (aL (by rw [oq,Hz (k:=k) (by omega) (gY (by omega)),Bool.and_false]))
 intro fJ a H
 try have nO:=dF fJ
 refine kP H (Kc K2 (SQ fun _ K8=>SR fun _ K9=>Rm rfl (Rv iB rfl (Rm rfl (Kz K9 (SB ?_))))));clear H K2 K9;intro a H;skip;refine eT (ι:=Nat) (Tc:=[(0,_),(26,_)]) (Lc:=[]) (fun gh=>[(27,vi gh)]) (fun gh=>[]) (fun gh=>G) (fun gh=>gh≤s.size∧Hy s gh=true) (fun gh=>s.size - gh) (0) (by exact (H).sub ⟨rfl,rfl,rfl,aB⟩) ?_ ?_
 ·exact ⟨gX _,rfl⟩
 clear H;intro k a w hI H;obtain ⟨hk,hno⟩:=hI;dsimp only [lca,aO] at H;refine kP H (SR fun _ aV=>Rc rfl (Kz aV (SQ fun _ bF=>Cd rfl ?_ ?_))) <;> clear H aV
 ·intro jC a H
  try have p28:=dT jC
  refine kP H (Kc bF (SQ fun _ bG=>SB (SR fun _ bM=>Rm rfl (ak bM rfl (SR fun _ bN=>Rm rfl (Rm rfl ?_))))));clear H bF bM;intro a H;refine pU k iB H wn rfl rfl rfl (by omega) rfl ?_;clear H;intro a H;rw [← nJ] at H;refine kH H (Rc rfl (Rm rfl (Sp 34 rfl ?_ ?_))) <;> clear H
  ·intro eG a H
   try have p34:=dT eG
   refine kH H (aS eG rfl (aS eG rfl (Pt eG rfl (Kz bN (Ct rfl rfl (SR fun _ bW=>ak bW rfl ?_))))));clear H bN bW;intro a H;refine lr H results194 rfl ?_
   first
    | exact H.rt (aL (by rw [oq,gY (by omega),sZ]))
    | exact H.rt (aL (by rw [oq,dQ (by omega),show s.size=k by omega,hno];rfl))
    | exact H.rt (aL (by rw [oq,Hz (k:=k) (by omega) (gY (by omega)),Bool.and_false]))
  intro eG a H
  try have p34:=dF eG
  refine kH H (YM eG rfl (YM eG rfl ?_));clear H;intro a H;refine pU k iB H (wg H rfl rfl eG) rfl rfl rfl (by omega) rfl ?_;clear H;intro a H;rw [← nJ] at H;refine kH H (YC eG rfl (Pf eG rfl (Kz bN (Cd rfl ?_ ?_)))) <;> clear H bN
  ·intro jR a H
   try have p39:=dT jR
   refine kP H (SR fun _ cK=>ak cK rfl ?_);clear H cK;intro a H;refine lr H results194 rfl ?_
   first
    | exact H.rt (aL (by rw [oq,gY (by omega),sZ]))
    | exact H.rt (aL (by rw [oq,dQ (by omega),show s.size=k by omega,hno];rfl))
    | exact H.rt (aL (by rw [oq,Hz (k:=k) (by omega) (gY (by omega)),Bool.and_false]))
  intro jR a H
  try have p39:=dF jR
  refine kP H (Kc bG (SC (Rd rfl (Rm rfl ?_))));clear H bG;intro a H;refine aJ ?_;refine dH ((k+1)) (by exact (H).sub ⟨rfl,rfl,rfl,aB⟩) ?_ ?_
  ·exact ⟨by omega,by rw [aln,hno];simp [okB];omega⟩
  first|omega|(dsimp only;omega)
 intro jC a H
 try have p28:=dF jC
 refine dR ?_;refine K8 _ _ ?_;clear K8;refine kP H (SR fun _ bS=>ak bS rfl ?_);clear H bS;intro a H;refine lr H results194 rfl ?_
 first
  | exact H.rt (aL (by rw [oq,gY (by omega),sZ]))
  | exact H.rt (aL (by rw [oq,dQ (by omega),show s.size=k by omega,hno];rfl))
  | exact H.rt (aL (by rw [oq,Hz (k:=k) (by omega) (gY (by omega)),Bool.and_false]))
theorem aaE (G:GH) (w0:World) (hG:Hold G w0) (l:List bL) (p:bL→Bool) (v fv:aj) (hv:aC G (.sl 6 (l.map bL.dat)) v) (hf:∀ x∈l,vN fv G x.dat (p x)) :
  Calls prog 220 #[v,fv] w0 (bY w0 G fun u G'=>u=vi (qp (l.findIdx? p))):=by
 obtain ⟨A,c,rfl,hc1,hc2,-⟩:=hv.slice;have hml:maxLen=9223372036854775807:=rfl;rw [bQ] at *;refine eN [(0,_),(1,_)] func220 rfl ntmps220 rfl rfl hG ?_;intro a H;refine kP H (SR fun _ K1=>ak K1 rfl (SQ fun _ K2=>SR fun _ K3=>Rm rfl (Rl nD rfl (Rm rfl (Kz K3 (SB ?_))))));clear H K1 K3;intro a H;skip;refine eT (ι:=Nat × GH) (Tc:=[(0,_),(1,_),(7,_)]) (Lc:=[]) (fun gh=>[(8,vi gh.1)]) (fun gh=>[]) (fun gh=>gh.2) (fun gh=>gh.1≤l.length∧(l.take gh.1).findIdx? p=none∧(∀ b o,G b=some o→gh.2 b=some o)) (fun gh=>l.length - gh.1) ((0,G)) (by exact (H).sub ⟨rfl,rfl,rfl,rfl,aB⟩) ?_ ?_
 ·exact ⟨by omega,rfl,fun _ _ h=>h⟩
 clear H;rintro ⟨k,g⟩ a w hI H;dsimp only at hI H;obtain ⟨hk,hno,hgm⟩:=hI;dsimp only [lca,aO] at H;refine kP H (SR fun _ K4=>Rc rfl (Kz K4 (SQ fun _ K5=>Cd rfl ?_ ?_))) <;> clear H K4
 ·intro h9 a H
  try have p9:=dT h9
  have hk2:k < l.length:=by omega
  obtain ⟨b,o,pA,pc,rfl,hrow,hp,hrep⟩:=Bw (hv.mono hgm) hk2;refine kP H (Kc K5 (SQ fun _ K6=>SB (SR fun _ K7=>Rm rfl (ak K7 rfl (SR fun _ K8=>Rm rfl (Rm rfl (Rm rfl (Ri nD kL rfl rfl ?_))))))));clear H K5 K7;intro a H;refine bP kL (cs:=[_,_,_,_,_,_]) H wn rfl rfl (fun j v hj=>H.hp.aG (hrow j v hj)) rfl ?_;clear H;intro a H;refine vg H wn rfl rfl (hf _ (jv hk2) _ _ _ hgm H.ro hrep) rfl ?_;clear H;rintro v16 yx a w rfl uT H;refine K8 _ _ ?_;clear K8;refine qF H rfl ?_ ?_
  ·intro h16
   try have p16:=dT h16
   refine kP H (SR fun _ K9=>Rm rfl (ak K9 rfl ?_));clear H K9;intro a H;refine lr H results220 rfl ?_
   first
    | exact H.rt (by rw [za hk2 hno h16];rfl)
    | exact H.rt (by rw [show l.take k=l from lZ (by omega)] at hno;rw [hno];rfl)
  intro h16
  try have p16:=dF h16
  refine kP H (Kc K6 (SC (Rd rfl (Rm rfl ?_))));clear H K6;intro a H;refine aJ ?_;refine dH ((k+1,yx)) (by exact (H).sub ⟨rfl,rfl,rfl,rfl,aB⟩) ?_ ?_
  ·(try dsimp only);exact ⟨by omega,Hg hk2 hno h16,fun b o h=>uT b o (hgm b o h)⟩
  first|omega|(dsimp only;omega)
 intro h9 a H
 try have p9:=dF h9
 refine dR ?_;refine K2 _ _ ?_;clear K2;refine kP H (SR fun _ aV=>ak aV rfl ?_);clear H aV;intro a H;refine lr H results220 rfl ?_
 first
  | exact H.rt (by rw [za hk2 hno h16];rfl)
  | exact H.rt (by rw [show l.take k=l from lZ (by omega)] at hno;rw [hno];rfl)
def L8 (p q:ByteArray):Bool:=p.toList == q.toList
theorem ahn {G:GH} {bk bn:Nat} {kind:Int} {name:ByteArray} (hk:aG G bk 0=some (vi kind)) (hn:aG G bn 0=some (.string name)) (x:bL):vN (.func (.func 221) #[] #[(aQ bk 0),(aQ bn 0)]) G x.dat (decide (x.kind=kind) && L8 x.name name):=by
 intro G1 w0 cs hm hG hr;refine nK (caps:=[(aQ bk 0),(aQ bn 0)]) agl ?_;obtain ⟨pA,pc,rfl,-⟩:=VT hr;replace hk:=aH hm hk;replace hn:=aH hm hn;refine eN [(0,_),(1,_),(2,_)] func221 rfl ntmps221 rfl rfl hG ?_;intro a H;refine dh (fun _ K1=>?_);refine fB (cs:=[_,_,_,_,_,_]) H wn rfl rfl rfl ?_;clear H;intro b3 a w hb3 H;refine kH H (ak K1 rfl (SR fun _ K2=>aT yL aD 0 rfl rfl (Rg aD rfl (by assumption) ?_)));clear H K1;intro a H;refine kH H (Rc rfl (Rm rfl (Sp 9 rfl ?_ ?_))) <;> clear H
 ·intro h9 a H
  try have p9:=dT h9
  refine kH H (YF IV h9 rfl (YO gW 0 h9 rfl (YR gW h9 rfl (by assumption) ?_)));clear H;intro a H;refine Ia H (wg H rfl rfl h9) rfl rfl rfl ?_;clear H;intro a H;exact kH H (Pt h9 rfl (ak K2 rfl (LR results221 rfl fun H=>H.rt (by unfold L8;simp_all))))
 intro h9 a H
 try have p9:=dF h9
 exact kH H (aS h9 rfl (aS h9 rfl (Pf h9 rfl (ak K2 rfl (LR results221 rfl fun H=>H.rt (by unfold L8;simp_all))))))
theorem ahm {G:GH} {bi:Nat} {id:Int} (hb:aG G bi 0=some (vi id)) (x:bL):vN (.func (.func 222) #[] #[(aQ bi 0)]) G x.dat (decide (x.id=id)):=by
 intro G1 w0 cs hm hG hr;refine nK (caps:=[(aQ bi 0)]) agm ?_;obtain ⟨pA,pc,rfl,-⟩:=VT hr;replace hb:=aH hm hb;refine eN [(0,_),(1,_)] func222 rfl ntmps222 rfl rfl hG ?_;intro a H;refine dh (fun _ K1=>?_);refine fB (cs:=[_,_,_,_,_,_]) H wn rfl rfl rfl ?_;clear H;intro b2 a w hb2 H;refine kH H (ak K1 rfl (SR fun _ K2=>aT vV aD 0 rfl rfl (Rg aD rfl (by assumption) ?_)));clear H K1;intro a H;exact kH H (Rc rfl (ak K2 rfl (LR results222 rfl fun H=>H.rt rfl)))
def Ez (l:List bL) (kind:Int) (name:ByteArray):Option Nat:=l.findIdx? fun x=>decide (x.kind=kind) && L8 x.name name
def NP (l:List bL) (id:Int):Option Nat:=l.findIdx? fun x=>decide (x.id=id)
theorem aaJ (o:Option Nat):decide (0≤qp o)=o.isSome:=by cases o <;> simp [qp]
theorem aho (G:GH) (w0:World) (hG:Hold G w0) (l:List bL) (kind:Int) (name:ByteArray) (v:aj) (hv:aC G (.sl 6 (l.map bL.dat)) v) :
  Calls prog 195 #[v,vi kind,.string name] w0 (bY w0 G fun u G'=>u=.tuple #[vi (max (qp (Ez l kind name)) 0),.bool (Ez l kind name).isSome]):=by
 obtain ⟨A,c,rfl,hc1,hc2,-⟩:=hv.slice;rw [bQ] at *;refine eN [(0,_),(1,_),(2,_)] func195 rfl ntmps195 rfl rfl hG ?_;intro a H;refine dh (fun _ K1=>?_);refine fB (cs:=[_]) H wn rfl rfl rfl ?_;clear H;intro b4 a w hb4 H;refine fB (cs:=[_]) H wn rfl rfl rfl ?_;clear H;intro b5 a w hb5 H;refine kH H (Ra rfl (ak K1 rfl (SQ fun _ K2=>?_)));clear H K1;intro a H;obtain ⟨Ga,hma,wC,H⟩:=H.dW;obtain ⟨Gb,hmb,yS,H⟩:=H.dW
 have q4:aG Gb b4 0=some (vi kind):=by unfold aG;rw [yS];rfl
 have q5:aG Gb b5 0=some (.string name):=by unfold aG;rw [hmb _ _ wC];rfl
 refine kP H (SC (Rm rfl ?_));clear H;intro a H;refine pV H wn rfl rfl ?_;clear H;intro a H;refine s_call YB H wn rfl (aaE _ _ H.ro l (fun x=>decide (x.kind=kind) && L8 x.name name) _ _ ((hv.mono hma).mono hmb) (fun x _=>ahn q4 q5 x)) rfl ?_;clear H;rintro v11 zG a w rfl GK H;refine kH H (aM K2 rfl (SR fun _ K3=>Rm rfl ?_));clear H K2;intro a H;refine E9 H wn rfl rfl rfl ?_;clear H;intro a H;refine kH H (Rm rfl (Rc rfl (Ra rfl (ak K3 rfl ?_))));clear H K3;intro a H;refine dG ?_;refine (gV H results195 (.cons (bB H rfl) (.cons (bB H rfl) .nil)) ?_).1;exact H.rt (by rw [← aaJ];rfl)
theorem ahp (G:GH) (w0:World) (hG:Hold G w0) (l:List bL) (id:Int) (v:aj) (hv:aC G (.sl 6 (l.map bL.dat)) v) :
  Calls prog 197 #[v,vi id] w0 (bY w0 G fun u G'=>u=.tuple #[vi (max (qp (NP l id)) 0),.bool (NP l id).isSome]):=by
 obtain ⟨A,c,rfl,hc1,hc2,-⟩:=hv.slice;rw [bQ] at *;refine eN [(0,_),(1,_)] func197 rfl ntmps197 rfl rfl hG ?_;intro a H;refine dh (fun _ K1=>?_);refine fB (cs:=[_]) H wn rfl rfl rfl ?_;clear H;intro b3 a w hb3 H;refine kH H (Ra rfl (ak K1 rfl (SQ fun _ K2=>?_)));clear H K1;intro a H;obtain ⟨Ga,hma,Bb,H⟩:=H.dW
 have q3:aG Ga b3 0=some (vi id):=by unfold aG;rw [Bb];rfl
 refine kP H (SC (Rm rfl ?_));clear H;intro a H;refine pV H wn rfl rfl ?_;clear H;intro a H;refine s_call YB H wn rfl (aaE _ _ H.ro l (fun x=>decide (x.id=id)) _ _ (hv.mono hma) (fun x _=>ahm q3 x)) rfl ?_;clear H;rintro v9 G9 a w rfl Jh H;refine kH H (aM K2 rfl (SR fun _ K3=>Rm rfl ?_));clear H K2;intro a H;refine E9 H wn rfl rfl rfl ?_;clear H;intro a H;refine kH H (Rm rfl (Rc rfl (Ra rfl (ak K3 rfl ?_))));clear H K3;intro a H;refine dG ?_;refine (gV H results197 (.cons (bB H rfl) (.cons (bB H rfl) .nil)) ?_).1;exact H.rt (by rw [← aaJ];rfl)
def Ho (l:List bL) (kind id:Int):Bool:=match NP l id with|some i=>decide ((l[i]?.map bL.kind)=some kind)|none=>false
theorem UZ (G:GH) (w0:World) (hG:Hold G w0) (l:List bL) (kind id:Int) (v:aj) (hv:aC G (.sl 6 (l.map bL.dat)) v) :
  Calls prog 154 #[v,vi kind,vi id] w0 (bY w0 G fun u G'=>u=.bool (Ho l kind id)):=by
 obtain ⟨A,c,rfl,hc1,hc2,-⟩:=hv.slice;rw [bQ] at *;refine eN [(0,_),(1,_),(2,_)] func154 rfl ntmps154 rfl rfl hG ?_;intro a H;refine kP H (SR fun _ K1=>ak K1 rfl (SR fun _ K2=>Rm rfl (Rm rfl ?_)));clear H K1;intro a H;refine s_call afX H wn rfl (ahp _ _ H.ro l id _ hv) rfl ?_;clear H;rintro v12 yw a w rfl xH H;obtain ⟨o,ho⟩:∃ o,o=NP l id:=⟨_,rfl⟩;rw [← ho] at H;refine kH H (Rm rfl ?_);clear H;intro a H;(iterate 2 refine nA H wn rfl rfl rfl ?_;clear H;intro a H);refine kH H (Ra rfl (ak K2 rfl (SR fun _ K3=>Rm rfl (Rm rfl (Sp 16 rfl ?_ ?_))))) <;> clear H K2
 ·intro h16 a H
  try have p16:=dT h16
  obtain ⟨i,rfl⟩:=Option.isSome_iff_exists.1 h16
  have hil:i < l.length:=by
   obtain ⟨hi,-⟩:=List.findIdx?_eq_some_iff_getElem.1 ho.symm;exact hi
  rw [show max (qp (some i)) 0=(i:Int) by simp [qp]] at H;obtain ⟨b,o',pA,pc,rfl,hrow,hp,hrep⟩:=Bw (hv.mono xH) hil;have r1:aG yw b (o'+i*6+1)=some (vi l[i].kind):=hrow 1 _ rfl;refine kH H (YM h16 rfl (YM h16 rfl (YI nD kL h16 rfl rfl (YF yL h16 rfl (YR aD h16 rfl (by assumption) ?_)))));clear H;intro a H;refine kH H (YM h16 rfl (YC h16 rfl (Pt h16 rfl (ak K3 rfl ?_))));clear H K3;intro a H;refine lr H results154 rfl ?_
  first
   | exact H.rt (aL (by rw [Ho,← ho];dsimp only;rw [fP hil];simp))
   | exact H.rt (aL (by rw [Ho,← ho];cases o <;> simp_all))
 intro h16 a H
 try have p16:=dF h16
 refine kH H (aZ h16 rfl (aS h16 rfl (aS h16 rfl (Pf h16 rfl (ak K3 rfl ?_)))));clear H K3;intro a H;refine lr H results154 rfl ?_
 first
  | exact H.rt (aL (by rw [Ho,← ho];dsimp only;rw [fP hil];simp))
  | exact H.rt (aL (by rw [Ho,← ho];cases o <;> simp_all))
end
section
open Go.RowKit
section
variable {N:Nat} {D:List Deferred} {w0:World} {F:Nat→Prop} {G0 G:GH} {L Li Lo:OL} {T:List (Nat × aj)}
variable {r:Option Nat} {P:Program} {ops:Array Oper} {Q:Exit→Act→World→Prop} {rest:List Oper} {a:Act} {w:World}
variable {d:Nat} {ty:TypeId} {pos:String} {aR:Array Edge} {g:Option (Nat × Bool)}
theorem VI {t e:TypeId} {sz bytes:Nat} {zero:List aj} {agg:Bool} (hs:P.underlying t=some (.slice e)) (ht:Ty P e sz bytes zero agg) {x z:Operand} {A:Option Addr} {n c:Nat} (hi:Nat) {q:Int} (H:St N D w0 F G0 G L T a w)
  (hw:Region.wanted ⟨some d,.slice t x none (some z) none,ty,pos,aR,g⟩ (yielded ops a.tmps)=true) (hx:ev T x=some (.slice A n c)) (hz:ev T z=some (.int .i64 q)) (hq:q=(hi:Int)) (h2:hi≤c) (hd:Nat.blt d N=true)
  (k:∀ a',St N D w0 F G0 G L ((d,.slice A hi c) :: T) a' w→WL r P ops Q rest a' w):WL r P ops Q (⟨some d,.slice t x none (some z) none,ty,pos,aR,g⟩ :: rest) a w:=by
 subst hq
 refine iF (v:=.slice A hi c) (w':=w) hw rfl ?_ (k _ (H.put hd _ H.hp))
 simp [execOp,H.ev hx,H.ev hz,Instr.sliceAt,Instr.slice,Instr.sliceBounds,Instr.sliceBound,fD,qx hs,ht.Cx,asIntOf,h2]
 intro _
 cases A with
 | none=>rfl
 | some p=>simp [Addr.add]
end
end
section
open Go.RowKit
theorem Nz:∀ args w,(callFunc 194 args).run prog w=.ok (.enter 194 args) w:=enters func194 rfl (by kernel_rfl)
theorem afV:∀ args w,(callFunc 195 args).run prog w=.ok (.enter 195 args) w:=enters func195 rfl (by kernel_rfl)
theorem Ry:dJ prog 156 5 5:=⟨by kernel_rfl⟩
theorem afW:∀ args w,(callFunc 196 args).run prog w=.ok (.enter 196 args) w:=enters func196 rfl (by kernel_rfl)
theorem Rq:∀ args w,(callFunc 95 args).run prog w=.ok (.enter 95 args) w:=enters func95 rfl (by kernel_rfl)
theorem aC.pre {G:GH} {sz:Nat} {rows:List (List Dat)} {A:Option Addr} {n c:Nat} (h:aC G (.sl sz rows) (.slice A n c)) (k:Nat) (hk:k≤rows.length):aC G (.sl sz (rows.take k)) (.slice A k c):=by
 have h:=h.part 0 k (gX _) hk
 have e:(if c=0 then A else A.map (·.add (0*sz)))=A:=by
  split
  ·rfl
  cases A <;> simp [Addr.add]
 rw [e] at h
 simpa using h
theorem afk (G:GH) (w0:World) (hG:Hold G w0) (kind:Int):Calls prog 196 #[vi kind] w0 (bY w0 G fun u G'=>u=vi (if kind=1 then 2 else 1)):=by
 refine eN [(0,_)] func196 rfl ntmps196 rfl rfl hG ?_;intro a H;refine kP H (SR fun _ K1=>ak K1 rfl (SQ fun _ K2=>SR fun _ K3=>Rm rfl (Rc rfl (Kz K3 (Cd rfl ?_ ?_))))) <;> clear H K1 K3
 ·intro h4 a H
  try have p4:=dT h4
  exact kP H (SR fun _ K4=>ak K4 rfl (LR results196 rfl fun H=>H.rt (by first|(rw [au (by omega)];done)|rw [ah (by omega)])))
 intro h4 a H
 try have p4:=dF h4
 exact kP H (Kc K2 (SR fun _ K5=>ak K5 rfl (LR results196 rfl fun H=>H.rt (by first|(rw [au (by omega)];done)|rw [ah (by omega)]))))
def Ab (l:List bL) (k:Nat):Option Int:=if k=0 then none else l[k - 1]?.map bL.id
theorem Ph {l:List bL} {k:Nat} (h:k=0):Ab l k=none:=au h
def Iw (k:Int):Bool:=decide (k=20) || decide (k=1)
def mO (q:Option Int) (dup:Bool) (s:bL):Int :=
 if s.id < 1∨1073741824 < s.id then 18 else if q=some s.id then 7 else if Ju q s.id=true then 6 else if s.kind≠1∧s.kind≠2 then 3 else if oq s.name=false then 13 else if dup=true then 7
 else if s.props.any (fun p=>Iw p.key)=true then 4 else iO (if s.kind=1 then 2 else 1) s.props
def jD (l:List bL) (k:Nat) (s:bL):Int:=mO (Ab l k) (Ez (l.take k) s.kind s.name).isSome s
set_option maxHeartbeats 1000000 in
theorem alC (G:GH) (w0:World) (hG:Hold G w0) (l:List bL) (k:Nat) (v:aj) (hv:aC G (.sl 6 (l.map bL.dat)) v) (hk:k < l.length) (hs:l[k].name.size≤4611686018427387904) :
  Calls prog 153 #[v,vi k] w0 (bY w0 G fun u G'=>u=vi (jD l k l[k])):=by
 obtain ⟨A,c,rfl,hc1,hc2,-⟩:=hv.slice;have hml:maxLen=9223372036854775807:=rfl;rw [bQ] at *;obtain ⟨b,o,pA,pc,rfl,hrow,hp,hrep⟩:=Bw hv hk;obtain ⟨x,hx⟩:∃ x,x=l[k]:=⟨_,rfl⟩;rw [← hx] at hs hrow hp hrep ⊢;have hdp:∀ j v,[vi x.id,vi x.kind,.string x.name,vi x.base,vi x.next,.slice pA x.props.length pc][j]?=some v→aG G b (o+k*6+j)=some v:=hrow;obtain ⟨_,_,he0,apY,apZ,-⟩:=hp.slice
 injection he0 with _ he1 he2
 rw [bQ] at *;subst he2
 obtain ⟨pk,hpk⟩:∃ pk,0 < k→aG G b (o+(k - 1)*6+0)=some (vi pk)∧Ab l k=some pk:=by
  by_cases h0:0 < k
  ·obtain ⟨b',o',_,_,he,hr',-,-⟩:=Bw hv (show k - 1 < l.length by omega)
   injection he with he
   injection he with e1 e2 e3
   subst e1;subst e2;exact ⟨_,fun _=>⟨hr' 0 _ rfl,by rw [Ab,ah (by omega),fP (by omega)];rfl⟩⟩
  exact ⟨0,fun h=>absurd h h0⟩
 refine eN [(0,_),(1,_)] func153 rfl ntmps153 rfl rfl hG ?_;intro a H;refine kP H (SR fun _ K1=>ak K1 rfl (SR fun _ K2=>Rm rfl (Rm rfl (Ri nD kL rfl rfl ?_))));clear H K1;intro a H;refine bP kL (cs:=[_,_,_,_,_,_]) H wn rfl rfl (fun j v hj=>H.hp.aG (hrow j v hj)) rfl ?_;clear H;intro a H;refine eH kL H wn rfl ?_;clear H;intro b5 a w hb5 H;refine bT kL 0 (vs:=[_,_,_,_,_,_]) _ H wn rfl rfl rfl rfl rfl rfl rfl rfl ?_;clear H;intro w H;dsimp only [List.set,setRow] at H;refine K2 _ _ ?_;clear K2;refine oF (ι:=GH) (Tc:=[(0,_),(1,_),(5,_)]) (Lc:=[(_,_)]) (fun gh=>[]) (fun gh=>[]) (fun gh=>gh) (fun gh=>¬ (x.id < 1∨1073741824 < x.id)∧¬ Ab l k=some x.id∧¬ Ju (Ab l k) x.id=true∧¬ (x.kind≠1∧x.kind≠2)∧¬ oq x.name=false∧(∀ b o,G b=some o→gh b=some o)) (by exact (H).sub ⟨rfl,rfl,rfl,aB⟩) ?_ ?_
 ·skip;refine kP H (SB (SR fun _ K3=>aT vV aD 0 rfl rfl (Rc rfl (Rm rfl (Sp 18 rfl ?_ ?_))))) <;> clear H
  ·intro h18 a H
   try have xQ:=dT h18
   refine kH H (aZ h18 rfl (Pt h18 rfl (ak K3 rfl (Ct rfl rfl (SR fun _ K4=>ak K4 rfl ?_)))));clear H K3 K4;intro a H;refine lr H results153 rfl ?_
   first
    | exact H.rt (av vi e0.symm)
    | exact H.rt (av vi e4.symm)
    | exact H.rt (av vi e7.symm)
    | exact H.rt (av vi e13.symm)
    | exact H.rt (av vi e3.symm)
    | exact H.rt (av vi e6.symm)
    | exact H.rt (av vi (by rw [jD,mO,au (by omega)]))
  intro h18 a H
  try have xQ:=dF h18
  refine kH H (YF vV h18 rfl (YO aD 0 h18 rfl (YC h18 rfl (Pf h18 rfl (ak K3 rfl (Cd rfl ?_ ?_)))))) <;> clear H K3
  ·intro gq a H
   try have sN:=dT gq
   refine kP H (SR fun _ K5=>ak K5 rfl ?_);clear H K5;intro a H;refine lr H results153 rfl ?_
   first
    | exact H.rt (av vi e0.symm)
    | exact H.rt (av vi e4.symm)
    | exact H.rt (av vi e7.symm)
    | exact H.rt (av vi e13.symm)
    | exact H.rt (av vi e3.symm)
    | exact H.rt (av vi e6.symm)
    | exact H.rt (av vi (by rw [jD,mO,au (by omega)]))
  intro gq a H
  try have sN:=dF gq
  refine aN (fun _ K6=>?_)
  by_cases c0:0 < (k:Int)
  ·skip
   by_cases c1:x.id=pk
   ·skip;refine dI hmx [[],[0],[0,1],[0,1,2],(ra 0 4),[0,1,2],[0,1,2],[0,1,2,6],[0,1,2,5,6,7],[0,1,2,5,6,7,8],[0,1,2,5,6,7,8,9],(ra 0 11),(ra 0 12),(ra 0 13)] [13] (by kernel_rfl) [_,_,_,_,vi x.id,_,_,vi ((k - 1:Nat):Int),_,_,_,_,_] H (aI (Z0 rfl (Rm rfl)) (Z1 0 24 rfl (Rc rfl)) (Z1 1 25 rfl (Rm rfl)) (Z1 2 26 rfl (YF vV (aF c0) rfl)) (aI (Z2 3 27 2 26 rfl (YO aD 0 (aF c0) rfl)) (Z1 2 26 rfl (YM (aF c0) rfl)) (Z1 2 26 rfl (YM (aF c0) rfl)) ?_ (aI (Z3 5 29 7 31 2 26 rfl (YI nD kL (aF c0) rfl rfl)) (Z2 8 32 2 26 rfl (YF vV (aF c0) rfl)) (X2 9 33 2 26 rfl fun hG=>YR aD (aF c0) rfl (aH hG (hpk (by omega)).1)) (Z3 4 28 10 34 2 26 rfl (YC (aF c0) rfl)) (bC (Z2 2 26 11 35 rfl (Pt (aF c0) rfl)) (bC (cu rfl) dN))))) ?_
    ·refine eU 6 30 2 26 rfl rfl fun _ a w G1 hG HT H fin=>?_;refine mD _ H (wg H rfl rfl (aF c0)) rfl rfl rfl (by omega) (by omega) rfl ?_;clear H;intro a H;exact fin H iJ (by show _=_;first|rfl|exact av vi (by omega))
    clear H;intro a w G tT H hv;have H:=H.bg (hv 12 36 rfl rfl) rfl;clear hv;refine kH H (Ra rfl ?_);clear H;intro a H;refine aJ ⟨rfl,?_⟩;refine K6 _ _ ?_;clear K6;refine Ay H rfl (aF c1) ?_;refine aN (fun _ K7=>?_)
    have e7:jD l k x=7:=by rw [jD,mO,ah (by omega),au (by rw [(hpk (by omega)).2,c1])]
    refine kP H (SC (aM K7 rfl ?_));clear H K7;intro a H;refine lr H results153 rfl ?_
    first
     | exact H.rt (av vi e0.symm)
     | exact H.rt (av vi e4.symm)
     | exact H.rt (av vi e7.symm)
     | exact H.rt (av vi e13.symm)
     | exact H.rt (av vi e3.symm)
     | exact H.rt (av vi e6.symm)
     | exact H.rt (av vi (by rw [jD,mO,au (by omega)]))
   skip;refine dI hmx [[],[0],[0,1],[0,1,2],(ra 0 4),[0,1,2],[0,1,2],[0,1,2,6],[0,1,2,5,6,7],[0,1,2,5,6,7,8],[0,1,2,5,6,7,8,9],(ra 0 11),(ra 0 12),(ra 0 13)] [13] (by kernel_rfl) [_,_,_,_,vi x.id,_,_,vi ((k - 1:Nat):Int),_,_,_,_,_] H (aI (Z0 rfl (Rm rfl)) (Z1 0 24 rfl (Rc rfl)) (Z1 1 25 rfl (Rm rfl)) (Z1 2 26 rfl (YF vV (aF c0) rfl)) (aI (Z2 3 27 2 26 rfl (YO aD 0 (aF c0) rfl)) (Z1 2 26 rfl (YM (aF c0) rfl)) (Z1 2 26 rfl (YM (aF c0) rfl)) ?_ (aI (Z3 5 29 7 31 2 26 rfl (YI nD kL (aF c0) rfl rfl)) (Z2 8 32 2 26 rfl (YF vV (aF c0) rfl)) (X2 9 33 2 26 rfl fun hG=>YR aD (aF c0) rfl (aH hG (hpk (by omega)).1)) (Z3 4 28 10 34 2 26 rfl (YC (aF c0) rfl)) (bC (Z2 2 26 11 35 rfl (Pt (aF c0) rfl)) (bC (cu rfl) dN))))) ?_
   ·refine eU 6 30 2 26 rfl rfl fun _ a w G1 hG HT H fin=>?_;refine mD _ H (wg H rfl rfl (aF c0)) rfl rfl rfl (by omega) (by omega) rfl ?_;clear H;intro a H;exact fin H iJ (by show _=_;first|rfl|exact av vi (by omega))
   clear H;intro a w G tT H hv;have H:=H.bg (hv 12 36 rfl rfl) rfl;clear hv;refine kH H (Ra rfl ?_);clear H;intro a H;refine aJ ⟨rfl,?_⟩;refine K6 _ _ ?_;clear K6;refine oh H rfl (aP c1) ?_;refine aN (fun _ K8=>?_)
   have q1:¬ (0 < (k:Int)∧x.id=pk):=by first|exact fun h=>c1 h.2|exact fun h=>c0 h.1
   have q1':¬ Ab l k=some x.id:=fun h=>q1 (by
    by_cases h0:0 < k
    ·rw [(hpk h0).2] at h
     injection h with h
     exact ⟨by omega,h.symm⟩
    rw [Ph (by omega)] at h
    cases h)
   by_cases c3:x.id < pk
   ·skip;refine dI hmx [[],[0],[0,1],[0,1,2],(ra 0 4),[0,1,2],[0,1,2],[0,1,2,6],[0,1,2,5,6,7],[0,1,2,5,6,7,8],[0,1,2,5,6,7,8,9],(ra 0 11),(ra 0 12),(ra 0 13)] [13] (by kernel_rfl) [_,_,_,_,vi x.id,_,_,vi ((k - 1:Nat):Int),_,_,_,_,_] H (aI (Z0 rfl (Rm rfl)) (Z1 0 38 rfl (Rc rfl)) (Z1 1 39 rfl (Rm rfl)) (Z1 2 40 rfl (YF vV (aF c0) rfl)) (aI (Z2 3 41 2 40 rfl (YO aD 0 (aF c0) rfl)) (Z1 2 40 rfl (YM (aF c0) rfl)) (Z1 2 40 rfl (YM (aF c0) rfl)) ?_ (aI (Z3 5 43 7 45 2 40 rfl (YI nD kL (aF c0) rfl rfl)) (Z2 8 46 2 40 rfl (YF vV (aF c0) rfl)) (X2 9 47 2 40 rfl fun hG=>YR aD (aF c0) rfl (aH hG (aH tT (hpk (by omega)).1))) (Z3 4 42 10 48 2 40 rfl (YC (aF c0) rfl)) (bC (Z2 2 40 11 49 rfl (Pt (aF c0) rfl)) (bC (cu rfl) dN))))) ?_
    ·refine eU 6 44 2 40 rfl rfl fun _ a w G1 hG HT H fin=>?_;refine mD _ H (wg H rfl rfl (aF c0)) rfl rfl rfl (by omega) (by omega) rfl ?_;clear H;intro a H;exact fin H iJ (by show _=_;first|rfl|exact av vi (by omega))
    clear H;intro a w G lS H hv;have H:=H.bg (hv 12 50 rfl rfl) rfl;clear hv;refine kH H (Ra rfl ?_);clear H;intro a H;refine aJ ⟨rfl,?_⟩;refine K8 _ _ ?_;clear K8;refine Ay H rfl (aF c3) ?_;refine aN (fun _ K9=>?_)
    have e6:jD l k x=6:=by rw [jD,mO,ah (by omega),ah q1',au (by rw [(hpk (by omega)).2];exact aF c3)]
    refine kP H (SC (aM K9 rfl ?_));clear H K9;intro a H;refine lr H results153 rfl ?_
    first
     | exact H.rt (av vi e0.symm)
     | exact H.rt (av vi e4.symm)
     | exact H.rt (av vi e7.symm)
     | exact H.rt (av vi e13.symm)
     | exact H.rt (av vi e3.symm)
     | exact H.rt (av vi e6.symm)
     | exact H.rt (av vi (by rw [jD,mO,au (by omega)]))
   skip;refine dI hmx [[],[0],[0,1],[0,1,2],(ra 0 4),[0,1,2],[0,1,2],[0,1,2,6],[0,1,2,5,6,7],[0,1,2,5,6,7,8],[0,1,2,5,6,7,8,9],(ra 0 11),(ra 0 12),(ra 0 13)] [13] (by kernel_rfl) [_,_,_,_,vi x.id,_,_,vi ((k - 1:Nat):Int),_,_,_,_,_] H (aI (Z0 rfl (Rm rfl)) (Z1 0 38 rfl (Rc rfl)) (Z1 1 39 rfl (Rm rfl)) (Z1 2 40 rfl (YF vV (aF c0) rfl)) (aI (Z2 3 41 2 40 rfl (YO aD 0 (aF c0) rfl)) (Z1 2 40 rfl (YM (aF c0) rfl)) (Z1 2 40 rfl (YM (aF c0) rfl)) ?_ (aI (Z3 5 43 7 45 2 40 rfl (YI nD kL (aF c0) rfl rfl)) (Z2 8 46 2 40 rfl (YF vV (aF c0) rfl)) (X2 9 47 2 40 rfl fun hG=>YR aD (aF c0) rfl (aH hG (aH tT (hpk (by omega)).1))) (Z3 4 42 10 48 2 40 rfl (YC (aF c0) rfl)) (bC (Z2 2 40 11 49 rfl (Pt (aF c0) rfl)) (bC (cu rfl) dN))))) ?_
   ·refine eU 6 44 2 40 rfl rfl fun _ a w G1 hG HT H fin=>?_;refine mD _ H (wg H rfl rfl (aF c0)) rfl rfl rfl (by omega) (by omega) rfl ?_;clear H;intro a H;exact fin H iJ (by show _=_;first|rfl|exact av vi (by omega))
   clear H;intro a w G lS H hv;have H:=H.bg (hv 12 50 rfl rfl) rfl;clear hv;refine kH H (Ra rfl ?_);clear H;intro a H;refine aJ ⟨rfl,?_⟩;refine K8 _ _ ?_;clear K8;refine oh H rfl (aP c3) ?_;refine aN (fun _ aV=>?_)
   have q2:¬ (0 < (k:Int)∧x.id < pk):=by first|exact fun h=>c3 h.2|exact fun h=>c0 h.1
   have q2':¬ Ju (Ab l k) x.id=true:=fun h=>q2 (by
    by_cases h0:0 < k
    ·rw [(hpk h0).2] at h;exact ⟨by omega,oD h⟩
    rw [Ph (by omega)] at h
    cases h)
   refine kP H (SC (aT yL aD 0 rfl rfl (Rc rfl (Rm rfl (Sp 55 rfl ?_ ?_))))) <;> clear H
   ·intro ng a H
    try have p55:=dT ng
    refine kH H (YF yL ng rfl (YO aD 0 ng rfl (YC ng rfl (Pt ng rfl (aM aV rfl (Cd rfl ?_ ?_)))))) <;> clear H aV
    ·intro lC a H
     try have p51:=dT lC
     refine aN (fun _ bF=>?_)
     have e3:jD l k x=3:=by rw [jD,mO,ah (by omega),ah q1',ah q2',au (by omega)]
     refine kP H (SC (aM bF rfl ?_));clear H bF;intro a H;refine lr H results153 rfl ?_
     first
      | exact H.rt (av vi e0.symm)
      | exact H.rt (av vi e4.symm)
      | exact H.rt (av vi e7.symm)
      | exact H.rt (av vi e13.symm)
      | exact H.rt (av vi e3.symm)
      | exact H.rt (av vi e6.symm)
      | exact H.rt (av vi (by rw [jD,mO,au (by omega)]))
    intro lC a H
    try have p51:=dF lC
    refine kP H (SR fun _ bG=>aT IV gW 0 rfl rfl ?_);clear H;intro a H;refine s_call Nz H wn rfl (OJ _ _ H.ro x.name hs) rfl ?_;clear H;rintro v63 Fy a w rfl hm63 H;refine kH H (Rn rfl (ak bG rfl (Cd rfl ?_ ?_))) <;> clear H bG
    ·intro eY a H
     try have p60:=dT eY
     refine aN (fun _ bM=>?_)
     have e13:jD l k x=13:=by rw [jD,mO,ah (by omega),ah q1',ah q2',ah (by omega),au (by simpa using eY)]
     refine kP H (SC (aM bM rfl ?_));clear H bM;intro a H;refine lr H results153 rfl ?_
     first
      | exact H.rt (av vi e0.symm)
      | exact H.rt (av vi e4.symm)
      | exact H.rt (av vi e7.symm)
      | exact H.rt (av vi e13.symm)
      | exact H.rt (av vi e3.symm)
      | exact H.rt (av vi e6.symm)
      | exact H.rt (av vi (by rw [jD,mO,au (by omega)]))
    intro eY a H
    try have p60:=dF eY
    refine fF ?_;refine ⟨Fy,by exact (H).sub ⟨rfl,rfl,rfl,aB⟩,?_⟩;exact ⟨by omega,q1',q2',by omega,by simpa using eY,fun b o h=>hm63 b o (lS b o (tT b o h))⟩
   intro ng a H
   try have p55:=dF ng
   refine kH H (aZ ng rfl (Pf ng rfl (aM aV rfl (Cf rfl rfl (SR fun _ bN=>aT IV gW 0 rfl rfl ?_)))));clear H aV;intro a H;refine s_call Nz H wn rfl (OJ _ _ H.ro x.name hs) rfl ?_;clear H;rintro v63 Fy a w rfl hm63 H;refine kH H (Rn rfl (ak bN rfl (Cd rfl ?_ ?_))) <;> clear H bN
   ·intro eY a H
    try have p60:=dT eY
    refine aN (fun _ bW=>?_)
    have e13:jD l k x=13:=by rw [jD,mO,ah (by omega),ah q1',ah q2',ah (by omega),au (by simpa using eY)]
    refine kP H (SC (aM bW rfl ?_));clear H bW;intro a H;refine lr H results153 rfl ?_
    first
     | exact H.rt (av vi e0.symm)
     | exact H.rt (av vi e4.symm)
     | exact H.rt (av vi e7.symm)
     | exact H.rt (av vi e13.symm)
     | exact H.rt (av vi e3.symm)
     | exact H.rt (av vi e6.symm)
     | exact H.rt (av vi (by rw [jD,mO,au (by omega)]))
   intro eY a H
   try have p60:=dF eY
   refine fF ?_;refine ⟨Fy,by exact (H).sub ⟨rfl,rfl,rfl,aB⟩,?_⟩;exact ⟨by omega,q1',q2',by omega,by simpa using eY,fun b o h=>hm63 b o (lS b o (tT b o h))⟩
  skip;refine dI hmx [[],[0],[0,1],[0,1,2],(ra 0 4),[0,1,2],[0,1,2],[0,1,2,6],[0,1,2,5,6,7],[0,1,2,5,6,7,8],[0,1,2,5,6,7,8,9],(ra 0 11),(ra 0 12),(ra 0 13)] [13] (by kernel_rfl) [_,_,_,undef,undef,undef,undef,undef,undef,undef,undef,undef,_] H (aI (Z0 rfl (Rm rfl)) (Z1 0 24 rfl (Rc rfl)) (Z1 1 25 rfl (Rm rfl)) (aW (j:=2) (by kernel_rfl) (fun _ _ _ _ _ h=>h) rfl rfl rfl rfl rfl (fun _ _ h=>aY h (aL (aP c0))) rfl (fun _=>rfl)) (aI (aW (j:=2) (by kernel_rfl) (fun _ _ _ _ _ h=>h) rfl rfl rfl rfl rfl (fun _ _ h=>aY h (aL (aP c0))) rfl (fun _=>rfl)) (aW (j:=2) (by kernel_rfl) (fun _ _ _ _ _ h=>h) rfl rfl rfl rfl rfl (fun _ _ h=>aY h (aL (aP c0))) rfl (fun _=>rfl)) (aW (j:=2) (by kernel_rfl) (fun _ _ _ _ _ h=>h) rfl rfl rfl rfl rfl (fun _ _ h=>aY h (aL (aP c0))) rfl (fun _=>rfl)) (aW (j:=2) (by kernel_rfl) (fun _ _ _ _ _ h=>h) rfl rfl rfl rfl rfl (fun _ _ h=>aY h (aL (aP c0))) rfl (fun _=>rfl)) (aI (aW (j:=2) (by kernel_rfl) (fun _ _ _ _ _ h=>h) rfl rfl rfl rfl rfl (fun _ _ h=>aY h (aL (aP c0))) rfl (fun _=>rfl)) (aW (j:=2) (by kernel_rfl) (fun _ _ _ _ _ h=>h) rfl rfl rfl rfl rfl (fun _ _ h=>aY h (aL (aP c0))) rfl (fun _=>rfl)) (aW (j:=2) (by kernel_rfl) (fun _ _ _ _ _ h=>h) rfl rfl rfl rfl rfl (fun _ _ h=>aY h (aL (aP c0))) rfl (fun _=>rfl)) (aW (j:=2) (by kernel_rfl) (fun _ _ _ _ _ h=>h) rfl rfl rfl rfl rfl (fun _ _ h=>aY h (aL (aP c0))) rfl (fun _=>rfl)) (bC (Z2 2 26 11 35 rfl (Pf (aP c0) rfl)) (bC (cu rfl) dN))))) ?_
  clear H;intro a w G tT H hv;have H:=H.bg (hv 12 36 rfl rfl) rfl;clear hv;refine kH H (Ra rfl ?_);clear H;intro a H;refine aJ ⟨rfl,?_⟩;refine K6 _ _ ?_;clear K6;refine oh H rfl rfl ?_;refine aN (fun _ cK=>?_)
  have q1:¬ (0 < (k:Int)∧x.id=pk):=by first|exact fun h=>c1 h.2|exact fun h=>c0 h.1
  have q1':¬ Ab l k=some x.id:=fun h=>q1 (by
   by_cases h0:0 < k
   ·rw [(hpk h0).2] at h
    injection h with h
    exact ⟨by omega,h.symm⟩
   rw [Ph (by omega)] at h
   cases h)
  refine dI hmx [[],[0],[0,1],[0,1,2],(ra 0 4),[0,1,2],[0,1,2],[0,1,2,6],[0,1,2,5,6,7],[0,1,2,5,6,7,8],[0,1,2,5,6,7,8,9],(ra 0 11),(ra 0 12),(ra 0 13)] [13] (by kernel_rfl) [_,_,_,undef,undef,undef,undef,undef,undef,undef,undef,undef,_] H (aI (Z0 rfl (Rm rfl)) (Z1 0 38 rfl (Rc rfl)) (Z1 1 39 rfl (Rm rfl)) (aW (j:=2) (by kernel_rfl) (fun _ _ _ _ _ h=>h) rfl rfl rfl rfl rfl (fun _ _ h=>aY h (aL (aP c0))) rfl (fun _=>rfl)) (aI (aW (j:=2) (by kernel_rfl) (fun _ _ _ _ _ h=>h) rfl rfl rfl rfl rfl (fun _ _ h=>aY h (aL (aP c0))) rfl (fun _=>rfl)) (aW (j:=2) (by kernel_rfl) (fun _ _ _ _ _ h=>h) rfl rfl rfl rfl rfl (fun _ _ h=>aY h (aL (aP c0))) rfl (fun _=>rfl)) (aW (j:=2) (by kernel_rfl) (fun _ _ _ _ _ h=>h) rfl rfl rfl rfl rfl (fun _ _ h=>aY h (aL (aP c0))) rfl (fun _=>rfl)) (aW (j:=2) (by kernel_rfl) (fun _ _ _ _ _ h=>h) rfl rfl rfl rfl rfl (fun _ _ h=>aY h (aL (aP c0))) rfl (fun _=>rfl)) (aI (aW (j:=2) (by kernel_rfl) (fun _ _ _ _ _ h=>h) rfl rfl rfl rfl rfl (fun _ _ h=>aY h (aL (aP c0))) rfl (fun _=>rfl)) (aW (j:=2) (by kernel_rfl) (fun _ _ _ _ _ h=>h) rfl rfl rfl rfl rfl (fun _ _ h=>aY h (aL (aP c0))) rfl (fun _=>rfl)) (aW (j:=2) (by kernel_rfl) (fun _ _ _ _ _ h=>h) rfl rfl rfl rfl rfl (fun _ _ h=>aY h (aL (aP c0))) rfl (fun _=>rfl)) (aW (j:=2) (by kernel_rfl) (fun _ _ _ _ _ h=>h) rfl rfl rfl rfl rfl (fun _ _ h=>aY h (aL (aP c0))) rfl (fun _=>rfl)) (bC (Z2 2 40 11 49 rfl (Pf (aP c0) rfl)) (bC (cu rfl) dN))))) ?_
  clear H;intro a w G lS H hv;have H:=H.bg (hv 12 50 rfl rfl) rfl;clear hv;refine kH H (Ra rfl ?_);clear H;intro a H;refine aJ ⟨rfl,?_⟩;refine cK _ _ ?_;clear cK;refine oh H rfl rfl ?_;refine aN (fun _ bS=>?_)
  have q2:¬ (0 < (k:Int)∧x.id < pk):=by first|exact fun h=>c3 h.2|exact fun h=>c0 h.1
  have q2':¬ Ju (Ab l k) x.id=true:=fun h=>q2 (by
   by_cases h0:0 < k
   ·rw [(hpk h0).2] at h;exact ⟨by omega,oD h⟩
   rw [Ph (by omega)] at h
   cases h)
  refine kP H (SC (aT yL aD 0 rfl rfl (Rc rfl (Rm rfl (Sp 55 rfl ?_ ?_))))) <;> clear H
  ·intro ng a H
   try have p55:=dT ng
   refine kH H (YF yL ng rfl (YO aD 0 ng rfl (YC ng rfl (Pt ng rfl (aM bS rfl (Cd rfl ?_ ?_)))))) <;> clear H bS
   ·intro lC a H
    try have p51:=dT lC
    refine aN (fun _ dD=>?_)
    have e3:jD l k x=3:=by rw [jD,mO,ah (by omega),ah q1',ah q2',au (by omega)]
    refine kP H (SC (aM dD rfl ?_));clear H dD;intro a H;refine lr H results153 rfl ?_
    first
     | exact H.rt (av vi e0.symm)
     | exact H.rt (av vi e4.symm)
     | exact H.rt (av vi e7.symm)
     | exact H.rt (av vi e13.symm)
     | exact H.rt (av vi e3.symm)
     | exact H.rt (av vi e6.symm)
     | exact H.rt (av vi (by rw [jD,mO,au (by omega)]))
   intro lC a H
   try have p51:=dF lC
   refine kP H (SR fun _ dO=>aT IV gW 0 rfl rfl ?_);clear H;intro a H;refine s_call Nz H wn rfl (OJ _ _ H.ro x.name hs) rfl ?_;clear H;rintro v63 Fy a w rfl hm63 H;refine kH H (Rn rfl (ak dO rfl (Cd rfl ?_ ?_))) <;> clear H dO
   ·intro eY a H
    try have p60:=dT eY
    refine aN (fun _ dK=>?_)
    have e13:jD l k x=13:=by rw [jD,mO,ah (by omega),ah q1',ah q2',ah (by omega),au (by simpa using eY)]
    refine kP H (SC (aM dK rfl ?_));clear H dK;intro a H;refine lr H results153 rfl ?_
    first
     | exact H.rt (av vi e0.symm)
     | exact H.rt (av vi e4.symm)
     | exact H.rt (av vi e7.symm)
     | exact H.rt (av vi e13.symm)
     | exact H.rt (av vi e3.symm)
     | exact H.rt (av vi e6.symm)
     | exact H.rt (av vi (by rw [jD,mO,au (by omega)]))
   intro eY a H
   try have p60:=dF eY
   refine fF ?_;refine ⟨Fy,by exact (H).sub ⟨rfl,rfl,rfl,aB⟩,?_⟩;exact ⟨by omega,q1',q2',by omega,by simpa using eY,fun b o h=>hm63 b o (lS b o (tT b o h))⟩
  intro ng a H
  try have p55:=dF ng
  refine kH H (aZ ng rfl (Pf ng rfl (aM bS rfl (Cf rfl rfl (SR fun _ dS=>aT IV gW 0 rfl rfl ?_)))));clear H bS;intro a H;refine s_call Nz H wn rfl (OJ _ _ H.ro x.name hs) rfl ?_;clear H;rintro v63 Fy a w rfl hm63 H;refine kH H (Rn rfl (ak dS rfl (Cd rfl ?_ ?_))) <;> clear H dS
  ·intro eY a H
   try have p60:=dT eY
   refine aN (fun _ eP=>?_)
   have e13:jD l k x=13:=by rw [jD,mO,ah (by omega),ah q1',ah q2',ah (by omega),au (by simpa using eY)]
   refine kP H (SC (aM eP rfl ?_));clear H eP;intro a H;refine lr H results153 rfl ?_
   first
    | exact H.rt (av vi e0.symm)
    | exact H.rt (av vi e4.symm)
    | exact H.rt (av vi e7.symm)
    | exact H.rt (av vi e13.symm)
    | exact H.rt (av vi e3.symm)
    | exact H.rt (av vi e6.symm)
    | exact H.rt (av vi (by rw [jD,mO,au (by omega)]))
  intro eY a H
  try have p60:=dF eY
  refine fF ?_;refine ⟨Fy,by exact (H).sub ⟨rfl,rfl,rfl,aB⟩,?_⟩;exact ⟨by omega,q1',q2',by omega,by simpa using eY,fun b o h=>hm63 b o (lS b o (tT b o h))⟩
 clear H;intro g a w hI H;obtain ⟨q0,q1',q2',q3,q4,hgm⟩:=hI;dsimp only [lca,aO] at H;refine aN (fun _ gG=>?_);refine aN (fun _ gT=>?_);have aal:=(hv.mono hgm).pre k (by rw [bQ];omega);rw [← List.map_take] at aal;have ajq:=hp.mono hgm;refine dI hmx [[],[],[0,1],[],[3],[],[5],(ra 0 7),(ra 0 8),(ra 0 9),(ra 0 9),(ra 0 10),(ra 0 12)] [12] (by kernel_rfl) [_,_,.slice (some ⟨b,o,none⟩) k c,_,vi x.kind,_,.string x.name,.tuple #[vi (max (qp (Ez (l.take k) x.kind x.name)) 0),.bool (Ez (l.take k) x.kind x.name).isSome],_,vi (max (qp (Ez (l.take k) x.kind x.name)) 0),.bool (Ez (l.take k) x.kind x.name).isSome,_] H (aI (Z0 rfl (Rm rfl)) (Z0 rfl (Rm rfl)) ?_ (Z0 rfl (Rf yL rfl)) (aI (Z1 3 69 rfl (Ro aD 0 rfl)) (Z0 rfl (Rf IV rfl)) (Z1 5 71 rfl (Ro gW 0 rfl)) ?_ (aI (Z1 7 73 rfl (Rm rfl)) ?_ ?_ (Z1 9 74 rfl (Ra rfl)) (bC (cu rfl) dN)))) ?_
 ·refine eU 0 66 1 67 rfl rfl fun _ a w G1 hG HT H fin=>?_;refine VI nD kL k H wn rfl rfl rfl (by omega) rfl ?_;clear H;intro a H;exact fin H iJ rfl
 ·refine vK 2 68 4 70 6 72 rfl rfl fun _ a w G1 hG HT H fin=>?_;refine s_call afV H wn rfl (aho _ _ H.ro (l.take k) x.kind x.name _ (aal.mono hG)) rfl ?_;clear H;rintro v73 G73 a w rfl ahS H;exact fin H ahS (rfl)
 ·refine eF 8 65 rfl rfl fun _ a w G1 hG HT H fin=>?_;refine nA H wn rfl rfl rfl ?_;clear H;intro a H;exact fin H iJ rfl
 ·refine eF 8 65 rfl rfl fun _ a w G1 hG HT H fin=>?_;refine nA H wn rfl rfl rfl ?_;clear H;intro a H;exact fin H iJ rfl
 clear H;intro a w G sG H hv;have H:=H.bg (hv 10 75 rfl rfl) rfl;clear hv;refine kH H (Ra rfl ?_);clear H;intro a H;refine aJ ⟨rfl,?_⟩;refine gT _ _ ?_;clear gT;refine kP H (SR fun _ gM=>Rm rfl (Kz gM (Cd rfl ?_ ?_))) <;> clear H gM
 ·intro rF a H
  try have Vr:=dT rF
  refine aN (fun _ jf=>?_)
  have e7:jD l k x=7:=by rw [jD,mO,ah (by omega),ah q1',ah q2',ah q3,ah q4,au rF]
  refine kP H (SC (aM jf rfl ?_));clear H jf;intro a H;refine lr H results153 rfl ?_
  first
   | exact H.rt (av vi e0.symm)
   | exact H.rt (av vi e4.symm)
   | exact H.rt (av vi e7.symm)
   | exact H.rt (av vi e13.symm)
   | exact H.rt (av vi e3.symm)
   | exact H.rt (av vi e6.symm)
   | exact H.rt (av vi (by rw [jD,mO,au (by omega)]))
 intro rF a H
 try have Vr:=dF rF
 refine kP H (Kc gG (SQ fun _ jq=>SQ fun _ iQ=>?_));clear H gG;intro a H
 have q5:¬ (Ez (l.take k) x.kind x.name).isSome=true:=by simpa using rF
 have EO:=ajq.mono sG;refine kP H (SC (aT Ry zx 0 rfl rfl (Rl sQ rfl (Rm rfl (Kn iQ (SB ?_))))));clear H iQ;intro a H;skip;refine eT (ι:=Nat) (Tc:=[(5,_),(78,_),(79,_)]) (Lc:=[(_,_)]) (fun gh=>[(80,vi gh)]) (fun gh=>[]) (fun gh=>G) (fun gh=>gh≤x.props.length∧(x.props.take gh).any (fun p=>Iw p.key)=false) (fun gh=>x.props.length - gh) (0) (by exact (H).sub ⟨rfl,rfl,rfl,rfl,aB⟩) ?_ ?_
 ·exact ⟨gX _,rfl⟩
 clear H;intro n a w hI H;obtain ⟨hn,hno⟩:=hI;dsimp only [lca,aO] at H;refine kP H (SR fun _ kT=>Rc rfl (Kz kT (SQ fun _ kU=>Cd rfl ?_ ?_))) <;> clear H kT
 ·intro rG a H
  try have zZ:=dT rG
  have hn2:n < x.props.length:=by omega
  obtain ⟨pb,po,rfl,hrow2⟩:=Mi EO hn2;have hrow:=hrow2;refine kP H (Kc kU (SQ fun _ jG=>SB (SR fun _ kZ=>Ri sQ sP rfl rfl ?_)));clear H kU;intro a H;refine bP sP (cs:=[_,_]) H wn rfl rfl (fun j v hj=>H.hp.aG (hrow j v hj)) rfl ?_;clear H;intro a H;refine eH sP H wn rfl ?_;clear H;intro b9 a w wD H;refine bT sP 0 (vs:=[_,_]) _ H wn rfl rfl rfl rfl rfl rfl rfl rfl ?_;clear H;intro w H;dsimp only [List.set,setRow] at H;refine kZ _ _ ?_;clear kZ;refine kP H (SR fun _ lg=>aT xB aD 0 rfl rfl (Rc rfl (Rm rfl (Sp 87 rfl ?_ ?_)))) <;> clear H
  ·intro h87 a H
   try have Vv:=dT h87
   refine kH H (aZ h87 rfl (Pt h87 rfl (Kz lg (Ct rfl rfl (SQ fun _ lK=>?_)))));clear H lg;intro a H
   have e4:jD l k x=4:=by
    rw [jD,mO,ah (by omega),ah q1',ah q2',ah q3,ah q4,ah q5,au];rw [List.any_eq_true];exact ⟨x.props[n],jv hn2,by simp [Iw];omega⟩
   refine kP H (SC (aM lK rfl ?_));clear H lK;intro a H;refine lr H results153 rfl ?_
   first
    | exact H.rt (av vi e0.symm)
    | exact H.rt (av vi e4.symm)
    | exact H.rt (av vi e7.symm)
    | exact H.rt (av vi e13.symm)
    | exact H.rt (av vi e3.symm)
    | exact H.rt (av vi e6.symm)
    | exact H.rt (av vi (by rw [jD,mO,au (by omega)]))
  intro h87 a H
  try have Vv:=dF h87
  refine kH H (YF xB h87 rfl (YO aD 0 h87 rfl (YC h87 rfl (Pf h87 rfl (Kz lg (Cd rfl ?_ ?_)))))) <;> clear H lg
  ·intro zQ a H
   try have zl:=dT zQ
   refine aN (fun _ lM=>?_)
   have e4:jD l k x=4:=by
    rw [jD,mO,ah (by omega),ah q1',ah q2',ah q3,ah q4,ah q5,au];rw [List.any_eq_true];exact ⟨x.props[n],jv hn2,by simp [Iw];omega⟩
   refine kP H (SC (aM lM rfl ?_));clear H lM;intro a H;refine lr H results153 rfl ?_
   first
    | exact H.rt (av vi e0.symm)
    | exact H.rt (av vi e4.symm)
    | exact H.rt (av vi e7.symm)
    | exact H.rt (av vi e13.symm)
    | exact H.rt (av vi e3.symm)
    | exact H.rt (av vi e6.symm)
    | exact H.rt (av vi (by rw [jD,mO,au (by omega)]))
  intro zQ a H
  try have zl:=dF zQ
  refine kP H (Kc jG (SC (Rd rfl (Rm rfl ?_))));clear H jG;intro a H;refine aJ ?_;refine dH ((n+1)) (by exact (H.dB (Pl:=[_,_]) (cB:=[_]) [1] (by decide) rfl).sub ⟨rfl,rfl,rfl,rfl,aB⟩) ?_ ?_
  ·exact ⟨by omega,by rw [mV hn2,List.any_append,hno];simp [Iw];omega⟩
  first|omega|(dsimp only;omega)
 intro rG a H
 try have zZ:=dF rG
 refine dR ?_;refine jq _ _ ?_;clear jq;refine aN (fun _ lN=>?_)
 have q6:¬ x.props.any (fun p=>Iw p.key)=true:=by
  rw [show x.props.take n=x.props from lZ (by omega)] at hno;rw [hno];decide
 have e0:jD l k x=iO (if x.kind=1 then 2 else 1) x.props:=by rw [jD,mO,ah (by omega),ah q1',ah q2',ah q3,ah q4,ah q5,ah q6]
 refine dI hmx [[],[0],[0,1],[],[3],(ra 0 5),(ra 0 6)] [5,6] (by kernel_rfl) [_,vi x.kind,vi (if x.kind=1 then 2 else 1),_,.slice pA x.props.length pc] H (aI (Z0 rfl (Rf yL rfl)) (Z1 0 93 rfl (Ro aD 0 rfl)) ?_ (Z0 rfl (Rf Ry rfl)) (bC (Z1 3 96 rfl (Ro zx 0 rfl)) (bC (cu rfl) (bC (cu rfl) dN)))) ?_
 ·refine eF 1 94 rfl rfl fun _ a w G1 hG HT H fin=>?_;refine s_call afW H wn rfl (afk _ _ H.ro x.kind) rfl ?_;clear H;rintro v95 G95 a w rfl ahU H;exact fin H ahU (rfl)
 clear H;intro a w G I6 H hv;have H:=H.bg (hv 2 95 rfl rfl) rfl;have H:=H.bg (hv 4 97 rfl rfl) rfl;clear hv;refine s_call Rq H wn rfl (Vz _ _ H.ro _ x.props _ (EO.mono I6)) rfl ?_;clear H;rintro v98 WU a w rfl Ji H;refine kH H (Ra rfl ?_);clear H;intro a H;refine aJ ⟨rfl,?_⟩;refine lN _ _ ?_;clear lN;refine lr H results153 rfl ?_
 first
  | exact H.rt (av vi e0.symm)
  | exact H.rt (av vi e4.symm)
  | exact H.rt (av vi e7.symm)
  | exact H.rt (av vi e13.symm)
  | exact H.rt (av vi e3.symm)
  | exact H.rt (av vi e6.symm)
  | exact H.rt (av vi (by rw [jD,mO,au (by omega)]))
end
section
open Go.RowKit
theorem Aj:Ty prog 33 1 24 [.slice none 0 0] false:=⟨by kernel_rfl,by kernel_rfl⟩
theorem zB:prog.underlying 33=some (.slice 164):=by kernel_rfl
theorem xU:Ty prog 164 6 64 [.int .i64 0,.int .i64 0,.string ⟨#[]⟩,.int .i64 0,.string ⟨#[]⟩,.bool false] true:=⟨by kernel_rfl,by kernel_rfl⟩
theorem KH:dJ prog 164 0 0:=⟨by kernel_rfl⟩
theorem NJ:dJ prog 164 1 1:=⟨by kernel_rfl⟩
theorem agk:∀ args w,(callFunc 219 args).run prog w=.ok (.enter 219 args) w:=enters func219 rfl (by kernel_rfl)
theorem afR:∀ args w,(callFunc 187 args).run prog w=.ok (.enter 187 args) w:=enters func187 rfl (by kernel_rfl)
theorem Y2:dJ prog 164 2 2:=⟨by kernel_rfl⟩
theorem Yv:∀ args w,(callFunc 133 args).run prog w=.ok (.enter 133 args) w:=enters func133 rfl (by kernel_rfl)
theorem RA:dJ prog 164 3 3:=⟨by kernel_rfl⟩
theorem Y3:dJ prog 164 4 4:=⟨by kernel_rfl⟩
theorem Q5:∀ args w,(callFunc 190 args).run prog w=.ok (.enter 190 args) w:=enters func190 rfl (by kernel_rfl)
theorem afT:∀ args w,(callFunc 189 args).run prog w=.ok (.enter 189 args) w:=enters func189 rfl (by kernel_rfl)
theorem afS:∀ args w,(callFunc 188 args).run prog w=.ok (.enter 188 args) w:=enters func188 rfl (by kernel_rfl)
theorem afQ:∀ args w,(callFunc 186 args).run prog w=.ok (.enter 186 args) w:=enters func186 rfl (by kernel_rfl)
theorem Hl {G:GH} {b:Nat} (l:List Int) (h:G b=some (.cells (l.map vi).toArray 42 (0,0))) (hl:l.length≤maxLen):aC G (.sl 1 (l.map fun k=>[li k])) (.slice (some ⟨b,0,none⟩) l.length l.length) :=
 aC.eZ h (by simp) (dw _) hl (lZ (by simp)) (fQ G l)
theorem IE {G:GH} {l:List jd} {A:Option Addr} {n c k:Nat} (hv:aC G (.sl 6 (l.map jd.dat)) (.slice A n c)) (hk:k < l.length):∃ b o,A=some ⟨b,o,none⟩∧(∀ j u,l[k].cells[j]?=some u→aG G b (o+k*6+j)=some u)∧bJ G l[k].dat l[k].cells:=by
 obtain ⟨A',c',he,_,_,hg⟩:=hv.slice
 injection he with e1 e2 e3
 subst e1;obtain ⟨b,o,cs,h1,h2,h3,h4⟩:=hg k l[k].dat (by simp [hk]);have:=Yd h4;subst this;exact ⟨b,o,h1,h3,h4⟩
theorem aeS {G:GH} {bl:Nat} {l:List jd} {A:Option Addr} {n c:Nat} (hb:aG G bl 0=some (.slice A n c)) (hv:aC G (.sl 6 (l.map jd.dat)) (.slice A n c)):uE (.func (.func 189) #[] #[(aQ bl 0)]) G l.length fun k=>(l[k]?.map jd.id).getD 0:=by
 intro k hk G1 w0 hm hG;refine nK (caps:=[(aQ bl 0)]) afT ?_;replace hb:=aH hm hb
 obtain rfl:n=l.length:=by have:=hv.len;simpa using this
 obtain ⟨b,o,rfl,hrow,-⟩:=IE (hv.mono hm) hk;have hq:=hrow 0 _ rfl;refine eN [(0,_),(1,_)] func189 rfl ntmps189 rfl rfl hG ?_;intro a H;refine kP H (SR fun _ K1=>ak K1 rfl (SR fun _ K2=>Rg Aj rfl (by assumption) ?_));clear H K1;intro a H;refine kH H (Rm rfl (Ri zB xU rfl rfl (Rf KH rfl (Rg aD rfl (by assumption) ?_))));clear H;intro a H;exact kH H (ak K2 rfl (LR results189 rfl fun H=>H.rt (by dsimp only;rw [fP hk];rfl)))
theorem aeU {G:GH} {bc:Nat} {x:jd} (hb:aG G bc 1=some (vi x.parent)) (y:jd):vN (.func (.func 188) #[] #[(aQ bc 0)]) G y.dat (decide (y.id=x.parent)):=by
 intro G1 w0 cs hm hG hr;refine nK (caps:=[(aQ bc 0)]) afS ?_;obtain rfl:=Yd hr;replace hb:=aH hm hb;refine eN [(0,_),(1,_)] func188 rfl ntmps188 rfl rfl hG ?_;intro a H;refine dh (fun _ K1=>?_);refine fB (cs:=[_,_,_,_,_,_]) H wn rfl rfl rfl ?_;clear H;intro b2 a w hb2 H;refine kH H (ak K1 rfl (SR fun _ K2=>aT KH aD 0 rfl rfl (Rf NJ rfl (Rg aD rfl (by assumption) ?_))));clear H K1;intro a H;exact kH H (Rc rfl (ak K2 rfl (LR results188 rfl fun H=>H.rt rfl)))
theorem akn (G:GH) (w0:World) (hG:Hold G w0) (l:List jd) (p:jd→Bool) (v fv:aj) (hv:aC G (.sl 6 (l.map jd.dat)) v) (hf:∀ x∈l,vN fv G x.dat (p x)) :
  Calls prog 219 #[v,fv] w0 (bY w0 G fun u G'=>u=vi (qp (l.findIdx? p))):=by
 obtain ⟨A,c,rfl,hc1,hc2,hg⟩:=hv.slice;have hml:maxLen=9223372036854775807:=rfl;rw [bQ] at *;refine eN [(0,_),(1,_)] func219 rfl ntmps219 rfl rfl hG ?_;intro a H;refine kP H (SR fun _ K1=>ak K1 rfl (SQ fun _ K2=>SR fun _ K3=>Rm rfl (Rl zB rfl (Rm rfl (Kz K3 (SB ?_))))));clear H K1 K3;intro a H;skip;refine eT (ι:=Nat × GH) (Tc:=[(0,_),(1,_),(7,_)]) (Lc:=[]) (fun gh=>[(8,vi gh.1)]) (fun gh=>[]) (fun gh=>gh.2) (fun gh=>gh.1≤l.length∧(l.take gh.1).findIdx? p=none∧(∀ b o,G b=some o→gh.2 b=some o)) (fun gh=>l.length - gh.1) ((0,G)) (by exact (H).sub ⟨rfl,rfl,rfl,rfl,aB⟩) ?_ ?_
 ·exact ⟨by omega,rfl,fun _ _ h=>h⟩
 clear H;rintro ⟨k,g⟩ a w hI H;dsimp only at hI H;obtain ⟨hk,hno,hgm⟩:=hI;dsimp only [lca,aO] at H;refine kP H (SR fun _ K4=>Rc rfl (Kz K4 (SQ fun _ K5=>Cd rfl ?_ ?_))) <;> clear H K4
 ·intro h9 a H
  try have p9:=dT h9
  have hk2:k < l.length:=by omega
  obtain ⟨b,o,rfl,hrow,hrep⟩:=IE hv hk2;refine kP H (Kc K5 (SQ fun _ K6=>SB (SR fun _ K7=>Rm rfl (ak K7 rfl (SR fun _ K8=>Rm rfl (Rm rfl (Rm rfl (Ri zB xU rfl rfl ?_))))))));clear H K5 K7;intro a H;refine bP xU (cs:=l[k].cells) H wn rfl rfl (fun j v hj=>H.hp.aG (aH hgm (hrow j v hj))) rfl ?_;clear H;intro a H;refine vg H wn rfl rfl (hf _ (jv hk2) _ _ _ hgm H.ro (hrep.mono hgm)) rfl ?_;clear H;rintro v16 yx a w rfl uT H;refine K8 _ _ ?_;clear K8;refine qF H rfl ?_ ?_
  ·intro h16
   try have p16:=dT h16
   refine kP H (SR fun _ K9=>Rm rfl (ak K9 rfl ?_));clear H K9;intro a H;refine lr H results219 rfl ?_
   first
    | exact H.rt (by rw [za hk2 hno h16];rfl)
    | exact H.rt (by rw [show l.take k=l from lZ (by omega)] at hno;rw [hno];rfl)
  intro h16
  try have p16:=dF h16
  refine kP H (Kc K6 (SC (Rd rfl (Rm rfl ?_))));clear H K6;intro a H;refine aJ ?_;refine dH ((k+1,yx)) (by exact (H).sub ⟨rfl,rfl,rfl,rfl,aB⟩) ?_ ?_
  ·(try dsimp only);exact ⟨by omega,Hg hk2 hno h16,fun b o h=>uT b o (hgm b o h)⟩
  first|omega|(dsimp only;omega)
 intro h9 a H
 try have p9:=dF h9
 refine dR ?_;refine K2 _ _ ?_;clear K2;refine kP H (SR fun _ aV=>ak aV rfl ?_);clear H aV;intro a H;refine lr H results219 rfl ?_
 first
  | exact H.rt (by rw [za hk2 hno h16];rfl)
  | exact H.rt (by rw [show l.take k=l from lZ (by omega)] at hno;rw [hno];rfl)
theorem aeW (G:GH) (w0:World) (hG:Hold G w0) (l:List jd) (p:jd→Bool) (v fv:aj) (hv:aC G (.sl 6 (l.map jd.dat)) v) (hf:∀ x∈l,vN fv G x.dat (p x)) :
  Calls prog 187 #[v,fv] w0 (bY w0 G fun u G'=>u=.bool (l.findIdx? p).isSome):=by
 obtain ⟨A,c,rfl,hc1,hc2,-⟩:=hv.slice;rw [bQ] at *;refine eN [(0,_),(1,_)] func187 rfl ntmps187 rfl rfl hG ?_;intro a H;refine kP H (SR fun _ K1=>ak K1 rfl (SR fun _ K2=>Rm rfl (Rm rfl ?_)));clear H K1;intro a H;refine s_call agk H wn rfl (akn _ _ H.ro l p _ _ hv hf) rfl ?_;clear H;rintro v7 G7 a w rfl xI H;exact kH H (Rc rfl (ak K2 rfl (LR results187 rfl fun H=>H.rt (aL (U0 _)))))
def Er (l:List jd) (i:Nat) (x:jd):Bool:=decide (x.parent=0) || ((l.take i).findIdx? fun y=>decide (y.id=x.parent)).isSome
def Az (l:List jd) (i:Nat) (x:jd):Int:=bK [kI (fun k=>(l[k]?.map jd.id).getD 0) i,bE (!Er l i x) 8,bE (!pz x.author) 39,bE (!decide (0≤x.time∧x.time≤1099511627776)) 40,rX x.text]
def tH (l:List jd) (i:Nat):Int:=match l[i]? with|some x=>Az l i x|none=>0
theorem aeR {G:GH} {bl:Nat} {l:List jd} {A:Option Addr} {n c:Nat} (hb:aG G bl 0=some (.slice A n c)) (hv:aC G (.sl 6 (l.map jd.dat)) (.slice A n c)) (hl:l.length≤4294967296) (ht:∀ x∈l,x.author.size < 4611686018427387904∧x.text.size < 4611686018427387904):uE (.func (.func 186) #[] #[(aQ bl 0)]) G l.length (tH l):=by
 intro k hk G1 w0 hm hG;refine nK (caps:=[(aQ bl 0)]) afQ ?_;replace hb:=aH hm hb;replace hv:=hv.mono hm;have hcb:=aeS hb hv;obtain ⟨_,_,hee,hvc,-,-⟩:=hv.slice
 injection hee with _ _ hcc
 subst hcc;rw [bQ] at hvc
 obtain rfl:n=l.length:=by have:=hv.len;simpa using this
 obtain ⟨b,o,rfl,hrow,hrep⟩:=IE hv hk;have hte:=ht _ (jv hk);obtain ⟨x,hx⟩:∃ x,x=l[k]:=⟨_,rfl⟩;rw [← hx] at hrow hte
 have he:tH l k=Az l k x:=by unfold tH;rw [fP hk,hx]
 refine eN [(0,_),(1,_)] func186 rfl ntmps186 rfl rfl hG ?_;intro a H;refine kP H (SR fun _ K1=>ak K1 rfl (SR fun _ K2=>Rg Aj rfl (by assumption) ?_));clear H K1;intro a H;refine kH H (Rm rfl (Ri zB xU rfl rfl ?_));clear H;intro a H;refine bP xU (cs:=x.cells) H wn rfl rfl (fun j v hj=>H.hp.aG (hrow j v hj)) rfl ?_;clear H;intro a H;refine eH xU H wn rfl ?_;clear H;intro b4 a w hb4 H;refine bT xU 0 (vs:=[_,_,_,_,_,_]) _ H wn rfl rfl rfl rfl rfl rfl rfl rfl ?_;clear H;intro w H;dsimp only [List.set,setRow] at H;obtain ⟨Ga,hma,yS,H⟩:=H.dW
 have hcell:∀ (j:Nat) (u:aj),x.cells[j]?=some u→aG Ga b4 j=some u:=fun j u hj=>by unfold aG;rw [yS];simpa using hj
 have q1:=hcell 1 _ rfl;have hbA:=aH hma hb;have aan:=(hv.mono hma).pre k (by rw [bQ];omega);rw [← List.map_take] at aan;refine K2 _ _ ?_;clear K2;refine oF (ι:=Bool × GH) (Tc:=[(0,_),(1,_),(4,_)]) (Lc:=[]) (fun gh=>[(5,.bool gh.1)]) (fun gh=>[]) (fun gh=>gh.2) (fun gh=>gh.1=Er l k x∧(∀ b o,Ga b=some o→gh.2 b=some o)) (by exact (H).sub ⟨rfl,rfl,rfl,aB⟩) ?_ ?_
 ·skip;refine kP H (SC (Rf NJ rfl (Rg aD rfl (by assumption) ?_)));clear H;intro a H;refine kH H (Rc rfl (Rm rfl (Sp 13 rfl ?_ ?_))) <;> clear H
  ·intro gy a H
   try have pO:=dT gy
   refine kH H (aZ gy rfl (aS gy rfl (Pt gy rfl (Ra rfl ?_))));clear H;intro a H;refine aJ ?_;refine ⟨(_,_),by exact (H).sub ⟨rfl,rfl,rfl,rfl,aB⟩,?_⟩;(try dsimp only)
   first
   | exact ⟨by unfold Er;rw [dQ (by assumption)];rfl,fun _ _ h=>h⟩
   | exact ⟨by unfold Er;rw [gY (by assumption)];rfl,hm18⟩
  intro gy a H
  try have pO:=dF gy
  refine kH H (YR Aj gy rfl (by assumption) ?_);clear H;intro a H;refine kH H (YM gy rfl ?_);clear H;intro a H;refine VI zB xU k H (wg H rfl rfl gy) rfl rfl rfl (by omega) rfl ?_;clear H;intro a H;refine pV H (wg H rfl rfl gy) rfl rfl ?_;clear H;intro a H;refine s_call afR H (wg H rfl rfl gy) rfl (aeW _ _ H.ro (l.take k) (fun y=>decide (y.id=x.parent)) _ _ aan (fun y _=>aeU q1 y)) rfl ?_;clear H;rintro v18 G18 a w rfl hm18 H;refine kH H (Pf gy rfl (Ra rfl ?_));clear H;intro a H;refine aJ ?_;refine ⟨(_,_),by exact (H).sub ⟨rfl,rfl,rfl,rfl,aB⟩,?_⟩;(try dsimp only)
  first
  | exact ⟨by unfold Er;rw [dQ (by assumption)];rfl,fun _ _ h=>h⟩
  | exact ⟨by unfold Er;rw [gY (by assumption)];rfl,hm18⟩
 clear H;rintro ⟨bf,g⟩ a w hI H;dsimp only at hI H;obtain ⟨hbf,hgm⟩:=hI;replace hcell:=fun j u hj=>aH hgm (hcell j u hj);replace hcb:=(hcb.mono hma).mono hgm;dsimp only [lca,aO] at H;refine aN (fun _ K3=>?_);have H:=H.sub (T':=[(0,_),(1,_),(4,_),(5,_)]) ⟨rfl,rfl,rfl,rfl,aB⟩;refine dI hmx [[],[],[0,1],[],[3],(ra 0 5),[],[6],(ra 0 8),(ra 0 9),(ra 0 10),[],[11],(ra 0 13),(ra 0 14),(ra 0 15),[],[16],(ra 0 18),(ra 0 19),(ra 0 20),(ra 0 21)] [19,20,21] (by kernel_rfl) [_,.func (.func 189) #[] #[(aQ bl 0)],vi (kI (fun k=>(l[k]?.map jd.id).getD 0) k),_,_,vi (bE (!bf) 8),_,_,.bool (pz x.author),_,vi (bE (!pz x.author) 39),_,_,.bool (decide (0≤x.time∧x.time≤1099511627776)),_,vi (bE (!decide (0≤x.time∧x.time≤1099511627776)) 40),_,_,vi (rX x.text)] H (aI (Z0 rfl (Rm rfl)) ?_ ?_ (Z0 rfl (Rm rfl)) (aI (Z1 3 23 rfl (Rn rfl)) ?_ (Z0 rfl (Rf Y2 rfl)) (X1 6 26 rfl fun hG=>Rg gW rfl (aH hG (hcell 2 _ rfl))) (aI ?_ (Z1 8 28 rfl (Rn rfl)) ?_ (Z0 rfl (Rf RA rfl)) (aI (X1 11 31 rfl fun hG=>Rg aD rfl (aH hG (hcell 3 _ rfl))) ?_ (Z1 13 33 rfl (Rn rfl)) ?_ (aI (Z0 rfl (Rf Y3 rfl)) (X1 16 36 rfl fun hG=>Rg gW rfl (aH hG (hcell 4 _ rfl))) ?_ (cu rfl) (bC (cu rfl) (bC (cu rfl) dN))))))) ?_
 ·refine BI rfl fun _ a w G1 hG HT H fin=>?_;refine pV H wn rfl rfl ?_;clear H;intro a H;exact fin H iJ rfl
 ·refine eU 0 20 1 21 rfl rfl fun _ a w G1 hG HT H fin=>?_;refine s_call QV H wn rfl (UW _ _ H.ro k _ _ (by omega) (fun i hi=>(hcb.mono hG) i (by omega))) rfl ?_;clear H;rintro v22 G22 a w rfl xE H;exact fin H xE (rfl)
 ·refine eF 4 24 rfl rfl fun _ a w G1 hG HT H fin=>?_;refine s_call jM H wn rfl (jO _ _ H.ro _ 8) rfl ?_;clear H;rintro v25 Ii a w ⟨rfl,-⟩ ahI H;exact fin H ahI (rfl)
 ·refine eF 7 27 rfl rfl fun _ a w G1 hG HT H fin=>?_;refine s_call Yv H wn rfl (XI _ _ H.ro x.author hte.1) rfl ?_;clear H;rintro v28 Qa a w ⟨rfl,-⟩ ahK H;exact fin H ahK (rfl)
 ·refine eF 9 29 rfl rfl fun _ a w G1 hG HT H fin=>?_;refine s_call jM H wn rfl (jO _ _ H.ro _ 39) rfl ?_;clear H;rintro v30 D5 a w ⟨rfl,-⟩ KW H;exact fin H KW (rfl)
 ·refine eF 12 32 rfl rfl fun _ a w G1 hG HT H fin=>?_;refine s_call yK H wn rfl (ze _ _ H.ro x.time 0 1099511627776) rfl ?_;clear H;rintro v33 G33 a w ⟨rfl,-⟩ ahL H;exact fin H ahL (rfl)
 ·refine eF 14 34 rfl rfl fun _ a w G1 hG HT H fin=>?_;refine s_call jM H wn rfl (jO _ _ H.ro _ 40) rfl ?_;clear H;rintro v35 Qb a w ⟨rfl,-⟩ SG H;exact fin H SG (rfl)
 ·refine eF 17 37 rfl rfl fun _ a w G1 hG HT H fin=>?_;refine s_call Q5 H wn rfl (V4 _ _ H.ro x.text hte.2) rfl ?_;clear H;rintro v38 WJ a w rfl ahM H;exact fin H ahM (rfl)
 clear H;intro a w G Zl H hv;have H:=H.bg (hv 2 22 rfl rfl) rfl;have H:=H.bg (hv 5 25 rfl rfl) rfl;have H:=H.bg (hv 10 30 rfl rfl) rfl;have H:=H.bg (hv 15 35 rfl rfl) rfl;have H:=H.bg (hv 18 38 rfl rfl) rfl;clear hv;refine jy qz gZ [_,_,_,_,_] [_,_,_,_,_] H wn rfl rfl rfl rfl rfl (by intro i q h;match i,h with|0,h=>exact h|1,h=>exact h|2,h=>exact h|3,h=>exact h|4,h=>exact h|n+5,h=>simp at h) rfl rfl ?_;clear H;intro b39 a w apG H;obtain ⟨WK,ZQ,aio,H⟩:=H.dW;refine s_call qZ H wn rfl (rz _ _ H.ro _ _ (Hl [kI (fun k=>(l[k]?.map jd.id).getD 0) k,bE (!bf) 8,bE (!pz x.author) 39,bE (!decide (0≤x.time∧x.time≤1099511627776)) 40,rX x.text] aio (show 5≤maxLen by decide))) rfl ?_;clear H;rintro v40 _ a w ⟨rfl,rfl⟩ - H;refine kH H (Ra rfl ?_);clear H;intro a H;refine aJ ⟨rfl,?_⟩;refine K3 _ _ ?_;clear K3;refine lr H results186 rfl ?_;exact H.rt (by rw [he,Az,← hbf])
def tC (l:List jd):Int:=bK [bE (decide (1024 < (l.length:Int))) 9,iC (tH l) (min l.length 1024)]
theorem aeG (G:GH) (w0:World) (hG:Hold G w0) (l:List jd) (v:aj) (hv:aC G (.sl 6 (l.map jd.dat)) v) (hl:l.length≤4294967296) (ht:∀ x∈l,x.author.size < 4611686018427387904∧x.text.size < 4611686018427387904) :
  Calls prog 128 #[v] w0 (bY w0 G fun u G'=>u=vi (tC l)):=by
 obtain ⟨A,c,rfl,hc1,hc2,-⟩:=hv.slice;rw [bQ] at *;refine eN [(0,_)] func128 rfl ntmps128 rfl rfl hG ?_;intro a H;refine dh (fun _ K1=>?_);refine fB (cs:=[_]) H wn rfl rfl rfl ?_;clear H;intro b1 a w hb1 H;refine kH H (ak K1 rfl (SQ fun _ K2=>?_));clear H K1;intro a H;have H:=H.sub (T':=[(1,_)]) ⟨rfl,aB⟩;obtain ⟨Ga,hma,hb1',H⟩:=H.dW
 have hbl:aG Ga b1 0=some (.slice A l.length c):=by unfold aG;rw [hb1'];rfl
 have hcb:=aeR hbl (hv.mono hma) hl ht;refine dI hmx [[],[0],[0,1],[0,1,2],[],[4],[4,5],[],(ra 0 8),(ra 0 9),(ra 0 10),(ra 0 11)] [9,10,11] (by kernel_rfl) [_,_,_,vi (bE (decide (1024 < (l.length:Int))) 9),_,_,vi ((min l.length 1024:Nat):Int),.func (.func 186) #[] #[(aQ b1 0)],vi (iC (tH l) (min l.length 1024))] H (aI (X0 rfl fun hG=>Rg Aj rfl (aH hG hbl)) (Z1 0 3 rfl (Rl zB rfl)) (Z1 1 4 rfl (Rc rfl)) ?_ (aI (X0 rfl fun hG=>Rg Aj rfl (aH hG hbl)) (Z1 4 7 rfl (Rl zB rfl)) ?_ ?_ (aI ?_ (cu rfl) (cu rfl) (cu rfl) dN))) ?_
 ·refine eF 2 5 rfl rfl fun _ a w G1 hG HT H fin=>?_;refine s_call jM H wn rfl (jO _ _ H.ro _ 9) rfl ?_;clear H;rintro v6 G6 a w ⟨rfl,-⟩ lS H;exact fin H lS (rfl)
 ·refine eF 5 8 rfl rfl fun _ a w G1 hG HT H fin=>?_;refine Pw H wn rfl rfl rfl ?_;clear H;intro a H;exact fin H iJ (av vi (by omega))
 ·refine BI rfl fun _ a w G1 hG HT H fin=>?_;refine pV H wn rfl rfl ?_;clear H;intro a H;exact fin H iJ rfl
 ·refine eU 6 9 7 10 rfl rfl fun _ a w G1 hG HT H fin=>?_;refine s_call IJ H wn rfl (Ko _ _ H.ro (min l.length 1024) (tH l) _ (by omega) ((hcb.mono hG).le (Nat.min_le_left _ _))) rfl ?_;clear H;rintro v11 zG a w rfl yQ H;exact fin H yQ (rfl)
 clear H;intro a w G rJ H hv;have H:=H.bg (hv 3 6 rfl rfl) rfl;have H:=H.bg (hv 8 11 rfl rfl) rfl;clear hv;refine jy qz gZ [_,_] [_,_] H wn rfl rfl rfl rfl rfl (by intro i q h;match i,h with|0,h=>exact h|1,h=>exact h|n+2,h=>simp at h) rfl rfl ?_;clear H;intro b12 a w EH H;obtain ⟨yw,xH,Gx,H⟩:=H.dW;refine s_call qZ H wn rfl (rz _ _ H.ro _ _ (Af Gx)) rfl ?_;clear H;rintro v13 _ a w ⟨rfl,rfl⟩ - H;refine kH H (Ra rfl ?_);clear H;intro a H;refine aJ ⟨rfl,?_⟩;refine K2 _ _ ?_;clear K2;refine lr H results128 rfl ?_;exact H.rt rfl
end
section
open Go.RowKit
def zi:Nat→List Int→List MapEntry
 | _,[]=>[]
 | i,k :: r=>⟨.int .i64 k,.int .i64 (i:Int),i⟩ :: zi (i+1) r
theorem aaW (x:Int):∀ (i:Nat) (l:List Int),zi i (l++[x])=zi i l++[⟨.int .i64 x,.int .i64 ((i+l.length:Nat):Int),i+l.length⟩]
 | _,[]=>rfl
 | i,k :: r=>by
  rw [nS,zi,aaW x (i+1) r,zi,nS,kW,show i+1+r.length=i+(r.length+1) by omega]
def wI (x:Int):Nat→List Int→Option Nat
 | _,[]=>none
 | i,k :: r=>if k=x then some i else wI x (i+1) r
theorem aaz {x:Int}:∀ {l:List Int} {i n:Nat},wI x i l=some n→i≤n
 | [],_,_,h=>by cases h
 | k :: r,i,n,h=>by
  rw [wI] at h;split at h
  ·cases h;exact dw _
  ·have:=aaz h;omega
theorem aaB {x:Int}:∀ {l:List Int} {i:Nat},x∉l→wI x i l=none
 | [],_,_=>rfl
 | k :: r,i,h=>by
  rw [wI,ah (fun e=>h (by simp [e])),aaB (fun hm=>h (vR _ hm))]
theorem RL (x:Int):∀ (i j:Nat) (l:List Int),Instr.findNow (.int .i64) (.int .i64 x) (zi i l) j=some ((wI x i l).map fun n=>(j+(n - i),.int .i64 (n:Int)))
 | _,_,[]=>rfl
 | i,j,k :: r=>by
  have ih:=RL x (i+1) (j+1) r
  by_cases e:k=x
  ·subst e
   simp only [zi,Instr.findNow,Instr.sameNow,au,wI,beq_self_eq_true]
   simp
  ·have hb:(x == k)=false:=by simp;exact fun h=>e h.symm
   simp only [zi,Instr.findNow,Instr.sameNow,au,hb,wI,ah e,ih]
   cases h:wI x (i+1) r with
   | none=>rfl
   | some n =>
    have:=aaz h
    simp only [yE,oz,iU,and_true]
    omega
abbrev adR (b:Nat) (l:List Int):Nat × Obj:=(b,.map (zi 0 l).toArray l.length)
theorem alf (l:List Int) (x:Int):(zi 0 l).toArray.push ⟨.int .i64 x,.int .i64 (l.length:Int),l.length⟩=(zi 0 (l++[x])).toArray:=by
 rw [aaW,List.push_toArray,nT]
end
section
open Go.RowKit
section
variable {P:Program} {N:Nat} {D:List Deferred} {w0 w w':World} {F:Nat→Prop} {G0 G G':GH} {L L' Li Lo:OL} {T:List (Nat × aj)} {a a':Act} {Q:Exit→Act→World→Prop}
variable {r:Option Nat} {ops:Array Oper} {rest:List Oper}
def Qk (P:Program) (Gi:GH) (B:OL) (gv:aj) (xs:List AP):Prop :=
 ∀ (J:Nat→GH→OL→Prop) (Jx:GH→OL→Prop) (fv:aj) (G:GH) (L:OL) (w:World),fv.cells=#[fv]→(∀ b o,Gi b=some o→G b=some o)→Fz J→FR Jx→J 0 G L→ji G (B++L) w→DZ P fv G xs J Jx →
  zD P gv [fv] w (iM w G (B++L) fun _ G' L'=>J xs.length G' L'∨Jx G' L')
theorem Qk.mono {Gi D6:GH} {B:OL} {gv:aj} {xs:List AP} (h:Qk P Gi B gv xs) (hm:∀ b o,Gi b=some o→D6 b=some o):Qk P D6 B gv xs :=
 fun J Jx fv G L w h0 h1=>h J Jx fv G L w h0 fun b o hb=>h1 b o (hm b o hb)
end
end
section
open Go.RowKit
section
variable {P:Program} {N:Nat} {D:List Deferred} {w0 w w':World} {F:Nat→Prop} {G0 G G':GH} {L L' Li Lo:OL} {T:List (Nat × aj)} {a a':Act} {Q:Exit→Act→World→Prop}
variable {r:Option Nat} {ops:Array Oper} {rest:List Oper}
def Ik (P:Program) (Gi:GH) (B:OL) (gv:aj) (xs:List AP) (fin:Bool):Prop :=
 ∀ (J:Nat→GH→OL→Prop) (Jx:GH→OL→Prop) (fv:aj) (G:GH) (L:OL) (w:World),fv.cells=#[fv]→(∀ b o,Gi b=some o→G b=some o)→Fz J→FR Jx→J 0 G L→ji G (B++L) w→DZ P fv G xs J Jx→(fin=false→∀ g l,¬ J xs.length g l) →
  zD P gv [fv] w (iM w G (B++L) fun _ G' L'=>J xs.length G' L'∨Jx G' L')
theorem Ik.mono {Gi D6:GH} {B:OL} {gv:aj} {xs:List AP} {fin:Bool} (h:Ik P Gi B gv xs fin) (hm:∀ b o,Gi b=some o→D6 b=some o):Ik P D6 B gv xs fin :=
 fun J Jx fv G L w h0 h1=>h J Jx fv G L w h0 fun b o hb=>h1 b o (hm b o hb)
theorem aej {fin:Bool} {B:OL} {AU:Operand} {ps:List Nat} {assign body:Code} {gf:FuncId} {caps:List aj} {xs:List AP} {Gi:GH}
  (H:St N D w0 F G0 G (B++L) T a w) (hg:ev T AU=some (.func (.func gf) #[] caps.toArray)) (en:∀ args w,(callFunc gf args).run P w=.ok (.enter gf args) w) (hit:Ik P Gi B (.func (.func gf) #[] caps.toArray) xs fin) (hGi:∀ b o,Gi b=some o→G b=some o)
  (hps:ps.all (Nat.blt · N)=true) (hlen:∀ k args g,yu xs k args g→args.length=ps.length)
  (J:Nat→GH→OL→Prop) (Jx:Code→GH→OL→Prop) (hno:fin=false→∀ g l,¬ J xs.length g l) (nk:Fz J) (hJx:∀ c,FR (Jx c)) (h0:J 0 G L) (Uz:Qt P N ps assign body T G J Jx xs)
  (hdone:∀ Dk G1 L1 a1 w1,(∀ b o,G b=some o→G1 b=some o)→J xs.length G1 L1→St N ({ target:=.collected Dk,args:=#[] } :: D) w0 F G0 G1 ((Dk,.deferred (some [])) :: L1) T a1 w1→Q .normal a1 w1)
  (hstop:∀ Dk c G1 L1 a1 w1,(∀ b o,G b=some o→G1 b=some o)→Jx c G1 L1→St N ({ target:=.collected Dk,args:=#[] } :: D) w0 F G0 G1 ((Dk,.deferred (some [])) :: L1) T a1 w1→WP none P c Q a1 w1) :
  WP none P (.rangeFunc AU ps.toArray assign body) Q a w:=by
 refine wpIn_rangeFunc ?_
 intro fn _
 have hev:=H.ev hg
 let q:Rec:=⟨fn,a.tmps,ps.toArray,assign,body,w.heap.size⟩
 obtain ⟨W1,hW1⟩:∃ W1,W1=(w.alloc (.deferred (some []))).alloc (q.at .ready none):=⟨_,rfl⟩
 have H1:Hp w0 F G0 G (B++((w.heap.size+1,q.at .ready none) :: (w.heap.size,.deferred (some [])) :: L)) W1:=by
  have:=(H.hp.alloc (.deferred (some []))).alloc (q.at .ready none)
  rw [World.size_alloc] at this
  rw [hW1]
  refine this.perm ?_
  have e:=og (l₁:=[(w.heap.size+1,q.at .ready none),(w.heap.size,Obj.deferred (some []))]) (l₂:=B)
  have e2:=List.Perm.append_right L e
  rw [jQ,jQ] at e2
  exact e2
 refine ⟨w.heap.size+1,[{ target:=.collected w.heap.size,args:=#[] }],W1,{ target:=.fn (.func gf) caps.toArray,args:=#[.func (.yield (w.heap.size+1)) #[] #[]] },W1,gf,
  #[.func (.yield (w.heap.size+1)) #[] #[]]++caps.toArray,W1,by rw [hW1];exact run_enterLoop_outer fn a.tmps ps.toArray assign body,?_,fun _ _=>trivial,?_,MP none,?_⟩
 ·simp only [resolve,rangeCall,hev]
  simp [Deferred.ofValue,Act.eval]
 ·simp [invoke,en]
 ·have hcv:=hit (fun k=>Jr (w.heap.size+1) q [(w.heap.size,.deferred (some []))] (J k)) (MU (w.heap.size+1) q [(w.heap.size,.deferred (some []))] Jx) (.func (.yield (w.heap.size+1)) #[] #[]) G
   ((w.heap.size+1,q.at .ready none) :: (w.heap.size,.deferred (some [])) :: L) W1 rfl hGi (fun k G G' L hm ⟨Lu,e,h⟩=>⟨Lu,e,nk k G G' Lu hm h⟩) (fun G G' L hm ⟨c,Lu,e,h⟩=>⟨c,Lu,e,hJx c G G' Lu hm h⟩) ⟨L,rfl,h0⟩ (Hp.owns (Li:=[]) H1) (X4 H.nI H.get hps hlen Uz) (fun e g l ⟨Lu,_,h⟩=>hno e g Lu h)
  replace hcv:=hcv.go
  have e:(do let d ← Deferred.ofValue (.func (.func gf) #[] caps.toArray) [Value.func (.yield (w.heap.size+1)) #[] #[]].toArray;invoke d.target d.args:Sem Next).run P W1=.ok (.enter gf (#[.func (.yield (w.heap.size+1)) #[] #[]]++caps.toArray)) W1:=by
   simp [Deferred.ofValue,invoke,en]
  rw [e] at hcv
  refine (QH hcv).mono ?_
  rintro e w2 ⟨v,G2,L2,rfl,hch,hJ⟩
  have H2:=Hp.change (Li:=[]) H1 hch
  rcases hJ with ⟨Lu,rfl,hJ⟩|⟨c,Lu,rfl,hJ⟩
  ·have hl:=H2.own _ (jB)
   have H3:=(H2.upd (i:=0) rfl (Fe (q.at .exhausted none) hl)).drop (CX _ _)
   exact ⟨none,_,run_endLoop hl (by simp),hdone _ G2 Lu _ _ hch.gm hJ ⟨H.nI,H.get,by simp [H.tK],H3⟩⟩
  ·have hl:=H2.own _ (jB)
   have H3:=(H2.upd (i:=0) rfl (Fe (q.at .exhausted (some c)) hl)).drop (CX _ _)
   exact ⟨some c,_,run_endLoop hl (by simp),hstop _ c G2 Lu _ _ hch.gm hJ ⟨H.nI,H.get,by simp [H.tK],H3⟩⟩
theorem aek {fin:Bool} {B:OL} {ι κ:Type} {Lc:OL} {AU:Operand} {ps:List Nat} {assign body:Code} {gf:FuncId} {caps:List aj} {xs:List AP} {Gi:GH}
  (Lv:Nat→ι→OL) (Lt:Nat→ι→OL) (inv:Nat→ι→GH→Prop) (cx:κ→Code) (Lx FP:κ→OL) (Bo:κ→GH→Prop) (i0:ι)
  (H:St N D w0 F G0 G (B++(Lc++Lv 0 i0++Lt 0 i0)) T a w) (hg:ev T AU=some (.func (.func gf) #[] caps.toArray)) (en:∀ args w,(callFunc gf args).run P w=.ok (.enter gf args) w) (hit:Ik P Gi B (.func (.func gf) #[] caps.toArray) xs fin) (hGi:∀ b o,Gi b=some o→G b=some o)
  (hno:fin=false→∀ i g,¬ inv xs.length i g) (hps:ps.all (Nat.blt · N)=true) (hlen:∀ k args g,yu xs k args g→args.length=ps.length) (hinv:∀ k i (G G':GH),(∀ b o,G b=some o→G' b=some o)→inv k i G→inv k i G') (TS:∀ x (G G':GH),(∀ b o,G b=some o→G' b=some o)→Bo x G→Bo x G') (h0:inv 0 i0 G)
  (round:∀ (l:Nat) (uX sw:Obj) (bk:OL) (k:Nat) (args:List aj) (i:ι) (G1:GH) (w1:World) (F1:Nat→Prop) (B1:Code→Exit→Act→World→Prop) (a1:Act),yu xs k args G1→(∀ b o,G b=some o→G1 b=some o)→inv k i G1 →
   (∀ T' G2 L2 a2 w2 c,St N [] w1 F1 G1 G2 ((l,uX) :: L2) T' a2 w2→(∀ w3,St N [] w1 F1 G1 G2 ((l,sw) :: L2) T' a2 w3→WP (some l) P c (B1 c) a2 w3)→Exit.then (fun a2 w2=>∃ w3,(Instr.beginRound l).run P w2=.ok () w3∧c.wpIn (FW (some l)) 0 P (B1 c) a2 w3) (fun _ _ _=>False) .normal a2 w2) →
   (∀ i' T' G2 a2 w2 c,St N [] w1 F1 G1 G2 ((l,sw) :: (Lc++Lv (k+1) i'++(bk++Lt (k+1) i'))) T' a2 w2→inv (k+1) i' G2→B1 c .normal a2 w2) →
   (∀ x T' G2 a2 w2 c,St N [] w1 F1 G1 G2 ((l,sw) :: (Lc++Lx x++(bk++FP x))) T' a2 w2→Bo x G2→(cx x=.ret→B1 c .ret a2 w2)∧∀ n,cx x=.exit n→B1 c (.exit n) a2 w2) →
   St N [] w1 F1 G1 G1 ((l,uX) :: (Lc++Lv k i++(bk++Lt k i))) (qX ps args T) a1 w1 →
   WP (some l) P assign (Exit.then (fun a2 w2=>∃ w3,(Instr.beginRound l).run P w2=.ok () w3∧body.wpIn (FW (some l)) 0 P (B1 body) a2 w3) (fun _ _ _=>False)) a1 w1)
  (hdone:∀ Dk i G1 a1 w1,(∀ b o,G b=some o→G1 b=some o)→inv xs.length i G1→St N ({ target:=.collected Dk,args:=#[] } :: D) w0 F G0 G1 ((Dk,.deferred (some [])) :: (Lc++Lv xs.length i++Lt xs.length i)) T a1 w1→Q .normal a1 w1)
  (hstop:∀ Dk x G1 a1 w1,(∀ b o,G b=some o→G1 b=some o)→Bo x G1→St N ({ target:=.collected Dk,args:=#[] } :: D) w0 F G0 G1 ((Dk,.deferred (some [])) :: (Lc++Lx x++FP x)) T a1 w1→WP none P (cx x) Q a1 w1) :
  WP none P (.rangeFunc AU ps.toArray assign body) Q a w:=by
 refine aej (J:=fun k g L=>∃ i,L=Lc++Lv k i++Lt k i∧inv k i g) (Jx:=fun c g L=>∃ x,c=cx x∧L=Lc++Lx x++FP x∧Bo x g) H hg en hit hGi hps hlen (hno:=fun e g l ⟨i,_,h⟩=>hno e i g h) (fun k G G' L hm ⟨i,e,h⟩=>⟨i,e,hinv k i G G' hm h⟩) (fun c G G' L hm ⟨x,e1,e2,h⟩=>⟨x,e1,e2,TS x G G' hm h⟩) ⟨i0,rfl,h0⟩ ?_ ?_ ?_
 ·rintro l q bk k args G1 L1 w1 a1 hk hm ⟨i,rfl,hi⟩ H1
  have pm:∀ A B:OL,(bk++(A++B)).Perm (A++(bk++B)):=fun A B=>by
   rw [← jQ,← jQ]
   exact List.Perm.append_right B og
  refine round l (q.at .ready none) (q.at .busy none) bk k args i G1 w1 _ (fun _=>roundPost P l _) a1 hk hm hi ?_ ?_ ?_ (H1.perm (List.Perm.cons _ (pm _ _)))
  ·intro T' G2 L2 a2 w2 c H2 h
   exact XV H2 h
  ·intro i' T' G2 a2 w2 c H2 h2
   exact JC none (H2.perm (List.Perm.cons _ (pm _ _).symm)) ⟨_,rfl,i',rfl,h2⟩
  ·intro x T' G2 a2 w2 c H2 h2
   have H3:=H2.perm (List.Perm.cons _ (pm _ _).symm)
   refine ⟨fun e=>?_,fun n e=>?_⟩
   ·exact JC (some .ret) H3 ⟨_,_,rfl,x,e.symm,rfl,h2⟩
   ·exact JC (some (.exit n)) H3 ⟨_,_,rfl,x,e.symm,rfl,h2⟩
 ·rintro Dk G1 L1 a1 w1 hm ⟨i,rfl,hi⟩ H1
  exact hdone Dk i G1 a1 w1 hm hi H1
 ·rintro Dk c G1 L1 a1 w1 hm ⟨x,rfl,rfl,hx⟩ H1
  exact hstop Dk x G1 a1 w1 hm hx H1
end
end
section
open Go.RowKit
theorem Ig:prog.underlying 95=some (.map 3 3):=by kernel_rfl
theorem qy:Ty prog 31 1 24 [.slice none 0 0] false:=⟨by kernel_rfl,by kernel_rfl⟩
theorem Rx:dJ prog 156 3 3:=⟨by kernel_rfl⟩
theorem Yz:∀ args w,(callFunc 198 args).run prog w=.ok (.enter 198 args) w:=enters func198 rfl (by kernel_rfl)
theorem aaA {x:Int}:∀ {l:List Int} {i n:Nat},wI x i l=some n→n < i+l.length
 | [],_,_,h=>by cases h
 | k :: r,i,n,h=>by
  rw [wI] at h;split at h
  ·cases h;simp
  have:=aaA h;simp only [kW];omega
def zM (l:List bL):Nat→Int→List bL
 | 0,_=>[]
 | f+1,id=>if id=0 then [] else match wI id 0 (l.map bL.id) with|none=>[]|some i=>match l[i]? with|none=>[]|some s=>s :: zM l f s.base
def IB (l:List bL) (id:Int):List bL:=zM l (l.length+1) id
theorem aeC {l:List bL} {f:Nat} {id:Int} (h:id=0):zM l f id=[]:=by
 cases f with
 | zero=>rfl
 | succ f=>rw [zM,au h]
theorem aeA {l:List bL} {f:Nat} {id:Int} (h0:¬ id=0) (h:wI id 0 (l.map bL.id)=none):zM l f id=[]:=by
 cases f with
 | zero=>rfl
 | succ f=>rw [zM,ah h0,h]
theorem aeB {l:List bL} {f i:Nat} {id:Int} (h0:¬ id=0) (h:wI id 0 (l.map bL.id)=some i) (hi:i < l.length):zM l (f+1) id=l[i] :: zM l f l[i].base:=by
 rw [zM,ah h0,h];dsimp only;rw [fP hi]
def stP (x:bL):AP:=fun args g=>∃ cs,args=[.agg cs.toArray]∧bJ g x.dat cs
theorem acd {A:List bL} {k:Nat} {args:List aj} {g:GH} (h:yu (A.map stP) k args g):∃ (hk:k < A.length) (cs:List aj),args=[.agg cs.toArray]∧bJ g A[k].dat cs:=by
 obtain ⟨p,hp,hargs⟩:=h;rw [qE] at hp;obtain ⟨q,hq,rfl⟩:=oC.1 hp;obtain ⟨hk,rfl⟩:=lG.1 hq;obtain ⟨cs,h1,h2⟩:=hargs;exact ⟨hk,cs,h1,h2⟩
abbrev bI (b:Nat) (n:Int):Nat × Obj:=(b,.cells #[vi n] 3 (0,0))
set_option maxHeartbeats 1000000 in
theorem aeD {G:GH} {bl bi:Nat} {l:List bL} {id:Int} {v:aj} (hb:aG G bl 0=some v) (hv:aC G (.sl 6 (l.map bL.dat)) v) (hnd:∀ (k:Nat) (h:k < l.length),l[k].id∉(l.take k).map bL.id) :
  Ik prog G [bI bi id] (.func (.func 198) #[] #[(aQ bl 0),(aQ bi 0)]) ((IB l id).map stP) (decide ((IB l id).length≤l.length)):=by
 intro J Jx fv G1 L w0 Du hGi nk hJx hJ hO hcb hfin;refine nK (caps:=[(aQ bl 0),(aQ bi 0)]) Yz ?_;obtain ⟨A,c,rfl,hc1,hc2,-⟩:=hv.slice;have hml:maxLen=9223372036854775807:=rfl;rw [bQ] at *;replace hb:=aH hGi hb;replace hv:=hv.mono hGi;refine lq (N:=46) (T:=[(0,_),(1,_),(2,_)]) func198 rfl ntmps198 rfl rfl hO ?_;intro a H;refine dh (fun _ K1=>?_);refine Ib H wn rfl ?_;clear H;intro bm a w hbm H;refine kH H (ak K1 rfl (SQ fun _ K2=>SR fun _ K3=>Rg qy rfl (by assumption) ?_));clear H K1;intro a H;refine kH H (Rl nD rfl (Rm rfl (Kz K3 (SB ?_))));clear H K3;intro a H;skip;refine eT (ι:=Nat) (Tc:=[(0,_),(1,_),(2,_),(4,_),(10,_),(11,_)]) (Lc:=[(_,_)]) (fun gh=>[(12,vi gh)]) (fun gh=>[adR bm ((l.take gh).map bL.id)]++L) (fun gh=>G1) (fun gh=>gh≤l.length) (fun gh=>l.length - gh) (0) (by exact (H.dB (Pl:=[_,_]) (cB:=[_,_]) [1,0] (by decide) rfl).sub ⟨rfl,rfl,rfl,rfl,rfl,rfl,rfl,aB⟩) ?_ ?_
 ·exact gX _
 clear H;intro k a w hI H;have hk:=hI;dsimp only [lca,aO] at H;refine kP H (SR fun _ K4=>Rc rfl (Kz K4 (SQ fun _ K5=>Cd rfl ?_ ?_))) <;> clear H K4
 ·intro gy a H
  try have pO:=dT gy
  have hk2:k < l.length:=by omega
  obtain ⟨b,o,pA,pc,rfl,hrow,hp,hrep⟩:=Bw hv hk2;have ajm:=hnd k hk2
  have hlk:((l.take k).map bL.id).length=k:=by rw [bQ,List.length_take];omega
  have hnx:(l.take k).map bL.id++[l[k].id]=(l.take (k+1)).map bL.id:=by rw [mV hk2,mW];rfl
  refine kP H (Kc K5 (SQ fun _ K6=>SB (SR fun _ K7=>Rm rfl (Ri nD kL rfl rfl ?_))));clear H K5;intro a H;refine bP kL (cs:=[_,_,_,_,_,_]) H wn rfl rfl (fun j v hj=>H.hp.aG (hrow j v hj)) rfl ?_;clear H;intro a H;refine eH kL H wn rfl ?_;clear H;intro b6 a w hb6 H;refine kH H (Ra rfl ?_);clear H;intro a H;refine bT kL 0 (vs:=[_,_,_,_,_,_]) _ H wn rfl rfl rfl rfl rfl rfl rfl rfl ?_;clear H;intro w H;dsimp only [List.set,setRow] at H;refine K7 _ _ ?_;clear K7;refine kP H (SC (Rm rfl (aT vV aD 0 rfl rfl (Rm rfl ?_))));clear H;intro a H;refine abH (i:=2) (ky:=vi l[k].id) (v:=vi k) Ig nZ H wn rfl rfl rfl rfl (by trivial) (by rw [List.toList_toArray,RL,aaB ajm];rfl) ?_;clear H;intro w H
  have hpush:((zi 0 ((l.take k).map bL.id)).toArray.push ⟨vi l[k].id,vi k,((l.take k).map bL.id).length⟩)=(zi 0 ((l.take (k+1)).map bL.id)).toArray:=by rw [← hnx,← alf,hlk]
  rw [hpush,show ((l.take k).map bL.id).length+1=((l.take (k+1)).map bL.id).length by rw [← hnx];simp] at H;refine kH H (Kn K6 (SC (Rd rfl (Rm rfl ?_))));clear H K6;intro a H;refine aJ ?_;refine dH ((k+1)) (by exact (H.dB (Pl:=[_,_,_]) (cB:=[_,_]) [1,2] (by decide) rfl).sub ⟨rfl,rfl,rfl,rfl,rfl,rfl,rfl,aB⟩) ?_ ?_
  ·exact by omega
  first|omega|(dsimp only;omega)
 intro gy a H
 try have pO:=dF gy
 obtain rfl:k=l.length:=by omega
 rw [Eo] at H;refine dR ?_;refine K2 _ _ ?_;clear K2;refine sD ?_;skip;refine eT (ι:=Int × Nat × Nat × OL × GH) (Tc:=[(0,_),(1,_),(2,_),(4,_)]) (Lc:=[(_,_)]) (fun gh=>[]) (fun gh=>[bI bi gh.1]++gh.2.2.2.1) (fun gh=>gh.2.2.2.2) (fun gh=>(∀ b o,G1 b=some o→gh.2.2.2.2 b=some o)∧Now ((IB l id).map stP) stP J (IB l id).length gh.2.2.1 (zM l gh.2.1 gh.1) gh.2.2.2.2 gh.2.2.2.1∧gh.2.2.1+gh.2.1=l.length+1) (fun gh=>gh.2.1) ((id,l.length+1,0,L,G1)) (by exact (H.dB (Pl:=[_,_]) (cB:=[_,_]) [1,0] (by decide) rfl).sub ⟨rfl,rfl,rfl,rfl,aB⟩) ?_ ?_
 ·exact ⟨fun _ _ h=>h,⟨hJ,fun i a h=>by rw [nT,qE];rw [show zM l (l.length+1) id=IB l id from rfl] at h;rw [h];rfl,nT _⟩,nT _⟩
 clear H;rintro ⟨i,f,j1,Lt,g⟩ a w hI H;dsimp only at hI H;obtain ⟨hgm,bO,hjf⟩:=hI;have hbg:=aH hgm hb;dsimp only [lca,aO] at H;refine kP H (SQ fun _ K8=>SR fun _ K9=>Ro aD 1 rfl (Rc rfl (Kz K9 (Cd rfl ?_ ?_)))) <;> clear H K9
 ·intro h23 a H
  try have Cr:=dT h23
  have h0:¬ i=0:=by simpa using h23
  obtain ⟨an,han⟩:∃ an,an=wI i 0 (l.map bL.id):=⟨_,rfl⟩;have hfn:=RL i 0 0 (l.map bL.id);rw [← han] at hfn;refine kP H (Kc K8 (SB (SR fun _ aV=>Rm rfl (Ro aD 1 rfl ?_))));clear H K8;intro a H;refine amQ (i:=0) (zv:=vi 0) _ Ig nZ (by kernel_rfl) H wn rfl rfl rfl (by trivial) (by simpa using hfn) rfl ?_;clear H;intro a H;refine kH H (Rm rfl ?_);clear H;intro a H;(iterate 2 refine nA H wn rfl rfl rfl ?_;clear H;intro a H);refine kH H (Ra rfl (ak aV rfl (SQ fun _ bF=>SR fun _ bG=>Rm rfl (Rn rfl (Rm rfl (Sp 32 rfl ?_ ?_)))))) <;> clear H aV
  ·intro h32 a H
   try have p32:=dT h32
   obtain rfl:an=none:=by
    cases an with
    | none=>rfl
    | some n=>simp [DI] at h32
   rw [aeA h0 han.symm] at bO;refine kH H (aZ h32 rfl (aS h32 rfl (aS h32 rfl (Pt h32 rfl (Kz bG (Ct rfl rfl ?_))))));clear H bG;intro a H;refine dG ?_;refine (leave0 H results198 ?_).1;refine H.hp.bR (L':=Lt) (by repeat (first|exact bZ _|apply List.Sublist.cons)) (.inl ?_);have h:=bO.len
   simp only [List.length_nil,nR] at h
   rw [← h];exact bO.now
  intro h32 a H
  try have p32:=dF h32
  obtain ⟨n,rfl⟩:∃ n,an=some n:=by
   cases an with
   | none=>simp [DI] at h32
   | some n=>exact ⟨n,rfl⟩
  have hnl:n < l.length:=by have:=aaA han.symm;simpa using this
  obtain ⟨f',rfl⟩:∃ f',f=f'+1:=by
   cases f with
   | succ f'=>exact ⟨f',rfl⟩
   | zero =>
    exfalso
    have hl:=bO.len
    simp only [zM,List.length_nil,nR] at hl
    refine hfin (gY (by omega)) g Lt ?_;rw [← hl];exact bO.now
  rw [aeB h0 han.symm hnl] at bO;dsimp only [DI,Option.map_some] at H;obtain ⟨b,o,pA,pc,rfl,hrow,hp,hrep⟩:=Bw (hv.mono hgm) hnl;refine kH H (YM h32 rfl (YR qy h32 rfl (by assumption) ?_));clear H;intro a H;refine kH H (YM h32 rfl (YI nD kL h32 rfl rfl ?_));clear H;intro a H;refine bP kL (cs:=[_,_,_,_,_,_]) H (wg H rfl rfl h32) rfl rfl (fun j v hj=>H.hp.aG (hrow j v hj)) rfl ?_;clear H;intro a H;refine uZ (Li:=[_,_]) (L:=Lt) H (wg H rfl rfl h32) rfl rfl (hcb j1 _ _ _ _ ⟨_,bO.head,_,rfl,hrep⟩ hgm bO.now (Hp.owns (Li:=[_,_]) H.hp)) rfl ?_;clear H;rintro v38 WJ Xy a w ⟨b38,rfl,hb1,hb2⟩ Ub H;have hbg:=aH Ub hbg;have r3:=aH Ub (hrow 3 _ rfl);refine kH H (YN h32 rfl (Pf h32 rfl (Kz bG (Cd rfl ?_ ?_)))) <;> clear H bG
  ·intro qj a H
   try have p40:=dT qj
   refine dG ?_;refine (leave0 H results198 ?_).1;exact H.hp.bR (L':=Xy) (by repeat (first|exact bZ _|apply List.Sublist.cons)) (.inr (hb2 (by simpa using qj)))
  intro qj a H
  try have p40:=dF qj
  refine kP H (Kc bF (SC (Rg qy rfl (by assumption) ?_)));clear H bF;intro a H;refine kH H (Rm rfl (Ri nD kL rfl rfl (Rf Rx rfl (Rg aD rfl (by assumption) ?_))));clear H;intro a H;refine bT aD 1 (vs:=[_]) _ H wn rfl rfl rfl rfl rfl rfl rfl rfl ?_;clear H;intro w H;dsimp only [List.set,setRow] at H;refine aJ ?_;refine dH ((l[n].base,f',j1+1,Xy,WJ)) (by exact (H).sub ⟨rfl,rfl,rfl,rfl,aB⟩) ?_ ?_
  ·(try dsimp only);exact ⟨fun b o h=>Ub b o (hgm b o h),bO.step (hb1 (by simpa using qj)),by omega⟩
  first|omega|(dsimp only;omega)
 intro h23 a H
 try have Cr:=dF h23
 refine dR ?_;refine (leave0 H results198 ?_).2;rw [aeC (by simpa using h23)] at bO;refine H.hp.bR (L':=Lt) (by repeat (first|exact bZ _|apply List.Sublist.cons)) (.inl ?_);have h:=bO.len
 simp only [List.length_nil,nR] at h
 rw [← h];exact bO.now
end
section
open Go.RowKit
theorem afH:∀ args w,(callFunc 155 args).run prog w=.ok (.enter 155 args) w:=enters func155 rfl (by kernel_rfl)
theorem afG:∀ args w,(callFunc 153 args).run prog w=.ok (.enter 153 args) w:=enters func153 rfl (by kernel_rfl)
theorem QY:∀ args w,(callFunc 154 args).run prog w=.ok (.enter 154 args) w:=enters func154 rfl (by kernel_rfl)
theorem NI:dJ prog 156 4 4:=⟨by kernel_rfl⟩
theorem aeE {G:GH} {w0:World} (hO:ji G [] w0) (l:List bL) (id:Int) (v:aj) (hv:aC G (.sl 6 (l.map bL.dat)) v) :
  Calls prog 155 #[v,vi id] w0 (iM w0 G [] fun u G' L'=>∃ bl bi,u=.func (.func 198) #[] #[(aQ bl 0),(aQ bi 0)]∧L'=[bI bi id]∧aG G' bl 0=some v):=by
 obtain ⟨A,c,rfl,hc1,hc2,-⟩:=hv.slice;refine lq (N:=6) (T:=[(0,_),(1,_)]) func155 rfl ntmps155 rfl rfl hO ?_;intro a H;refine dh (fun _ K1=>?_);refine fB (cs:=[_]) H wn rfl rfl rfl ?_;clear H;intro b2 a w hb2 H;refine fB (cs:=[_]) H wn rfl rfl rfl ?_;clear H;intro b3 a w hb3 H;refine kH H (ak K1 rfl (SR fun _ K2=>?_));clear H K1;intro a H;refine pV H wn rfl rfl ?_;clear H;intro a H;refine kH H (ak K2 rfl ?_);clear H K2;intro a H;refine lr H results155 rfl ?_;have H:=H.dB (Pl:=[_,_]) (cB:=[_,_]) [1,0] (by decide) rfl;obtain ⟨Ga,hma,hb2',H⟩:=H.dW;exact H.hp.fO ⟨b2,b3,rfl,rfl,by unfold aG;rw [hb2'];rfl⟩
def tL (p:Nat→Int):Nat→Nat→Int
 | _,0=>0
 | k,n+1=>if p k=0 then tL p (k+1) n else p k
theorem agX {p:Nat→Int} {k m:Nat} (h:k < m):tL p k (m - k)=if p k=0 then tL p (k+1) (m - (k+1)) else p k:=by
 obtain ⟨n,hn⟩:∃ n,m - k=n+1:=⟨m - k - 1,by omega⟩;rw [hn,tL,show m - (k+1)=n by omega]
theorem agW {p:Nat→Int} {k m:Nat} (h:m≤k):tL p k (m - k)=0:=by rw [show m - k=0 by omega];rfl
theorem YW {p:Nat→Int}:∀ {n k:Nat},tL p k n=0→∀ j,k≤j→j < k+n→p j=0
 | 0,k,_,j,h1,h2=>by omega
 | n+1,k,h,j,h1,h2=>by
  rw [tL] at h;split at h
  ·rename_i hp
   by_cases e:j=k
   ·rw [e];exact hp
   exact YW h j (by omega) (by omega)
  rename_i hp;exact absurd h hp
def Br (l:List bL) (k:Nat):Int:=match l[k]? with|some s=>jD l k s|none=>0
theorem abg {l:List bL} {k:Nat} (h:k < l.length):Br l k=jD l k l[k]:=by unfold Br;rw [fP h]
def uK (l:List bL) (s:bL):Bool:=(decide (s.base≠0) && !Ho l s.kind s.base) || (decide (s.next≠0) && (decide (s.kind=2) || !Ho l 1 s.next))
def QM (l:List bL) (s:bL):Bool:=decide (l.length < (IB l s.id).length)
def gH (l:List bL):Int:=if 128 < l.length then 9 else if tL (Br l) 0 l.length≠0 then tL (Br l) 0 l.length else if l.any (uK l)=true then 25 else if l.any (QM l)=true then 16 else 0
theorem alB {l:List bL} (h:tL (Br l) 0 l.length=0) {k:Nat} (hk:k+1 < l.length):l[k].id < l[k+1].id:=by
 have h1:=YW h (k+1) (gX _) (by omega);rw [abg hk,jD,mO] at h1
 have hp:Ab l (k+1)=some l[k].id:=by rw [Ab,ah (by omega),Nat.add_sub_cancel,fP (by omega)];rfl
 rw [hp] at h1
 split at h1
 ·cases h1
 split at h1
 ·cases h1
 split at h1
 ·cases h1
 rename_i _ h2 h3
 have h2':¬ l[k].id=l[k+1].id:=fun e=>h2 (by rw [e]);have h3':¬ l[k+1].id < l[k].id:=fun e=>h3 (aF e)
 omega
theorem abh {l:List bL} (h:tL (Br l) 0 l.length=0):∀ {k j:Nat} (hk:k < l.length) (hj:j < k),l[j].id < l[k].id
 | k+1,j,hk,hj=>by
  have h1:=alB h hk
  by_cases e:j=k
  ·subst e;exact h1
  have:=abh h (k:=k) (j:=j) (by omega) (by omega)
  omega
theorem abj {l:List bL} (h:tL (Br l) 0 l.length=0) (k:Nat) (hk:k < l.length):l[k].id∉(l.take k).map bL.id:=by
 intro hm;obtain ⟨x,hx1,hx2⟩:=List.mem_map.1 hm;obtain ⟨j,hj,rfl⟩:=List.getElem_of_mem hx1;rw [List.getElem_take] at hx2;rw [List.length_take] at hj;have:=abh h hk (j:=j) (by omega)
 omega
theorem Kq {α:Type} {p:α→Bool} {l:List α} {k:Nat} (hk:k < l.length) (h:(l.take k).any p=false) (hp:p l[k]=false):(l.take (k+1)).any p=false:=by
 rw [mV hk,List.any_append,h];simp [hp]
theorem xg {α:Type} {p:α→Bool} {l:List α} {k:Nat} (hk:k < l.length) (hp:p l[k]=true):l.any p=true:=List.any_eq_true.2 ⟨_,jv hk,hp⟩
theorem BM {α:Type} {p:α→Bool} {l:List α} {k:Nat} (hk:l.length≤k) (h:(l.take k).any p=false):¬ l.any p=true:=by
 rw [lZ hk] at h;rw [h];decide
set_option maxHeartbeats 1000000 in
theorem X8 (G:GH) (w0:World) (hG:Hold G w0) (l:List bL) (v:aj) (hv:aC G (.sl 6 (l.map bL.dat)) v) (hN:∀ s∈l,s.name.size≤4611686018427387904) :
  Calls prog 90 #[v] w0 (bY w0 G fun u G'=>u=vi (gH l)):=by
 obtain ⟨A,c,rfl,hc1,hc2,-⟩:=hv.slice;have hml:maxLen=9223372036854775807:=rfl;rw [bQ] at *;refine eN [(0,_)] func90 rfl ntmps90 rfl rfl hG ?_;intro a H;refine dh (fun _ K1=>?_);refine fB (cs:=[_]) H wn rfl rfl rfl ?_;clear H;intro b1 a w hb1 H;refine eH gZ H wn rfl ?_;clear H;intro b2 a w hb2 H;refine K1 _ _ ?_;clear K1;refine kP H (SQ fun _ K2=>SR fun _ K3=>Ro qy 1 rfl (Rl nD rfl (Rc rfl (Kz K3 (Cd rfl ?_ ?_))))) <;> clear H K3
 ·intro h12 a H
  try have pK:=dT h12
  refine dh (fun _ K4=>?_);refine bT gZ 0 (vs:=[_]) _ H wn rfl rfl rfl rfl rfl rfl rfl rfl ?_;clear H;intro w H;dsimp only [List.set,setRow] at H;refine K4 _ _ ?_;clear K4;refine dG ?_;refine (leave1 H results90 (.cons (zq gZ H rfl (H.hp.qN 0 rfl rfl)) .nil) ?_).1
  first
   | exact H.rt (av vi (by rw [gH,au (by omega)]))
   | exact H.rt (av vi (by rw [ah (by simpa using jE)] at heq;rw [gH,ah (by omega),← heq,au (by simpa using jE)]))
   | exact H.rt (av vi (by rw [gH,ah (by omega),ah (by rw [hok];decide),au hbad]))
   | exact H.rt (av vi (by rw [gH,ah (by omega),ah (by rw [hok];decide),ah hbad,au (xg hj2 hI)]))
   | exact H.rt (av vi (by rw [gH,ah (by omega),ah (by rw [hok];decide),ah hbad,ah (BM (by omega) hnc)]))
 intro h12 a H
 try have pK:=dF h12
 refine kP H (Kc K2 (SQ fun _ K5=>SR fun _ K6=>Ro qy 1 rfl (Rl nD rfl (Rm rfl (Kz K6 (SB ?_))))));clear H K2 K6;intro a H;skip;refine eT (ι:=Nat × GH) (Tc:=[(1,_),(2,_),(14,_)]) (Lc:=[(_,_),(_,_)]) (fun gh=>[(15,vi gh.1)]) (fun gh=>[]) (fun gh=>gh.2) (fun gh=>gh.1≤l.length∧tL (Br l) gh.1 (l.length - gh.1)=tL (Br l) 0 l.length∧(∀ b o,G b=some o→gh.2 b=some o)) (fun gh=>l.length - gh.1) ((0,G)) (by exact (H).sub ⟨rfl,rfl,rfl,rfl,aB⟩) ?_ ?_
 ·exact ⟨gX _,rfl,fun _ _ h=>h⟩
 clear H;rintro ⟨k,g⟩ a w hI H;dsimp only at hI H;obtain ⟨hk,heq,hgm⟩:=hI;dsimp only [lca,aO] at H;refine kP H (SR fun _ K7=>Rc rfl (Kz K7 (SQ fun _ K8=>Cd rfl ?_ ?_))) <;> clear H K7
 ·intro h16 a H
  try have p16:=dT h16
  have hk2:k < l.length:=by omega
  rw [agX hk2,abg hk2] at heq;refine kP H (Kc K8 (SQ fun _ K9=>SB (SR fun _ aV=>Rm rfl (ak aV rfl (SR fun _ bF=>Ro qy 1 rfl (Rm rfl ?_))))));clear H K8 aV;intro a H;refine s_call afG H wn rfl (alC _ _ H.ro l k _ (hv.mono hgm) hk2 (hN _ (jv hk2))) rfl ?_;clear H;rintro v20 J3 a w rfl Je H;refine kH H (ak bF rfl (SR fun _ bG=>Rm rfl (Rc rfl (Kz bG (Cd rfl ?_ ?_))))) <;> clear H bF bG
  ·intro h22 a H
   try have jE:=dT h22
   refine kP H (SR fun _ bM=>Rm rfl ?_);clear H;intro a H;refine bT gZ 0 (vs:=[_]) _ H wn rfl rfl rfl rfl rfl rfl rfl rfl ?_;clear H;intro w H;dsimp only [List.set,setRow] at H;refine bM _ _ ?_;clear bM;refine dG ?_;refine (leave1 H results90 (.cons (zq gZ H rfl (H.hp.qN 0 rfl rfl)) .nil) ?_).1
   first
    | exact H.rt (av vi (by rw [gH,au (by omega)]))
    | exact H.rt (av vi (by rw [ah (by simpa using jE)] at heq;rw [gH,ah (by omega),← heq,au (by simpa using jE)]))
    | exact H.rt (av vi (by rw [gH,ah (by omega),ah (by rw [hok];decide),au hbad]))
    | exact H.rt (av vi (by rw [gH,ah (by omega),ah (by rw [hok];decide),ah hbad,au (xg hj2 hI)]))
    | exact H.rt (av vi (by rw [gH,ah (by omega),ah (by rw [hok];decide),ah hbad,ah (BM (by omega) hnc)]))
  intro h22 a H
  try have jE:=dF h22
  refine kP H (Kc K9 (SC (Rd rfl (Rm rfl ?_))));clear H K9;intro a H;refine aJ ?_;refine dH ((k+1,J3)) (by exact (H).sub ⟨rfl,rfl,rfl,rfl,aB⟩) ?_ ?_
  ·(try dsimp only);exact ⟨by omega,by rw [au (by simpa using jE)] at heq;exact heq,fun b o h=>Je b o (hgm b o h)⟩
  first|omega|(dsimp only;omega)
 intro h16 a H
 try have p16:=dF h16
 have hok:tL (Br l) 0 l.length=0:=by rw [← heq];exact agW (by omega)
 clear heq;have GZ:=hv.mono hgm;refine dR ?_;refine K5 _ _ ?_;clear K5;refine kP H (SQ fun _ bN=>SR fun _ bW=>Ro qy 1 rfl (Rl nD rfl (Rm rfl (Kz bW (SB ?_)))));clear H bW;intro a H;skip;refine eT (ι:=Nat × GH) (Tc:=[(1,_),(2,_),(25,_),(26,_)]) (Lc:=[(_,_),(_,_)]) (fun gh=>[(27,vi gh.1)]) (fun gh=>[]) (fun gh=>gh.2) (fun gh=>gh.1≤l.length∧(l.take gh.1).any (uK l)=false∧(∀ b o,g b=some o→gh.2 b=some o)) (fun gh=>l.length - gh.1) ((0,g)) (by exact (H).sub ⟨rfl,rfl,rfl,rfl,rfl,aB⟩) ?_ ?_
 ·exact ⟨gX _,rfl,fun _ _ h=>h⟩
 clear H;rintro ⟨k,g2⟩ a w hI H;dsimp only at hI H;obtain ⟨hk3,hno,kF⟩:=hI;have Bl:=GZ.mono kF;dsimp only [lca,aO] at H;refine kP H (SR fun _ cK=>Rc rfl (Kz cK (SQ fun _ bS=>Cd rfl ?_ ?_))) <;> clear H cK
 ·intro jC a H
  try have p28:=dT jC
  have hk4:k < l.length:=by omega
  obtain ⟨b,o,pA,pc,rfl,hrow,hp,hrep⟩:=Bw Bl hk4;refine kP H (Kc bS (SQ fun _ dD=>SB (SR fun _ dO=>Ri nD kL rfl rfl ?_)));clear H bS;intro a H;refine bP kL (cs:=[_,_,_,_,_,_]) H wn rfl rfl (fun j v hj=>H.hp.aG (hrow j v hj)) rfl ?_;clear H;intro a H;refine eH kL H wn rfl ?_;clear H;intro b6 a w hb6 H;refine bT kL 0 (vs:=[_,_,_,_,_,_]) _ H wn rfl rfl rfl rfl rfl rfl rfl rfl ?_;clear H;intro w H;dsimp only [List.set,setRow] at H;refine dO _ _ ?_;clear dO;refine kP H (SR fun _ dK=>aT Rx aD 0 rfl rfl (Rc rfl (Rm rfl (Sp 34 rfl ?_ ?_)))) <;> clear H
  ·intro eG a H
   try have p34:=dT eG
   refine kH H (YO qy 2 eG rfl (YF yL eG rfl (YO aD 0 eG rfl (YF Rx eG rfl (YO aD 0 eG rfl ?_)))));clear H;intro a H;refine s_call QY H (wg H rfl rfl eG) rfl (UZ _ _ H.ro l l[k].kind l[k].base _ Bl) rfl ?_;clear H;rintro v40 g2 a w rfl Oj H;replace kF:=fun b o (h:g b=some o)=>Oj b o (kF b o h);replace Bl:=Bl.mono Oj;refine kH H (YN eG rfl (Pt eG rfl (Rm rfl (Sp 43 rfl ?_ ?_)))) <;> clear H
   ·intro h43 a H
    try have p43:=dT h43
    refine kH H (aS h43 rfl (aS h43 rfl (Ku rfl (Ku rfl (Ku rfl (Ku rfl (Ku rfl (Ku rfl (Ku rfl (Ku rfl (Ku rfl (Ku rfl (Ks h43 rfl (Pt h43 rfl (Kz dK (Ct rfl rfl (SQ fun _ dS=>?_)))))))))))))))));clear H dK;intro a H;have hbad:l.any (uK l)=true:=xg hk4 (by unfold uK;simp_all);refine qG ?_;refine bT gZ 1 (vs:=[_]) _ H wn rfl rfl rfl rfl rfl rfl rfl rfl ?_;clear H;intro w H;dsimp only [List.set,setRow] at H;refine aJ ?_;refine dS _ _ ?_;clear dS;refine dG ?_;refine (leave1 H results90 (.cons (zq gZ H rfl (H.hp.qN 1 rfl rfl)) .nil) ?_).1
    first
     | exact H.rt (av vi (by rw [gH,au (by omega)]))
     | exact H.rt (av vi (by rw [ah (by simpa using jE)] at heq;rw [gH,ah (by omega),← heq,au (by simpa using jE)]))
     | exact H.rt (av vi (by rw [gH,ah (by omega),ah (by rw [hok];decide),au hbad]))
     | exact H.rt (av vi (by rw [gH,ah (by omega),ah (by rw [hok];decide),ah hbad,au (xg hj2 hI)]))
     | exact H.rt (av vi (by rw [gH,ah (by omega),ah (by rw [hok];decide),ah hbad,ah (BM (by omega) hnc)]))
   intro h43 a H
   try have p43:=dF h43
   refine kH H (YF NI h43 rfl (YO aD 0 h43 rfl (YC h43 rfl (YM h43 rfl (Sp 47 rfl ?_ ?_))))) <;> clear H
   ·intro h47 a H
    try have p47:=dT h47
    refine kH H (YF yL h47 rfl (YO aD 0 h47 rfl (YC h47 rfl (YM h47 rfl (Sp 51 rfl ?_ ?_))))) <;> clear H
    ·intro lC a H
     try have p51:=dT lC
     refine kH H (aZ lC rfl (aS lC rfl (PT h47 lC rfl (PT h43 h47 rfl (Pf h43 rfl (Kz dK (Ct rfl rfl (SQ fun _ eP=>?_))))))));clear H dK;intro a H;have hbad:l.any (uK l)=true:=xg hk4 (by unfold uK;simp_all);refine qG ?_;refine bT gZ 1 (vs:=[_]) _ H wn rfl rfl rfl rfl rfl rfl rfl rfl ?_;clear H;intro w H;dsimp only [List.set,setRow] at H;refine aJ ?_;refine eP _ _ ?_;clear eP;refine dG ?_;refine (leave1 H results90 (.cons (zq gZ H rfl (H.hp.qN 1 rfl rfl)) .nil) ?_).1
     first
      | exact H.rt (av vi (by rw [gH,au (by omega)]))
      | exact H.rt (av vi (by rw [ah (by simpa using jE)] at heq;rw [gH,ah (by omega),← heq,au (by simpa using jE)]))
      | exact H.rt (av vi (by rw [gH,ah (by omega),ah (by rw [hok];decide),au hbad]))
      | exact H.rt (av vi (by rw [gH,ah (by omega),ah (by rw [hok];decide),ah hbad,au (xg hj2 hI)]))
      | exact H.rt (av vi (by rw [gH,ah (by omega),ah (by rw [hok];decide),ah hbad,ah (BM (by omega) hnc)]))
    intro lC a H
    try have p51:=dF lC
    refine kH H (YO qy 2 lC rfl (YF NI lC rfl (YO aD 0 lC rfl ?_)));clear H;intro a H;refine s_call QY H (wg H rfl rfl lC) rfl (UZ _ _ H.ro l 1 l[k].next _ Bl) rfl ?_;clear H;rintro v55 g2 a w rfl yV H;replace kF:=fun b o (h:g b=some o)=>yV b o (kF b o h);replace Bl:=Bl.mono yV;refine kH H (YN lC rfl (PF h47 lC rfl (PT h43 h47 rfl (Pf h43 rfl (Kz dK (Cd rfl ?_ ?_)))))) <;> clear H dK
    ·intro jc a H
     try have p59:=dT jc
     refine aN (fun _ gG=>?_);have hbad:l.any (uK l)=true:=xg hk4 (by unfold uK;simp_all);refine qG ?_;refine bT gZ 1 (vs:=[_]) _ H wn rfl rfl rfl rfl rfl rfl rfl rfl ?_;clear H;intro w H;dsimp only [List.set,setRow] at H;refine aJ ?_;refine gG _ _ ?_;clear gG;refine dG ?_;refine (leave1 H results90 (.cons (zq gZ H rfl (H.hp.qN 1 rfl rfl)) .nil) ?_).1
     first
      | exact H.rt (av vi (by rw [gH,au (by omega)]))
      | exact H.rt (av vi (by rw [ah (by simpa using jE)] at heq;rw [gH,ah (by omega),← heq,au (by simpa using jE)]))
      | exact H.rt (av vi (by rw [gH,ah (by omega),ah (by rw [hok];decide),au hbad]))
      | exact H.rt (av vi (by rw [gH,ah (by omega),ah (by rw [hok];decide),ah hbad,au (xg hj2 hI)]))
      | exact H.rt (av vi (by rw [gH,ah (by omega),ah (by rw [hok];decide),ah hbad,ah (BM (by omega) hnc)]))
    intro jc a H
    try have p59:=dF jc
    refine kP H (Kc dD (SC (Rd rfl (Rm rfl ?_))));clear H dD;intro a H;refine aJ ?_;refine dH ((k+1,g2)) (by exact (H.dB (Pl:=[_,_,_]) (cB:=[_,_]) [1,2] (by decide) rfl).sub ⟨rfl,rfl,rfl,rfl,rfl,aB⟩) ?_ ?_
    ·(try dsimp only);exact ⟨by omega,Kq hk4 hno (by unfold uK;simp_all),kF⟩
    first|omega|(dsimp only;omega)
   intro h47 a H
   try have p47:=dF h47
   refine kH H (aS h47 rfl (aS h47 rfl (Ku rfl (Ku rfl (Ku rfl (Ku rfl (Ku rfl (Ks h47 rfl (PF h43 h47 rfl (Pf h43 rfl (Kz dK (Cf rfl rfl (Kc dD (SC (Rd rfl (Rm rfl ?_))))))))))))))));clear H dK dD;intro a H;refine aJ ?_;refine dH ((k+1,g2)) (by exact (H.dB (Pl:=[_,_,_]) (cB:=[_,_]) [1,2] (by decide) rfl).sub ⟨rfl,rfl,rfl,rfl,rfl,aB⟩) ?_ ?_
   ·(try dsimp only);exact ⟨by omega,Kq hk4 hno (by unfold uK;simp_all),kF⟩
   first|omega|(dsimp only;omega)
  intro eG a H
  try have p34:=dF eG
  refine kH H (aZ eG rfl (aS eG rfl (aS eG rfl (Pf eG rfl (Rm rfl ?_)))));clear H;intro a H;refine JG NI H (wg H rfl rfl rfl) rfl rfl ?_;clear H;intro a H;refine zu aD H (wg H rfl rfl rfl) rfl (H.hp.qN 0 rfl rfl) rfl ?_;clear H;intro a H;refine Ml H (wg H rfl rfl rfl) rfl rfl rfl rfl ?_;clear H;intro a H;refine JH H (wg H rfl rfl rfl) rfl rfl ?_;clear H;intro a H;refine VJ H 47 rfl ?_ ?_
  ·intro h47
   try have p47:=dT h47
   refine kH H (YF yL h47 rfl (YO aD 0 h47 rfl (YC h47 rfl (YM h47 rfl (Sp 51 rfl ?_ ?_))))) <;> clear H
   ·intro lC a H
    try have p51:=dT lC
    refine kH H (aZ lC rfl (aS lC rfl (PT h47 lC rfl ?_)));clear H;intro a H;refine Mq H (wg H rfl rfl rfl) rfl h47 rfl rfl ?_;clear H;intro a H;refine kH H (Pf rfl rfl (Kz dK (Ct rfl rfl (SQ fun _ gT=>?_))));clear H dK;intro a H;have hbad:l.any (uK l)=true:=xg hk4 (by unfold uK;simp_all);refine qG ?_;refine bT gZ 1 (vs:=[_]) _ H wn rfl rfl rfl rfl rfl rfl rfl rfl ?_;clear H;intro w H;dsimp only [List.set,setRow] at H;refine aJ ?_;refine gT _ _ ?_;clear gT;refine dG ?_;refine (leave1 H results90 (.cons (zq gZ H rfl (H.hp.qN 1 rfl rfl)) .nil) ?_).1
    first
     | exact H.rt (av vi (by rw [gH,au (by omega)]))
     | exact H.rt (av vi (by rw [ah (by simpa using jE)] at heq;rw [gH,ah (by omega),← heq,au (by simpa using jE)]))
     | exact H.rt (av vi (by rw [gH,ah (by omega),ah (by rw [hok];decide),au hbad]))
     | exact H.rt (av vi (by rw [gH,ah (by omega),ah (by rw [hok];decide),ah hbad,au (xg hj2 hI)]))
     | exact H.rt (av vi (by rw [gH,ah (by omega),ah (by rw [hok];decide),ah hbad,ah (BM (by omega) hnc)]))
   intro lC a H
   try have p51:=dF lC
   refine kH H (YO qy 2 lC rfl (YF NI lC rfl (YO aD 0 lC rfl ?_)));clear H;intro a H;refine s_call QY H (wg H rfl rfl lC) rfl (UZ _ _ H.ro l 1 l[k].next _ Bl) rfl ?_;clear H;rintro v55 g2 a w rfl yV H;replace kF:=fun b o (h:g b=some o)=>yV b o (kF b o h);replace Bl:=Bl.mono yV;refine kH H (YN lC rfl (PF h47 lC rfl ?_));clear H;intro a H;refine Mq H (wg H rfl rfl rfl) rfl h47 rfl rfl ?_;clear H;intro a H;refine kH H (Pf rfl rfl (Kz dK (Cd rfl ?_ ?_))) <;> clear H dK
   ·intro jc a H
    try have p59:=dT jc
    refine aN (fun _ gM=>?_);have hbad:l.any (uK l)=true:=xg hk4 (by unfold uK;simp_all);refine qG ?_;refine bT gZ 1 (vs:=[_]) _ H wn rfl rfl rfl rfl rfl rfl rfl rfl ?_;clear H;intro w H;dsimp only [List.set,setRow] at H;refine aJ ?_;refine gM _ _ ?_;clear gM;refine dG ?_;refine (leave1 H results90 (.cons (zq gZ H rfl (H.hp.qN 1 rfl rfl)) .nil) ?_).1
    first
     | exact H.rt (av vi (by rw [gH,au (by omega)]))
     | exact H.rt (av vi (by rw [ah (by simpa using jE)] at heq;rw [gH,ah (by omega),← heq,au (by simpa using jE)]))
     | exact H.rt (av vi (by rw [gH,ah (by omega),ah (by rw [hok];decide),au hbad]))
     | exact H.rt (av vi (by rw [gH,ah (by omega),ah (by rw [hok];decide),ah hbad,au (xg hj2 hI)]))
     | exact H.rt (av vi (by rw [gH,ah (by omega),ah (by rw [hok];decide),ah hbad,ah (BM (by omega) hnc)]))
   intro jc a H
   try have p59:=dF jc
   refine kP H (Kc dD (SC (Rd rfl (Rm rfl ?_))));clear H dD;intro a H;refine aJ ?_;refine dH ((k+1,g2)) (by exact (H.dB (Pl:=[_,_,_]) (cB:=[_,_]) [1,2] (by decide) rfl).sub ⟨rfl,rfl,rfl,rfl,rfl,aB⟩) ?_ ?_
   ·(try dsimp only);exact ⟨by omega,Kq hk4 hno (by unfold uK;simp_all),kF⟩
   first|omega|(dsimp only;omega)
  intro h47
  try have p47:=dF h47
  refine kH H (aS h47 rfl (aS h47 rfl (Ku rfl (Ku rfl (Ku rfl (Ku rfl (Ku rfl (Ks h47 rfl ?_))))))));clear H;intro a H;refine Px H (wg H rfl rfl rfl) rfl h47 rfl rfl ?_;clear H;intro a H;refine kH H (Pf rfl rfl (Kz dK (Cf rfl rfl (Kc dD (SC (Rd rfl (Rm rfl ?_)))))));clear H dK dD;intro a H;refine aJ ?_;refine dH ((k+1,g2)) (by exact (H.dB (Pl:=[_,_,_]) (cB:=[_,_]) [1,2] (by decide) rfl).sub ⟨rfl,rfl,rfl,rfl,rfl,aB⟩) ?_ ?_
  ·(try dsimp only);exact ⟨by omega,Kq hk4 hno (by unfold uK;simp_all),kF⟩
  first|omega|(dsimp only;omega)
 intro jC a H
 try have p28:=dF jC
 have hbad:=BM (by omega) hno;refine dR ?_;refine bN _ _ ?_;clear bN;refine kP H (SQ fun _ jf=>SR fun _ jq=>Ro qy 1 rfl (Rl nD rfl (Rm rfl (Kz jq (SB ?_)))));clear H jq;intro a H;skip;refine Ng (ι:=Nat × GH × List Nat) (Tc:=[(1,_),(2,_),(61,_),(62,_)]) (Lc:=[(_,_),(_,_)]) (fun gh=>Jv gh.2.2) (fun gh=>[(63,vi gh.1)]) (fun gh=>[]++(lW gh.2.2++[])) (fun gh=>gh.2.1) (fun gh=>gh.1≤l.length∧(l.take gh.1).any (QM l)=false∧(∀ b o,g2 b=some o→gh.2.1 b=some o)) (fun gh=>l.length - gh.1) ((0,g2,[])) (by exact (H).sub ⟨rfl,rfl,rfl,rfl,rfl,aB⟩) ?_ ?_
 ·exact ⟨gX _,rfl,fun _ _ h=>h⟩
 clear H;rintro ⟨j,g3,ds⟩ a w hI H;dsimp only at hI H;obtain ⟨hj,hnc,qL⟩:=hI;have UK:=Bl.mono qL;dsimp only [lca,aO] at H;refine kP H (SR fun _ iQ=>Rc rfl (Kz iQ (SQ fun _ kT=>Cd rfl ?_ ?_))) <;> clear H iQ
 ·intro h64 a H
  try have p64:=dT h64
  have hj2:j < l.length:=by omega
  obtain ⟨b,o,pA,pc,rfl,hrow,hp,hrep⟩:=Bw UK hj2;refine kP H (Kc kT (SQ fun _ kU=>SB (SR fun _ jG=>Ri nD kL rfl rfl ?_)));clear H kT;intro a H;refine bP kL (cs:=[_,_,_,_,_,_]) H wn rfl rfl (fun j v hj=>H.hp.aG (hrow j v hj)) rfl ?_;clear H;intro a H;refine eH kL H wn rfl ?_;clear H;intro b8 a w yT H;refine bT kL 0 (vs:=[_,_,_,_,_,_]) _ H wn rfl rfl rfl rfl rfl rfl rfl rfl ?_;clear H;intro w H;dsimp only [List.set,setRow] at H;refine jG _ _ ?_;clear jG;refine dh (fun _ kZ=>?_);refine eH aD H wn rfl ?_;clear H;intro b9 a w wD H;refine bT aD 0 (vs:=[_]) _ H wn rfl rfl rfl rfl rfl rfl rfl rfl ?_;clear H;intro w H;dsimp only [List.set,setRow] at H;refine kZ _ _ ?_;clear kZ;refine kP H (SR fun _ lg=>Ro qy 3 rfl (aT vV aD 1 rfl rfl ?_));clear H;intro a H;refine gP afH (Li:=[_,_,_,_]++lW ds) (L:=[]) (St.un (A:=[_,_,_,_]) H) wn rfl (aeE (Hp.owns (Li:=[_,_,_,_]++lW ds) (St.un (A:=[_,_,_,_]) H).hp) l l[j].id _ UK) rfl ?_;clear H;rintro v70 g4 L70 a w ⟨bl,bi,rfl,rfl,hbl⟩ ZT H;have H:=(St.Vd (A:=[_,_,_,_,_]) (B:=lW ds) (H.perm og));dsimp only [lca,aO] at H;have hit:=aeD (l:=l) (id:=l[j].id) (bi:=bi) hbl (UK.mono ZT) (abj hok);refine lg _ _ ?_;clear lg;refine sD ?_;skip;refine aek (B:=[(_,_)]) (ι:=Unit) (κ:=Int) (Lc:=[(_,_),(_,_)]) (fun (k:Nat) (gh:Unit)=>[(b9,.cells #[vi k] 3 (0,0)),(b2,.cells #[vi 0] 42 (0,0))]) (fun (k:Nat) (gh:Unit)=>(lW ds++[])) (fun (k:Nat) (gh:Unit) (g:GH)=>k≤l.length) (fun (gx:Int)=>Code.ret) (fun (gx:Int)=>[(b9,.cells #[vi gx] 3 (0,0)),(b2,.cells #[vi 16] 42 (0,0))]) (fun (gx:Int)=>(lW ds++[])) (fun (gx:Int) (g:GH)=>QM l l[j]=true) (()) (by exact H.dB (Pl:=[_,_,_,_,_]) (cB:=[_,_,_,_,_]) [0,2,4,1,3] (by decide) rfl) rfl Yz (hit) (fun _ _ h=>h) (fun e i g h=>absurd (of_decide_eq_false e) (by rw [bQ] at h;omega)) rfl (fun k args g h=>by obtain ⟨_,_,rfl,_⟩:=acd h;rfl) (fun _ _ _ _ _ h=>h) (fun _ _ _ _ h=>h) (gX _) ?_ ?_ ?_
  ·clear H;intro l21 uX sw bk k args gh MS w21 F21 B21 a ZM sJ hI aiu ajl ajK H;obtain ⟨ZM,apr,rfl,aqa⟩:=acd ZM;dsimp only [qX,List.cons_append,List.nil_append] at H;refine fF ?_;refine aiu _ _ _ _ _ _ (by exact H) ?_;clear H;intro w H;refine kP H (SB (SR fun _ lK=>Ro aD 3 rfl (Rd rfl ?_)));clear H;intro a H;refine bT aD 3 (vs:=[_]) _ H wn rfl rfl rfl rfl rfl rfl rfl rfl ?_;clear H;intro w H;dsimp only [List.set,setRow] at H;refine lK _ _ ?_;clear lK;refine kP H (SR fun _ lM=>Ro aD 3 rfl (Ro qy 2 rfl (Rl nD rfl (Rc rfl (Kz lM (Cd rfl ?_ ?_)))))) <;> clear H lM
   ·intro tO a H
    try have Cu:=dT tO
    refine dh (fun _ lN=>?_);refine bT gZ 4 (vs:=[_]) _ H wn rfl rfl rfl rfl rfl rfl rfl rfl ?_;clear H;intro w H;dsimp only [List.set,setRow] at H;refine lN _ _ ?_;clear lN;refine dG ?_;refine (ajK ((k:Int)+1) _ _ _ _ _ (by exact H) ?_).1 rfl;exact dQ (by omega)
   intro tO a H
   try have Cu:=dF tO
   refine fF ?_;refine ajl (()) _ _ _ _ _ (by exact H) ?_
   omega
  ·clear H;intro WB gh WV a w sJ hI H;dsimp only [lca,aO] at H;refine kU _ _ ?_;clear kU;refine kP H (SC (Rd rfl (Rm rfl ?_)));clear H;intro a H;refine aJ ?_;refine Hu ((j+1,WV,WB :: ds)) (by exact (H.dB (Pl:=[_,_,_,_,_]) (cB:=[_,_,_]) [4,2,0] (by decide) rfl).sub ⟨rfl,rfl,rfl,rfl,rfl,aB⟩) ?_ ?_
   ·(try dsimp only);exact ⟨by omega,Kq hj2 hnc (gY (by rw [bQ] at hI;omega)),fun b o h=>sJ b o (ZT b o (qL b o h))⟩
   first|omega|(dsimp only;omega)
  clear H;intro WB x WV a w sJ hI H;dsimp only [lca,aO] at H;refine dG ?_;refine (xL H 0 rfl ?_).1;clear H;intro a w H;dsimp only [List.eraseIdx_cons_succ,List.eraseIdx_cons_zero] at H;refine (zY (Lh:=[_,_,_,_]) _ H ?_).1;clear H;intro a w H;dsimp only [lca,aO] at H;refine (leave1 H results90 (.cons (zq gZ H rfl (H.hp.qN 3 rfl rfl)) .nil) ?_).1
  first
   | exact H.rt (av vi (by rw [gH,au (by omega)]))
   | exact H.rt (av vi (by rw [ah (by simpa using jE)] at heq;rw [gH,ah (by omega),← heq,au (by simpa using jE)]))
   | exact H.rt (av vi (by rw [gH,ah (by omega),ah (by rw [hok];decide),au hbad]))
   | exact H.rt (av vi (by rw [gH,ah (by omega),ah (by rw [hok];decide),ah hbad,au (xg hj2 hI)]))
   | exact H.rt (av vi (by rw [gH,ah (by omega),ah (by rw [hok];decide),ah hbad,ah (BM (by omega) hnc)]))
 intro h64 a H
 try have p64:=dF h64
 refine dR ?_;refine jf _ _ ?_;clear jf;refine dh (fun _ lY=>?_);refine bT gZ 0 (vs:=[_]) _ H wn rfl rfl rfl rfl rfl rfl rfl rfl ?_;clear H;intro w H;dsimp only [List.set,setRow] at H;refine lY _ _ ?_;clear lY;refine dG ?_;refine (zY (Lh:=[_,_]) _ H ?_).1;clear H;intro a w H;dsimp only [lca,aO] at H;refine (leave1 H results90 (.cons (zq gZ H rfl (H.hp.qN 0 rfl rfl)) .nil) ?_).1
 first
  | exact H.rt (av vi (by rw [gH,au (by omega)]))
  | exact H.rt (av vi (by rw [ah (by simpa using jE)] at heq;rw [gH,ah (by omega),← heq,au (by simpa using jE)]))
  | exact H.rt (av vi (by rw [gH,ah (by omega),ah (by rw [hok];decide),au hbad]))
  | exact H.rt (av vi (by rw [gH,ah (by omega),ah (by rw [hok];decide),ah hbad,au (xg hj2 hI)]))
  | exact H.rt (av vi (by rw [gH,ah (by omega),ah (by rw [hok];decide),ah hbad,ah (BM (by omega) hnc)]))
end
section
open Go.RowKit
theorem uj:Ty prog 34 1 24 [.slice none 0 0] false:=⟨by kernel_rfl,by kernel_rfl⟩
theorem vE:prog.underlying 34=some (.slice 167):=by kernel_rfl
theorem xV:Ty prog 167 2 32 [.string ⟨#[]⟩,.string ⟨#[]⟩] true:=⟨by kernel_rfl,by kernel_rfl⟩
theorem AL:dJ prog 167 0 0:=⟨by kernel_rfl⟩
theorem KD:∀ args w,(callFunc 93 args).run prog w=.ok (.enter 93 args) w:=enters func93 rfl (by kernel_rfl)
theorem RB:dJ prog 167 1 1:=⟨by kernel_rfl⟩
theorem Ew:dJ prog 36 0 0:=⟨by kernel_rfl⟩
theorem YT:∀ args w,(callFunc 90 args).run prog w=.ok (.enter 90 args) w:=enters func90 rfl (by kernel_rfl)
theorem AO:dJ prog 36 1 1:=⟨by kernel_rfl⟩
theorem afu:∀ args w,(callFunc 127 args).run prog w=.ok (.enter 127 args) w:=enters func127 rfl (by kernel_rfl)
theorem F7:dJ prog 36 2 2:=⟨by kernel_rfl⟩
theorem afv:∀ args w,(callFunc 128 args).run prog w=.ok (.enter 128 args) w:=enters func128 rfl (by kernel_rfl)
theorem F8:dJ prog 36 3 3:=⟨by kernel_rfl⟩
theorem afw:∀ args w,(callFunc 129 args).run prog w=.ok (.enter 129 args) w:=enters func129 rfl (by kernel_rfl)
theorem afU:∀ args w,(callFunc 191 args).run prog w=.ok (.enter 191 args) w:=enters func191 rfl (by kernel_rfl)
theorem PX {G:GH} {l:List nP} {A:Option Addr} {n c k:Nat} (hv:aC G (.sl 2 (l.map nP.dat)) (.slice A n c)) (hk:k < l.length):∃ b o,A=some ⟨b,o,none⟩∧(∀ j u,l[k].cells[j]?=some u→aG G b (o+k*2+j)=some u):=by
 obtain ⟨A',c',he,_,_,hg⟩:=hv.slice
 injection he with e1 e2 e3
 subst e1;obtain ⟨b,o,cs,h1,h2,h3,h4⟩:=hg k l[k].dat (by simp [hk]);have:=aoI h4;subst this;exact ⟨b,o,h1,h3⟩
def Fg (k:Nat) (x:nP) (pn:ByteArray):Int:=bK [bE (!oG x.name) 13,bE (decide (0 < (k:Int)) && (x.name.toList == pn.toList)) 7,bE (decide (0 < (k:Int)) && Op.bytesLess x.name.toList pn.toList) 6,rX x.value]
def wT (l:List nP) (k:Nat):Int:=match l[k]? with|some x=>Fg k x ((l[k - 1]?.map nP.name).getD ⟨#[]⟩)|none=>0
set_option maxHeartbeats 2000000 in
theorem aoH {G:GH} {bl:Nat} {l:List nP} {A:Option Addr} {n c:Nat} (hb:aG G bl 0=some (.slice A n c)) (hv:aC G (.sl 2 (l.map nP.dat)) (.slice A n c)) (hl:l.length≤4294967296) (ht:∀ x∈l,x.name.size < 4611686018427387904∧x.value.size < 4611686018427387904):uE (.func (.func 191) #[] #[(aQ bl 0)]) G l.length (wT l):=by
 intro k hk G1 w0 hm hG;refine nK (caps:=[(aQ bl 0)]) afU ?_;replace hb:=aH hm hb;replace hv:=hv.mono hm
 obtain rfl:n=l.length:=by have:=hv.len;simpa using this
 obtain ⟨b,o,rfl,hrow⟩:=PX hv hk
 have hk1:k - 1 < l.length:=by omega
 obtain ⟨b',o',he',hrow'⟩:=PX hv hk1
 injection he' with he'
 injection he' with e1 e2
 subst e1;subst e2;have hte:=ht _ (jv hk)
 have he:wT l k=Fg k l[k] l[k - 1].name:=by unfold wT;rw [fP hk,fP hk1];rfl
 obtain ⟨x,hx⟩:∃ x,x=l[k]:=⟨_,rfl⟩;obtain ⟨y,hy⟩:∃ y,y=l[k - 1]:=⟨_,rfl⟩;rw [← hx] at hrow hte he;rw [← hy] at hrow' he;refine eN [(0,_),(1,_)] func191 rfl ntmps191 rfl rfl hG ?_;intro a H;refine kP H (SR fun _ K1=>ak K1 rfl (SQ fun _ K2=>?_));clear H K1;intro a H;have H:=H.sub (T':=[(0,_),(1,_)]) ⟨rfl,rfl,aB⟩
 by_cases c0:0 < (k:Int)
 ·skip;refine dI hmx [[],[],[0,1],[0,1,2],(ra 0 4),(ra 0 5),(ra 0 6),(ra 0 7),[],[8],(ra 0 10),(ra 0 11),(ra 0 11),(ra 0 13),(ra 0 14),(ra 0 15),(ra 0 11),(ra 0 11),(ra 0 11++[17]),(ra 0 11++[17,18]),(ra 0 11++ra 16 4),(ra 0 11++ra 16 5),(ra 0 11++ra 16 6),(ra 0 23),(ra 0 24),(ra 0 25),[],[26],(ra 0 28),(ra 0 29),(ra 0 29),(ra 0 31),(ra 0 32),(ra 0 33),(ra 0 29),(ra 0 29),(ra 0 29++[35]),(ra 0 29++[35,36]),(ra 0 29++ra 34 4),(ra 0 29++ra 34 5),(ra 0 29++ra 34 6),(ra 0 41),(ra 0 42),(ra 0 43),[],[],[44,45],[44,45,46],(ra 44 4),(ra 0 49),(ra 0 50),(ra 0 51),(ra 0 52)] [50,51,52] (by kernel_rfl) [_,_,_,_,_,.bool (oG x.name),_,vi (bE (!oG x.name) 13),_,_,_,_,_,_,_,_,_,_,vi ((max k 1:Nat):Int),vi ((k - 1:Nat):Int),_,_,_,.bool (x.name.toList == y.name.toList),.bool (decide (0 < (k:Int)) && (x.name.toList == y.name.toList)),vi (bE (decide (0 < (k:Int)) && (x.name.toList == y.name.toList)) 7),_,_,_,_,_,_,_,_,_,_,vi ((max k 1:Nat):Int),vi ((k - 1:Nat):Int),_,_,_,.bool (Op.bytesLess x.name.toList y.name.toList),.bool (decide (0 < (k:Int)) && Op.bytesLess x.name.toList y.name.toList),vi (bE (decide (0 < (k:Int)) && Op.bytesLess x.name.toList y.name.toList) 6),_,_,_,_,_,vi (rX x.value)] H (aI (X0 rfl fun hG=>Rg uj rfl (aH hG hb)) (Z0 rfl (Rm rfl)) (Z2 0 4 1 5 rfl (Ri vE xV rfl rfl)) (Z1 2 6 rfl (Rf AL rfl)) (aI (X1 3 7 rfl fun hG=>Rg gW rfl (aH hG (hrow 0 _ rfl))) ?_ (Z1 5 9 rfl (Rn rfl)) ?_ (aI (Z0 rfl (Rm rfl)) (Z1 8 12 rfl (Rc rfl)) (Z1 9 13 rfl (Rm rfl)) (X1 10 14 rfl fun hG=>YR uj (aF c0) rfl (aH hG hb)) (aI (Z1 10 14 rfl (YM (aF c0) rfl)) (Z3 11 15 12 16 10 14 rfl (YI vE xV (aF c0) rfl rfl)) (Z2 13 17 10 14 rfl (YF AL (aF c0) rfl)) (X2 14 18 10 14 rfl fun hG=>YR gW (aF c0) rfl (aH hG (hrow 0 _ rfl))) (aI (X1 10 14 rfl fun hG=>YR uj (aF c0) rfl (aH hG hb)) (Z1 10 14 rfl (YM (aF c0) rfl)) ?_ ?_ (aI (Z3 16 20 19 23 10 14 rfl (YI vE xV (aF c0) rfl rfl)) (Z2 20 24 10 14 rfl (YF AL (aF c0) rfl)) (X2 21 25 10 14 rfl fun hG=>YR gW (aF c0) rfl (aH hG (hrow' 0 _ rfl))) ?_ (aI ?_ ?_ (Z0 rfl (Rm rfl)) (Z1 26 30 rfl (Rc rfl)) (aI (Z1 27 31 rfl (Rm rfl)) (X1 28 32 rfl fun hG=>YR uj (aF c0) rfl (aH hG hb)) (Z1 28 32 rfl (YM (aF c0) rfl)) (Z3 29 33 30 34 28 32 rfl (YI vE xV (aF c0) rfl rfl)) (aI (Z2 31 35 28 32 rfl (YF AL (aF c0) rfl)) (X2 32 36 28 32 rfl fun hG=>YR gW (aF c0) rfl (aH hG (hrow 0 _ rfl))) (X1 28 32 rfl fun hG=>YR uj (aF c0) rfl (aH hG hb)) (Z1 28 32 rfl (YM (aF c0) rfl)) (aI ?_ ?_ (Z3 34 38 37 41 28 32 rfl (YI vE xV (aF c0) rfl rfl)) (Z2 38 42 28 32 rfl (YF AL (aF c0) rfl)) (aI (X2 39 43 28 32 rfl fun hG=>YR gW (aF c0) rfl (aH hG (hrow' 0 _ rfl))) ?_ ?_ ?_ (aI (X0 rfl fun hG=>Rg uj rfl (aH hG hb)) (Z0 rfl (Rm rfl)) (Z2 44 48 45 49 rfl (Ri vE xV rfl rfl)) (Z1 46 50 rfl (Rf RB rfl)) (aI (X1 47 51 rfl fun hG=>Rg gW rfl (aH hG (hrow 1 _ rfl))) ?_ (cu rfl) (cu rfl) (bC (cu rfl) dN)))))))))))))) ?_
  ·refine eF 4 8 rfl rfl fun _ a w G1 hG HT H fin=>?_;refine s_call KD H wn rfl (Kt _ _ H.ro x.name hte.1) rfl ?_;clear H;rintro v9 G9 a w ⟨rfl,-⟩ zS H;exact fin H zS (rfl)
  ·refine eF 6 10 rfl rfl fun _ a w G1 hG HT H fin=>?_;refine s_call jM H wn rfl (jO _ _ H.ro _ 13) rfl ?_;clear H;rintro v11 zG a w ⟨rfl,-⟩ yQ H;exact fin H yQ (rfl)
  ·refine eU 17 21 10 14 rfl rfl fun _ a w G1 hG HT H fin=>?_;refine E9 H (wg H rfl rfl (aF c0)) rfl rfl rfl ?_;clear H;intro a H;exact fin H iJ (by show _=_;first|rfl|exact av vi (by omega))
  ·refine eU 18 22 10 14 rfl rfl fun _ a w G1 hG HT H fin=>?_;refine mD _ H (wg H rfl rfl (aF c0)) rfl rfl rfl (by omega) (by omega) rfl ?_;clear H;intro a H;exact fin H iJ (by show _=_;first|rfl|exact av vi (by omega))
  ·refine vK 15 19 22 26 10 14 rfl rfl fun _ a w G1 hG HT H fin=>?_;refine Ia H (wg H rfl rfl (aF c0)) rfl rfl rfl ?_;clear H;intro a H;exact fin H iJ rfl
  ·refine eU 10 14 23 27 rfl rfl fun _ a w G1 hG HT H fin=>?_;refine kH H (Pt (aF c0) rfl ?_);clear H;intro a H;exact fin H iJ (aL (by first|(rw [dQ c0,uG];done)|(rw [gY c0,sZ];done)))
  ·refine eF 24 28 rfl rfl fun _ a w G1 hG HT H fin=>?_;refine s_call jM H wn rfl (jO _ _ H.ro _ 7) rfl ?_;clear H;rintro v29 CO a w ⟨rfl,-⟩ Gq H;exact fin H Gq (rfl)
  ·refine eU 35 39 28 32 rfl rfl fun _ a w G1 hG HT H fin=>?_;refine E9 H (wg H rfl rfl (aF c0)) rfl rfl rfl ?_;clear H;intro a H;exact fin H iJ (by show _=_;first|rfl|exact av vi (by omega))
  ·refine eU 36 40 28 32 rfl rfl fun _ a w G1 hG HT H fin=>?_;refine mD _ H (wg H rfl rfl (aF c0)) rfl rfl rfl (by omega) (by omega) rfl ?_;clear H;intro a H;exact fin H iJ (by show _=_;first|rfl|exact av vi (by omega))
  ·refine vK 33 37 40 44 28 32 rfl rfl fun _ a w G1 hG HT H fin=>?_;refine abG H (wg H rfl rfl (aF c0)) rfl rfl rfl ?_;clear H;intro a H;exact fin H iJ rfl
  ·refine eU 28 32 41 45 rfl rfl fun _ a w G1 hG HT H fin=>?_;refine kH H (Pt (aF c0) rfl ?_);clear H;intro a H;exact fin H iJ (aL (by first|(rw [dQ c0,uG];done)|(rw [gY c0,sZ];done)))
  ·refine eF 42 46 rfl rfl fun _ a w G1 hG HT H fin=>?_;refine s_call jM H wn rfl (jO _ _ H.ro _ 6) rfl ?_;clear H;rintro v47 Qd a w ⟨rfl,-⟩ Dt H;exact fin H Dt (rfl)
  ·refine eF 48 52 rfl rfl fun _ a w G1 hG HT H fin=>?_;refine s_call Q5 H wn rfl (V4 _ _ H.ro x.value hte.2) rfl ?_;clear H;rintro v53 WR a w rfl KZ H;exact fin H KZ (rfl)
  clear H;intro a w G rJ H hv;have H:=H.bg (hv 7 11 rfl rfl) rfl;have H:=H.bg (hv 25 29 rfl rfl) rfl;have H:=H.bg (hv 43 47 rfl rfl) rfl;have H:=H.bg (hv 49 53 rfl rfl) rfl;clear hv;refine jy qz gZ [_,_,_,_] [_,_,_,_] H wn rfl rfl rfl rfl rfl (by intro i q h;match i,h with|0,h=>exact h|1,h=>exact h|2,h=>exact h|3,h=>exact h|n+4,h=>simp at h) rfl rfl ?_;clear H;intro b54 a w aiq H;obtain ⟨G54,ajb,Tx,H⟩:=H.dW;refine s_call qZ H wn rfl (rz _ _ H.ro _ _ (Hl [bE (!oG x.name) 13,bE (decide (0 < (k:Int)) && (x.name.toList == y.name.toList)) 7,bE (decide (0 < (k:Int)) && Op.bytesLess x.name.toList y.name.toList) 6,rX x.value] Tx (show 4≤maxLen by decide))) rfl ?_;clear H;rintro v55 _ a w ⟨rfl,rfl⟩ - H;refine kH H (Ra rfl ?_);clear H;intro a H;refine aJ ⟨rfl,?_⟩;refine K2 _ _ ?_;clear K2;refine lr H results191 rfl ?_;exact H.rt (by rw [he];rfl)
 skip;refine dI hmx [[],[],[0,1],[0,1,2],(ra 0 4),(ra 0 5),(ra 0 6),(ra 0 7),[],[8],(ra 0 10),(ra 0 11),(ra 0 11),(ra 0 13),(ra 0 14),(ra 0 15),(ra 0 11),(ra 0 11),(ra 0 11++[17]),(ra 0 11++[17,18]),(ra 0 11++ra 16 4),(ra 0 11++ra 16 5),(ra 0 11++ra 16 6),(ra 0 23),(ra 0 24),(ra 0 25),[],[26],(ra 0 28),(ra 0 29),(ra 0 29),(ra 0 31),(ra 0 32),(ra 0 33),(ra 0 29),(ra 0 29),(ra 0 29++[35]),(ra 0 29++[35,36]),(ra 0 29++ra 34 4),(ra 0 29++ra 34 5),(ra 0 29++ra 34 6),(ra 0 41),(ra 0 42),(ra 0 43),[],[],[44,45],[44,45,46],(ra 44 4),(ra 0 49),(ra 0 50),(ra 0 51),(ra 0 52)] [50,51,52] (by kernel_rfl) [_,_,_,_,_,.bool (oG x.name),_,vi (bE (!oG x.name) 13),_,_,_,undef,undef,undef,undef,undef,undef,undef,undef,undef,undef,undef,undef,undef,.bool (decide (0 < (k:Int)) && (x.name.toList == y.name.toList)),vi (bE (decide (0 < (k:Int)) && (x.name.toList == y.name.toList)) 7),_,_,_,undef,undef,undef,undef,undef,undef,undef,undef,undef,undef,undef,undef,undef,.bool (decide (0 < (k:Int)) && Op.bytesLess x.name.toList y.name.toList),vi (bE (decide (0 < (k:Int)) && Op.bytesLess x.name.toList y.name.toList) 6),_,_,_,_,_,vi (rX x.value)] H (aI (X0 rfl fun hG=>Rg uj rfl (aH hG hb)) (Z0 rfl (Rm rfl)) (Z2 0 4 1 5 rfl (Ri vE xV rfl rfl)) (Z1 2 6 rfl (Rf AL rfl)) (aI (X1 3 7 rfl fun hG=>Rg gW rfl (aH hG (hrow 0 _ rfl))) ?_ (Z1 5 9 rfl (Rn rfl)) ?_ (aI (Z0 rfl (Rm rfl)) (Z1 8 12 rfl (Rc rfl)) (Z1 9 13 rfl (Rm rfl)) (aW (j:=10) (by kernel_rfl) (fun _ _ _ _ _ h=>h) rfl rfl rfl rfl rfl (fun _ _ h=>aY h (aL (aP c0))) rfl (fun _=>rfl)) (aI (aW (j:=10) (by kernel_rfl) (fun _ _ _ _ _ h=>h) rfl rfl rfl rfl rfl (fun _ _ h=>aY h (aL (aP c0))) rfl (fun _=>rfl)) (aW (j:=10) (by kernel_rfl) (fun _ _ _ _ _ h=>h) rfl rfl rfl rfl rfl (fun _ _ h=>aY h (aL (aP c0))) rfl (fun _=>rfl)) (aW (j:=10) (by kernel_rfl) (fun _ _ _ _ _ h=>h) rfl rfl rfl rfl rfl (fun _ _ h=>aY h (aL (aP c0))) rfl (fun _=>rfl)) (aW (j:=10) (by kernel_rfl) (fun _ _ _ _ _ h=>h) rfl rfl rfl rfl rfl (fun _ _ h=>aY h (aL (aP c0))) rfl (fun _=>rfl)) (aI (aW (j:=10) (by kernel_rfl) (fun _ _ _ _ _ h=>h) rfl rfl rfl rfl rfl (fun _ _ h=>aY h (aL (aP c0))) rfl (fun _=>rfl)) (aW (j:=10) (by kernel_rfl) (fun _ _ _ _ _ h=>h) rfl rfl rfl rfl rfl (fun _ _ h=>aY h (aL (aP c0))) rfl (fun _=>rfl)) (aW (j:=10) (by kernel_rfl) (fun _ _ _ _ _ h=>h) rfl rfl rfl rfl rfl (fun _ _ h=>aY h (aL (aP c0))) rfl (fun _=>rfl)) (aW (j:=10) (by kernel_rfl) (fun _ _ _ _ _ h=>h) rfl rfl rfl rfl rfl (fun _ _ h=>aY h (aL (aP c0))) rfl (fun _=>rfl)) (aI (aW (j:=10) (by kernel_rfl) (fun _ _ _ _ _ h=>h) rfl rfl rfl rfl rfl (fun _ _ h=>aY h (aL (aP c0))) rfl (fun _=>rfl)) (aW (j:=10) (by kernel_rfl) (fun _ _ _ _ _ h=>h) rfl rfl rfl rfl rfl (fun _ _ h=>aY h (aL (aP c0))) rfl (fun _=>rfl)) (aW (j:=10) (by kernel_rfl) (fun _ _ _ _ _ h=>h) rfl rfl rfl rfl rfl (fun _ _ h=>aY h (aL (aP c0))) rfl (fun _=>rfl)) (aW (j:=10) (by kernel_rfl) (fun _ _ _ _ _ h=>h) rfl rfl rfl rfl rfl (fun _ _ h=>aY h (aL (aP c0))) rfl (fun _=>rfl)) (aI ?_ ?_ (Z0 rfl (Rm rfl)) (Z1 26 30 rfl (Rc rfl)) (aI (Z1 27 31 rfl (Rm rfl)) (aW (j:=28) (by kernel_rfl) (fun _ _ _ _ _ h=>h) rfl rfl rfl rfl rfl (fun _ _ h=>aY h (aL (aP c0))) rfl (fun _=>rfl)) (aW (j:=28) (by kernel_rfl) (fun _ _ _ _ _ h=>h) rfl rfl rfl rfl rfl (fun _ _ h=>aY h (aL (aP c0))) rfl (fun _=>rfl)) (aW (j:=28) (by kernel_rfl) (fun _ _ _ _ _ h=>h) rfl rfl rfl rfl rfl (fun _ _ h=>aY h (aL (aP c0))) rfl (fun _=>rfl)) (aI (aW (j:=28) (by kernel_rfl) (fun _ _ _ _ _ h=>h) rfl rfl rfl rfl rfl (fun _ _ h=>aY h (aL (aP c0))) rfl (fun _=>rfl)) (aW (j:=28) (by kernel_rfl) (fun _ _ _ _ _ h=>h) rfl rfl rfl rfl rfl (fun _ _ h=>aY h (aL (aP c0))) rfl (fun _=>rfl)) (aW (j:=28) (by kernel_rfl) (fun _ _ _ _ _ h=>h) rfl rfl rfl rfl rfl (fun _ _ h=>aY h (aL (aP c0))) rfl (fun _=>rfl)) (aW (j:=28) (by kernel_rfl) (fun _ _ _ _ _ h=>h) rfl rfl rfl rfl rfl (fun _ _ h=>aY h (aL (aP c0))) rfl (fun _=>rfl)) (aI (aW (j:=28) (by kernel_rfl) (fun _ _ _ _ _ h=>h) rfl rfl rfl rfl rfl (fun _ _ h=>aY h (aL (aP c0))) rfl (fun _=>rfl)) (aW (j:=28) (by kernel_rfl) (fun _ _ _ _ _ h=>h) rfl rfl rfl rfl rfl (fun _ _ h=>aY h (aL (aP c0))) rfl (fun _=>rfl)) (aW (j:=28) (by kernel_rfl) (fun _ _ _ _ _ h=>h) rfl rfl rfl rfl rfl (fun _ _ h=>aY h (aL (aP c0))) rfl (fun _=>rfl)) (aW (j:=28) (by kernel_rfl) (fun _ _ _ _ _ h=>h) rfl rfl rfl rfl rfl (fun _ _ h=>aY h (aL (aP c0))) rfl (fun _=>rfl)) (aI (aW (j:=28) (by kernel_rfl) (fun _ _ _ _ _ h=>h) rfl rfl rfl rfl rfl (fun _ _ h=>aY h (aL (aP c0))) rfl (fun _=>rfl)) (aW (j:=28) (by kernel_rfl) (fun _ _ _ _ _ h=>h) rfl rfl rfl rfl rfl (fun _ _ h=>aY h (aL (aP c0))) rfl (fun _=>rfl)) ?_ ?_ (aI (X0 rfl fun hG=>Rg uj rfl (aH hG hb)) (Z0 rfl (Rm rfl)) (Z2 44 48 45 49 rfl (Ri vE xV rfl rfl)) (Z1 46 50 rfl (Rf RB rfl)) (aI (X1 47 51 rfl fun hG=>Rg gW rfl (aH hG (hrow 1 _ rfl))) ?_ (cu rfl) (cu rfl) (bC (cu rfl) dN)))))))))))))) ?_
 ·refine eF 4 8 rfl rfl fun _ a w G1 hG HT H fin=>?_;refine s_call KD H wn rfl (Kt _ _ H.ro x.name hte.1) rfl ?_;clear H;rintro v9 G9 a w ⟨rfl,-⟩ zS H;exact fin H zS (rfl)
 ·refine eF 6 10 rfl rfl fun _ a w G1 hG HT H fin=>?_;refine s_call jM H wn rfl (jO _ _ H.ro _ 13) rfl ?_;clear H;rintro v11 zG a w ⟨rfl,-⟩ yQ H;exact fin H yQ (rfl)
 ·refine eU 10 14 23 27 rfl rfl fun _ a w G1 hG HT H fin=>?_;refine kH H (Pf (aP c0) rfl ?_);clear H;intro a H;exact fin H iJ (aL (by first|(rw [dQ c0,uG];done)|(rw [gY c0,sZ];done)))
 ·refine eF 24 28 rfl rfl fun _ a w G1 hG HT H fin=>?_;refine s_call jM H wn rfl (jO _ _ H.ro _ 7) rfl ?_;clear H;rintro v29 CO a w ⟨rfl,-⟩ Gq H;exact fin H Gq (rfl)
 ·refine eU 28 32 41 45 rfl rfl fun _ a w G1 hG HT H fin=>?_;refine kH H (Pf (aP c0) rfl ?_);clear H;intro a H;exact fin H iJ (aL (by first|(rw [dQ c0,uG];done)|(rw [gY c0,sZ];done)))
 ·refine eF 42 46 rfl rfl fun _ a w G1 hG HT H fin=>?_;refine s_call jM H wn rfl (jO _ _ H.ro _ 6) rfl ?_;clear H;rintro v47 Qd a w ⟨rfl,-⟩ Dt H;exact fin H Dt (rfl)
 ·refine eF 48 52 rfl rfl fun _ a w G1 hG HT H fin=>?_;refine s_call Q5 H wn rfl (V4 _ _ H.ro x.value hte.2) rfl ?_;clear H;rintro v53 WR a w rfl KZ H;exact fin H KZ (rfl)
 clear H;intro a w G rJ H hv;have H:=H.bg (hv 7 11 rfl rfl) rfl;have H:=H.bg (hv 25 29 rfl rfl) rfl;have H:=H.bg (hv 43 47 rfl rfl) rfl;have H:=H.bg (hv 49 53 rfl rfl) rfl;clear hv;refine jy qz gZ [_,_,_,_] [_,_,_,_] H wn rfl rfl rfl rfl rfl (by intro i q h;match i,h with|0,h=>exact h|1,h=>exact h|2,h=>exact h|3,h=>exact h|n+4,h=>simp at h) rfl rfl ?_;clear H;intro b54 a w aiq H;obtain ⟨G54,ajb,Tx,H⟩:=H.dW;refine s_call qZ H wn rfl (rz _ _ H.ro _ _ (Hl [bE (!oG x.name) 13,bE (decide (0 < (k:Int)) && (x.name.toList == y.name.toList)) 7,bE (decide (0 < (k:Int)) && Op.bytesLess x.name.toList y.name.toList) 6,rX x.value] Tx (show 4≤maxLen by decide))) rfl ?_;clear H;rintro v55 _ a w ⟨rfl,rfl⟩ - H;refine kH H (Ra rfl ?_);clear H;intro a H;refine aJ ⟨rfl,?_⟩;refine K2 _ _ ?_;clear K2;refine lr H results191 rfl ?_;exact H.rt (by rw [he];rfl)
def zN (l:List nP):Int:=bK [bE (decide (128 < (l.length:Int))) 9,iC (wT l) (min l.length 128)]
theorem aeL (G:GH) (w0:World) (hG:Hold G w0) (l:List nP) (v:aj) (hv:aC G (.sl 2 (l.map nP.dat)) v) (hl:l.length≤4294967296) (ht:∀ x∈l,x.name.size < 4611686018427387904∧x.value.size < 4611686018427387904) :
  Calls prog 129 #[v] w0 (bY w0 G fun u G'=>u=vi (zN l)):=by
 obtain ⟨A,c,rfl,hc1,hc2,-⟩:=hv.slice;rw [bQ] at *;refine eN [(0,_)] func129 rfl ntmps129 rfl rfl hG ?_;intro a H;refine dh (fun _ K1=>?_);refine fB (cs:=[_]) H wn rfl rfl rfl ?_;clear H;intro b1 a w hb1 H;refine kH H (ak K1 rfl (SQ fun _ K2=>?_));clear H K1;intro a H;have H:=H.sub (T':=[(1,_)]) ⟨rfl,aB⟩;obtain ⟨Ga,hma,hb1',H⟩:=H.dW
 have hbl:aG Ga b1 0=some (.slice A l.length c):=by unfold aG;rw [hb1'];rfl
 have hcb:=aoH hbl (hv.mono hma) hl ht;refine dI hmx [[],[0],[0,1],[0,1,2],[],[4],[4,5],[],(ra 0 8),(ra 0 9),(ra 0 10),(ra 0 11)] [9,10,11] (by kernel_rfl) [_,_,_,vi (bE (decide (128 < (l.length:Int))) 9),_,_,vi ((min l.length 128:Nat):Int),.func (.func 191) #[] #[(aQ b1 0)],vi (iC (wT l) (min l.length 128))] H (aI (X0 rfl fun hG=>Rg uj rfl (aH hG hbl)) (Z1 0 3 rfl (Rl vE rfl)) (Z1 1 4 rfl (Rc rfl)) ?_ (aI (X0 rfl fun hG=>Rg uj rfl (aH hG hbl)) (Z1 4 7 rfl (Rl vE rfl)) ?_ ?_ (aI ?_ (cu rfl) (cu rfl) (cu rfl) dN))) ?_
 ·refine eF 2 5 rfl rfl fun _ a w G1 hG HT H fin=>?_;refine s_call jM H wn rfl (jO _ _ H.ro _ 9) rfl ?_;clear H;rintro v6 G6 a w ⟨rfl,-⟩ lS H;exact fin H lS (rfl)
 ·refine eF 5 8 rfl rfl fun _ a w G1 hG HT H fin=>?_;refine Pw H wn rfl rfl rfl ?_;clear H;intro a H;exact fin H iJ (av vi (by omega))
 ·refine BI rfl fun _ a w G1 hG HT H fin=>?_;refine pV H wn rfl rfl ?_;clear H;intro a H;exact fin H iJ rfl
 ·refine eU 6 9 7 10 rfl rfl fun _ a w G1 hG HT H fin=>?_;refine s_call IJ H wn rfl (Ko _ _ H.ro (min l.length 128) (wT l) _ (by omega) ((hcb.mono hG).le (Nat.min_le_left _ _))) rfl ?_;clear H;rintro v11 zG a w rfl yQ H;exact fin H yQ (rfl)
 clear H;intro a w G rJ H hv;have H:=H.bg (hv 3 6 rfl rfl) rfl;have H:=H.bg (hv 8 11 rfl rfl) rfl;clear hv;refine jy qz gZ [_,_] [_,_] H wn rfl rfl rfl rfl rfl (by intro i q h;match i,h with|0,h=>exact h|1,h=>exact h|n+2,h=>simp at h) rfl rfl ?_;clear H;intro b12 a w EH H;obtain ⟨yw,xH,Gx,H⟩:=H.dW;refine s_call qZ H wn rfl (rz _ _ H.ro _ _ (Af Gx)) rfl ?_;clear H;rintro v13 _ a w ⟨rfl,rfl⟩ - H;refine kH H (Ra rfl ?_);clear H;intro a H;refine aJ ⟨rfl,?_⟩;refine K2 _ _ ?_;clear K2;refine lr H results129 rfl ?_;exact H.rt rfl
structure vM where
 styles:List bL
 lists:List dM
 comments:List jd
 vars:List nP
structure CW (G:GH) (s:vM) (a b c d:aj):Prop where
 st:aC G (.sl 6 (s.styles.map bL.dat)) a
 li:aC G (.sl 2 (s.lists.map dM.dat)) b
 cm:aC G (.sl 6 (s.comments.map jd.dat)) c
 va:aC G (.sl 2 (s.vars.map nP.dat)) d
structure Kl (s:vM):Prop where
 sn:∀ x∈s.styles,x.name.size≤4611686018427387904
 ln:s.lists.length≤4294967296
 lt:∀ x∈s.lists,∀ y∈x.levels,y.Bz.size < 4611686018427387904
 cn:s.comments.length≤4294967296
 ct:∀ x∈s.comments,x.author.size < 4611686018427387904∧x.text.size < 4611686018427387904
 vn:s.vars.length≤4294967296
 vt:∀ x∈s.vars,x.name.size < 4611686018427387904∧x.value.size < 4611686018427387904
 pl:∀ x∈s.styles,x.props.length≤4294967296
 ll:∀ x∈s.lists,x.levels.length≤4294967296
def jX (s:vM):Int:=bK [gH s.styles,vT s.lists,tC s.comments,zN s.vars]
theorem aeK (G:GH) (w0:World) (hG:Hold G w0) (s:vM) (a b c d:aj) (hR:CW G s a b c d) (hz:Kl s) :
  Calls prog 73 #[.agg #[a,b,c,d]] w0 (bY w0 G fun u G'=>u=vi (jX s)):=by
 obtain ⟨sA,sn,sc,rfl⟩:=hR.st.form;obtain ⟨lA,ln,lc,rfl⟩:=hR.li.form;obtain ⟨cA,cn,cc,rfl⟩:=hR.cm.form;obtain ⟨vA,vn,vc,rfl⟩:=hR.va.form;refine eN [(0,_)] func73 rfl ntmps73 rfl rfl hG ?_;intro a H;refine dh (fun _ K1=>?_);refine fB (cs:=[_,_,_,_]) H wn rfl rfl rfl ?_;clear H;intro b1 a w hb1 H;refine kH H (ak K1 rfl (SQ fun _ K2=>?_));clear H K1;intro a H;have H:=H.sub (T':=[(1,_)]) ⟨rfl,aB⟩;obtain ⟨Ga,hma,hb1',H⟩:=H.dW
 have hc0:aG Ga b1 0=some (.slice sA sn sc):=by unfold aG;rw [hb1'];rfl
 have hc1:aG Ga b1 1=some (.slice lA ln lc):=by unfold aG;rw [hb1'];rfl
 have hc2:aG Ga b1 2=some (.slice cA cn cc):=by unfold aG;rw [hb1'];rfl
 have hc3:aG Ga b1 3=some (.slice vA vn vc):=by unfold aG;rw [hb1'];rfl
 refine dI hmx [[],[0],[0,1],[],[3],(ra 0 5),[],[6],(ra 0 8),[],[9],(ra 0 11),(ra 0 12),(ra 0 13),(ra 0 14)] [12,13,14] (by kernel_rfl) [_,_,vi (gH s.styles),_,_,vi (vT s.lists),_,_,vi (tC s.comments),_,_,vi (zN s.vars)] H (aI (Z0 rfl (Rf Ew rfl)) (X1 0 3 rfl fun hG=>Rg qy rfl (aH hG hc0)) ?_ (Z0 rfl (Rf AO rfl)) (aI (X1 3 6 rfl fun hG=>Rg wP rfl (aH hG hc1)) ?_ (Z0 rfl (Rf F7 rfl)) (X1 6 9 rfl fun hG=>Rg Aj rfl (aH hG hc2)) (aI ?_ (Z0 rfl (Rf F8 rfl)) (X1 9 12 rfl fun hG=>Rg uj rfl (aH hG hc3)) ?_ (bC (cu rfl) (bC (cu rfl) (bC (cu rfl) dN)))))) ?_
 ·refine eF 1 4 rfl rfl fun _ a w G1 hG HT H fin=>?_;refine s_call YT H wn rfl (X8 _ _ H.ro s.styles _ ((hR.st.mono hma).mono hG) hz.sn) rfl ?_;clear H;rintro v5 G5 a w rfl N7 H;exact fin H N7 (rfl)
 ·refine eF 4 7 rfl rfl fun _ a w G1 hG HT H fin=>?_;refine s_call afu H wn rfl (aeI _ _ H.ro s.lists _ ((hR.li.mono hma).mono hG) hz.ln hz.lt) rfl ?_;clear H;rintro v8 G8 a w rfl zR H;exact fin H zR (rfl)
 ·refine eF 7 10 rfl rfl fun _ a w G1 hG HT H fin=>?_;refine s_call afv H wn rfl (aeG _ _ H.ro s.comments _ ((hR.cm.mono hma).mono hG) hz.cn hz.ct) rfl ?_;clear H;rintro v11 zG a w rfl yQ H;exact fin H yQ (rfl)
 ·refine eF 10 13 rfl rfl fun _ a w G1 hG HT H fin=>?_;refine s_call afw H wn rfl (aeL _ _ H.ro s.vars _ ((hR.va.mono hma).mono hG) hz.vn hz.vt) rfl ?_;clear H;rintro v14 MR a w rfl NZ H;exact fin H NZ (rfl)
 clear H;intro a w G rJ H hv;have H:=H.bg (hv 2 5 rfl rfl) rfl;have H:=H.bg (hv 5 8 rfl rfl) rfl;have H:=H.bg (hv 8 11 rfl rfl) rfl;have H:=H.bg (hv 11 14 rfl rfl) rfl;clear hv;refine jy qz gZ [_,_,_,_] [_,_,_,_] H wn rfl rfl rfl rfl rfl (by intro i q h;match i,h with|0,h=>exact h|1,h=>exact h|2,h=>exact h|3,h=>exact h|n+4,h=>simp at h) rfl rfl ?_;clear H;intro b15 a w Tt H;obtain ⟨Fx,yU,aii,H⟩:=H.dW;refine s_call qZ H wn rfl (rz _ _ H.ro _ _ (Hl [gH s.styles,vT s.lists,tC s.comments,zN s.vars] aii (show 4≤maxLen by decide))) rfl ?_;clear H;rintro v16 _ a w ⟨rfl,rfl⟩ - H;refine kH H (Ra rfl ?_);clear H;intro a H;refine aJ ⟨rfl,?_⟩;refine K2 _ _ ?_;clear K2;refine lr H results73 rfl ?_;exact H.rt rfl
end
section
open Go.RowKit
def pJ:Nat→List (Int × aj)→List MapEntry
 | _,[]=>[]
 | i,(k,v) :: r=>⟨.int .i64 k,v,i⟩ :: pJ (i+1) r
theorem aaX (x:Int × aj):∀ (i:Nat) (l:List (Int × aj)),pJ i (l++[x])=pJ i l++[⟨.int .i64 x.1,x.2,i+l.length⟩]
 | _,[]=>rfl
 | i,k :: r=>by
  rw [nS,pJ,aaX x (i+1) r,pJ,nS,kW,show i+1+r.length=i+(r.length+1) by omega]
def uV (x:Int):List (Int × aj)→Option aj
 | []=>none
 | (k,v) :: r=>if k=x then some v else uV x r
theorem LX {x:Int}:∀ {l:List (Int × aj)},x∉l.map (·.1)→uV x l=none
 | [],_=>rfl
 | (k,v) :: r,h=>by
  rw [uV,ah (fun e=>h (by simp [e])),LX (fun hm=>h (vR _ hm))]
theorem RN (x:Int):∀ (i j:Nat) (l:List (Int × aj)),∃ an,Instr.findNow (.int .i64) (.int .i64 x) (pJ i l) j=some an∧an.map (·.2)=uV x l
 | _,_,[]=>⟨none,rfl,rfl⟩
 | i,j,(k,v) :: r=>by
  obtain ⟨an,h1,h2⟩:=RN x (i+1) (j+1) r
  by_cases e:k=x
  ·subst e
   exact ⟨some (j,v),by simp only [pJ,Instr.findNow,Instr.sameNow,au,beq_self_eq_true],by rw [uV,au rfl];rfl⟩
  ·have hb:(x == k)=false:=by simp;exact fun h=>e h.symm
   exact ⟨an,by simpa only [pJ,Instr.findNow,Instr.sameNow,au,hb] using h1,by rw [uV,ah e];exact h2⟩
abbrev fu (l:List (Int × aj)):Obj:=.map (pJ 0 l).toArray l.length
section
variable {N:Nat} {D:List Deferred} {w0:World} {F:Nat→Prop} {G0 G:GH} {L:OL} {T:List (Nat × aj)}
variable {r:Option Nat} {P:Program} {ops:Array Oper} {Q:Exit→Act→World→Prop} {rest:List Oper} {a:Act} {w:World}
variable {d:Nat} {ty:TypeId} {pos:String} {aR:Array Edge} {g:Option (Nat × Bool)}
theorem Bv {t kt et:TypeId} {x y:Operand} {b:Nat} {l:List (Int × aj)} {ky:Int} {zv:aj} (hm:P.underlying t=some (.map kt et)) (hk:P.underlying kt=some (.int .i64)) (hz:(P.info? et).map (fun i=>i.zero)=some (some zv)) (H:St N D w0 F G0 G L T a w)
  (hw:Region.wanted ⟨some d,.lookup t x y false,ty,pos,aR,g⟩ (yielded ops a.tmps)=true) (hx:ev T x=some (.map (some b))) (hy:ev T y=some (.int .i64 ky)) (hb:w.heap[b]?=some (fu l)) (hd:Nat.blt d N=true)
  (k:∀ a',St N D w0 F G0 G L ((d,(uV ky l).getD zv) :: T) a' w→WL r P ops Q rest a' w):WL r P ops Q (⟨some d,.lookup t x y false,ty,pos,aR,g⟩ :: rest) a w:=by
 obtain ⟨an,hf,han⟩:=RN ky 0 0 l
 obtain ⟨inf,hi1,hi2⟩:=oC.1 hz
 refine iF (v:=(uV ky l).getD zv) (w':=w) hw rfl ?_ (k _ (H.put hd _ H.hp))
 have hkey:MapKept.IsKey (.int .i64) (.int .i64 ky):=by trivial
 have hf2:Instr.findNow (.int .i64) (.int .i64 ky) (pJ 0 l).toArray.toList 0=some an:=by simpa using hf
 replace hb:w.heap[b]?=some (.map (pJ 0 l).toArray l.length):=hb
 generalize (pJ 0 l).toArray=es at hb hf2
 have h1:=MapKept.run_checkKey (P:=P) (w:=w) hk hkey es.isEmpty 9999
 have h2:=MapKept.run_findKey (P:=P) (w:=w) hk hf2
 rw [← han]
 cases an with
 | none=>simp [execOp,Instr.lookup,H.ev hx,H.ev hy,fD,qx hm,MapKept.run_getObj_map hb,h1,h2,Result.andThen,zeroValue,H9 hi1,hi2]
 | some q=>simp [execOp,Instr.lookup,H.ev hx,H.ev hy,fD,qx hm,MapKept.run_getObj_map hb,h1,h2,Result.andThen]
theorem JI {t kt et:TypeId} {x y z:Operand} {b i:Nat} {l:List (Int × aj)} {ky:Int} {v:aj} (hm:P.underlying t=some (.map kt et)) (hk:P.underlying kt=some (.int .i64)) (H:St N D w0 F G0 G L T a w)
  (hw:Region.wanted ⟨none,.mapUpdate t x y z,ty,pos,aR,g⟩ (yielded ops a.tmps)=true) (hx:ev T x=some (.map (some b))) (hy:ev T y=some (.int .i64 ky)) (hzv:ev T z=some v) (hi:L[i]?=some (b,fu l)) (hn:uV ky l=none)
  (k:∀ w',St N D w0 F G0 G (L.set i (b,fu (l++[(ky,v)]))) T a w'→WL r P ops Q rest a w'):WL r P ops Q (⟨none,.mapUpdate t x y z,ty,pos,aR,g⟩ :: rest) a w:=by
 obtain ⟨an,hf,han⟩:=RN ky 0 0 l
 have hnone:an=none:=by
  rw [hn] at han
  cases an with
  | none=>rfl
  | some q=>cases han
 subst hnone
 refine abH (i:=i) hm hk H hw hx hy hzv hi (by trivial) (by simpa using hf) ?_
 intro w' H'
 have e:(pJ 0 l).toArray.push ⟨.int .i64 ky,v,l.length⟩=(pJ 0 (l++[(ky,v)])).toArray:=by
  rw [aaX,List.push_toArray,nT]
 refine k w' ?_
 rw [e] at H'
 rw [fu,jP]
 exact H'
end
end
section
open Go.RowKit
theorem Ak:prog.underlying 96=some (.map 3 4):=by kernel_rfl
theorem zy:Ty prog 82 3 32 [.int .i64 0,.string ⟨#[]⟩,.int .i64 0] true:=⟨by kernel_rfl,by kernel_rfl⟩
theorem anN:sU prog 98 [(0,1),(1,1),(2,1),(3,1),(4,1),(5,1)] [.map none,.map none,.map none,.map none,.map none,.int .i64 0]:=⟨by kernel_rfl,by kernel_rfl⟩
theorem Dh:dJ prog 38 3 7:=⟨by kernel_rfl⟩
theorem KQ:dJ prog 98 0 0:=⟨by kernel_rfl⟩
theorem Mw:Ty prog 95 1 8 [.map none] false:=⟨by kernel_rfl,by kernel_rfl⟩
theorem Y9:dJ prog 98 1 1:=⟨by kernel_rfl⟩
theorem wR:Ty prog 96 1 8 [.map none] false:=⟨by kernel_rfl,by kernel_rfl⟩
theorem Dg:dJ prog 38 2 6:=⟨by kernel_rfl⟩
theorem xW:Ty prog 30 1 24 [.slice none 0 0] false:=⟨by kernel_rfl,by kernel_rfl⟩
theorem xY:prog.underlying 30=some (.slice 82):=by kernel_rfl
theorem KR:dJ prog 98 2 2:=⟨by kernel_rfl⟩
theorem KO:dJ prog 82 0 0:=⟨by kernel_rfl⟩
structure dU where
 id:Int
 author:ByteArray
 time:Int
def dU.dat (x:dU):List Dat:=[li x.id,.lf (.string x.author),li x.time]
abbrev dU.cells (x:dU):List aj:=[vi x.id,.string x.author,vi x.time]
theorem amH {G:GH} {x:dU} {cs:List aj} (h:bJ G x.dat cs):cs=x.cells:=by
 simp only [dU.dat,bJ,aC] at h
 obtain ⟨_,_,rfl,⟨rfl,_⟩,_,_,rfl,⟨rfl,_⟩,_,_,rfl,⟨rfl,_⟩,rfl⟩:=h
 rfl
theorem JE {G:GH} {l:List dU} {A:Option Addr} {n c k:Nat} (hv:aC G (.sl 3 (l.map dU.dat)) (.slice A n c)) (hk:k < l.length):∃ b o,A=some ⟨b,o,none⟩∧(∀ j u,l[k].cells[j]?=some u→aG G b (o+k*3+j)=some u):=by
 obtain ⟨A',c',he,_,_,hg⟩:=hv.slice
 injection he with e1 e2 e3
 subst e1;obtain ⟨b,o,cs,h1,h2,h3,h4⟩:=hg k l[k].dat (by simp [hk]);have:=amH h4;subst this;exact ⟨b,o,h1,h3⟩
abbrev gI (b ms ml mr mb mu:Nat) (n:Int):Nat × Obj:=(b,.cells #[.map (some ms),.map (some ml),.map (some mr),.map (some mb),.map (some mu),vi n] 98 (0,0))
def Bq (l:List bL):List (Int × aj):=l.map fun s=>(s.id,vi s.kind)
def fT (l:List Int):List (Int × aj):=l.map fun k=>(k,.bool true)
structure wW (us:List Int) (G:GH) (st:List bL) (li:List dM) (rv:List dU) (ms ml mr mu:Nat):Prop where
 sty:G ms=some (fu (Bq st))
 uU:G ml=some (fu (fT (li.map dM.id)))
 rev:G mr=some (fu (fT (rv.map dU.id)))
 use:G mu=some (fu (fT us))
theorem wW.mono {us:List Int} {G G':GH} {st:List bL} {li:List dM} {rv:List dU} {ms ml mr mu:Nat} (h:wW us G st li rv ms ml mr mu) (hm:∀ b o,G b=some o→G' b=some o):wW us G' st li rv ms ml mr mu:=⟨hm _ _ h.sty,hm _ _ h.uU,hm _ _ h.rev,hm _ _ h.use⟩
structure P6 (G:GH) (st:List bL) (li:List dM) (rv:List dU) (ms ml mr:Nat):Prop where
 sty:G ms=some (fu (Bq st))
 uU:G ml=some (fu (fT (li.map dM.id)))
 rev:G mr=some (fu (fT (rv.map dU.id)))
theorem P6.with {us:List Int} {G G':GH} {st:List bL} {li:List dM} {rv:List dU} {ms ml mr mu:Nat} (h:P6 G st li rv ms ml mr) (hm:∀ b o,G b=some o→G' b=some o) (hu:G' mu=some (fu (fT us))):wW us G' st li rv ms ml mr mu:=⟨hm _ _ h.sty,hm _ _ h.uU,hm _ _ h.rev,hu⟩
def zF (l:List Int):Prop:=∀ (k:Nat) (h:k < l.length),l[k]∉l.take k
theorem ald {l:List bL} {k:Nat} (h:k < l.length):Bq (l.take (k+1))=Bq (l.take k)++[(l[k].id,vi l[k].kind)]:=by rw [Bq,mV h,mW];rfl
theorem U6 {l:List Int} {k:Nat} (h:k < l.length):fT (l.take (k+1))=fT (l.take k)++[(l[k],.bool true)]:=by rw [fT,mV h,mW];rfl
theorem alc {l:List bL} {k:Nat} (f:zF (l.map bL.id)) (h:k < l.length):uV l[k].id (Bq (l.take k))=none:=by
 refine LX ?_;have:=f k (by simpa using h)
 simpa [Bq,List.map_take,List.map_map,Function.comp_def] using this
theorem U5 {l:List Int} {k:Nat} (f:zF l) (h:k < l.length):uV l[k] (fT (l.take k))=none:=by
 refine LX ?_;have:=f k h
 simpa [fT,List.map_map,Function.comp_def] using this
theorem abe (G:GH) (w0:World) (hO:ji G [] w0) (D:jT) (st:List bL) (li:List dM) (rv:List dU) (hst:aC G (.sl 6 (st.map bL.dat)) (bU D.s1)) (wE:aC G (.sl 2 (li.map dM.dat)) (bU D.s2)) (nN:aC G (.sl 3 (rv.map dU.dat)) (bU D.r))
  (f1:zF (st.map bL.id)) (f2:zF (li.map dM.id)) (f3:zF (rv.map dU.id)) (z1:st.length≤4294967296) (z2:li.length≤4294967296) (z3:rv.length≤4294967296) :
  Calls prog 45 #[D.val] w0 (iM w0 G [] fun u G' L'=>∃ b ms ml mr mb mu,u=(aQ b 0)∧L'=[gI b ms ml mr mb mu 0,(mb,fu []),(mu,fu [])]∧P6 G' st li rv ms ml mr):=by
 obtain ⟨df,dp,dd,dy,⟨rA,rn,rc⟩,⟨sA,sn,sc⟩,⟨lA,ln,lc⟩,d3,d4,ins,mv⟩:=D;dsimp only at hst wE nN
 obtain rfl:sn=st.length:=by have:=hst.len;simpa using this
 obtain rfl:ln=li.length:=by have:=wE.len;simpa using this
 obtain rfl:rn=rv.length:=by have:=nN.len;simpa using this
 have hml:maxLen=9223372036854775807:=rfl;refine lq (N:=64) (T:=[(0,_)]) func45 rfl ntmps45 rfl rfl hO ?_;intro a H;refine dh (fun _ K1=>?_);refine fB (cs:=[_,_,_,_,_,_,_,_,_,_,_]) H wn rfl rfl rfl ?_;clear H;intro b1 a w hb1 H;refine kH H (ak K1 rfl (SQ fun _ K2=>?_));clear H K1;intro a H;obtain ⟨Ga,hma,hb1',H⟩:=H.dW
 have Oe:aG Ga b1 7=some (.slice sA st.length sc):=by unfold aG;rw [hb1'];rfl
 have hc8:aG Ga b1 8=some (.slice lA li.length lc):=by unfold aG;rw [hb1'];rfl
 have hc6:aG Ga b1 6=some (.slice rA rv.length rc):=by unfold aG;rw [hb1'];rfl
 replace hst:=hst.mono hma;replace wE:=wE.mono hma;replace nN:=nN.mono hma;refine qG ?_;refine Ib H wn rfl ?_;clear H;intro b10 a w I9 H;refine Ib H wn rfl ?_;clear H;intro b11 a w Gw H;refine Ib H wn rfl ?_;clear H;intro b12 a w EH H;refine Ib H wn rfl ?_;clear H;intro b13 a w Od H;refine Ib H wn rfl ?_;clear H;intro b14 a w Tq H;refine lJ anN [_,_,_,_,_,_] H wn rfl rfl rfl rfl ?_;clear H;intro a H;refine fB (cs:=[_,_,_,_,_,_]) H wn rfl rfl rfl ?_;clear H;intro b16 a w apx H;refine kH H (aM K2 rfl (SQ fun _ K3=>SR fun _ K4=>Rf Dh rfl (Rf Ew rfl (Rg qy rfl (by assumption) ?_))));clear H K2;intro a H;refine kH H (Rl nD rfl (Rm rfl (Kz K4 (SB ?_))));clear H K4;intro a H;skip;refine eT (ι:=Nat × GH) (Tc:=[(1,_),(3,_),(19,_),(20,_)]) (Lc:=[(_,_),(_,_),(_,_),(_,_),(_,_)]) (fun gh=>[(21,vi gh.1)]) (fun gh=>[(b10,fu (Bq (st.take gh.1)))]) (fun gh=>gh.2) (fun gh=>gh.1≤st.length∧(∀ b o,Ga b=some o→gh.2 b=some o)) (fun gh=>st.length - gh.1) ((0,Ga)) (by exact (H).sub ⟨rfl,rfl,rfl,rfl,rfl,aB⟩) ?_ ?_
 ·exact ⟨gX _,fun _ _ h=>h⟩
 clear H;rintro ⟨k,g1⟩ a w hI H;dsimp only at hI H;obtain ⟨hk,Jk⟩:=hI;dsimp only [lca,aO] at H;refine kP H (SR fun _ K5=>Rc rfl (Kz K5 (SQ fun _ K6=>Cd rfl ?_ ?_))) <;> clear H K5
 ·intro h22 a H
  try have jE:=dT h22
  have hk2:k < st.length:=by omega
  obtain ⟨xb,xo,pA,pc,rfl,hrow,-,-⟩:=Bw (hst.mono Jk) hk2;have hnew:=alc f1 hk2;refine kP H (Kc K6 (SQ fun _ K7=>SB (SR fun _ K8=>Ri nD kL rfl rfl ?_)));clear H K6;intro a H;refine bP kL (cs:=_) H wn rfl rfl (fun j v hj=>H.hp.aG (hrow j v hj)) rfl ?_;clear H;intro a H;refine eH kL H wn rfl ?_;clear H;intro b5 a w hb5 H;refine bT kL 0 (vs:=[_,_,_,_,_,_]) _ H wn rfl rfl rfl rfl rfl rfl rfl rfl ?_;clear H;intro w H;dsimp only [List.set,setRow] at H;refine K8 _ _ ?_;clear K8;refine dI hmx [[],[0],[0,1],[0,1,2],[],[4],[],[6],(ra 0 8)] [8] (by kernel_rfl) [_,_,_,.map (some b10),_,vi st[k].id,_,vi st[k].kind] H (aI (Z0 rfl (Rm rfl)) (Z1 0 25 rfl (Rk rfl)) (Z1 1 26 rfl (Rf KQ rfl)) (Z1 2 27 rfl (Ro Mw 1 rfl)) (aI (Z0 rfl (Rf vV rfl)) (Z1 4 29 rfl (Ro aD 0 rfl)) (Z0 rfl (Rf yL rfl)) (Z1 6 31 rfl (Ro aD 0 rfl)) (bC (cu rfl) dN))) ?_
  clear H;intro a w G N7 H hv;have H:=H.bg (hv 3 28 rfl rfl) rfl;have H:=H.bg (hv 5 30 rfl rfl) rfl;have H:=H.bg (hv 7 32 rfl rfl) rfl;clear hv;refine JI (i:=6) Ig nZ H wn rfl rfl rfl rfl hnew ?_;clear H;intro w H;dsimp only [List.set,List.append,lca,aO] at H;rw [← ald hk2] at H;refine aJ ⟨rfl,?_⟩;refine K7 _ _ ?_;clear K7;refine kP H (SC (Rd rfl (Rm rfl ?_)));clear H;intro a H;refine aJ ?_;refine dH ((k+1,G)) (by exact (H.dB (Pl:=[_,_,_,_,_,_,_]) (cB:=[_,_,_,_,_,_]) [1,2,3,4,5,6] (by decide) rfl).sub ⟨rfl,rfl,rfl,rfl,rfl,aB⟩) ?_ ?_
  ·(try dsimp only);exact ⟨by omega,fun b o h=>N7 b o (Jk b o h)⟩
  first|omega|(dsimp only;omega)
 intro h22 a H
 try have jE:=dF h22
 obtain rfl:k=st.length:=by omega
 rw [Eo] at H;have apN:=aH Jk hc8;refine dR ?_;refine K3 _ _ ?_;clear K3;refine kP H (SQ fun _ K9=>SR fun _ aV=>Rf Dh rfl (Rf AO rfl (Rg wP rfl (by assumption) ?_)));clear H;intro a H;refine kH H (Rl wS rfl (Rm rfl (Kz aV (SB ?_))));clear H aV;intro a H;skip;refine eT (ι:=Nat × GH) (Tc:=[(1,_),(3,_),(36,_),(37,_)]) (Lc:=[(_,_),(_,_),(_,_),(_,_),(_,_)]) (fun gh=>[(38,vi gh.1)]) (fun gh=>[(b11,fu (fT ((li.map dM.id).take gh.1)))]) (fun gh=>gh.2) (fun gh=>gh.1≤li.length∧(∀ b o,g1 b=some o→gh.2 b=some o)) (fun gh=>li.length - gh.1) ((0,g1)) (by exact (H.dB (Pl:=[_,_,_,_,_,_]) (cB:=[_,_,_,_,_,_]) [0,1,2,3,5,4] (by decide) rfl).sub ⟨rfl,rfl,rfl,rfl,rfl,aB⟩) ?_ ?_
 ·exact ⟨gX _,fun _ _ h=>h⟩
 clear H;rintro ⟨k,g2⟩ a w hI H;dsimp only at hI H;obtain ⟨hk,Oo⟩:=hI;dsimp only [lca,aO] at H;refine kP H (SR fun _ bF=>Rc rfl (Kz bF (SQ fun _ bG=>Cd rfl ?_ ?_))) <;> clear H bF
 ·intro jR a H
  try have p39:=dT jR
  have hk2:k < li.length:=by omega
  obtain ⟨xb,xo,B,d,rfl,hrow,-⟩:=Ht ((wE.mono Jk).mono Oo) hk2
  have hk3:k < (li.map dM.id).length:=by simpa using hk2
  have hnew:=U5 f2 hk3
  have Ls:(li.map dM.id)[k]=li[k].id:=by simp
  rw [Ls] at hnew;refine kP H (Kc bG (SQ fun _ bM=>SB (SR fun _ bN=>Ri wS zw rfl rfl ?_)));clear H bG;intro a H;refine bP zw (cs:=_) H wn rfl rfl (fun j v hj=>H.hp.aG (hrow j v hj)) rfl ?_;clear H;intro a H;refine eH zw H wn rfl ?_;clear H;intro b7 a w zT H;refine bT zw 0 (vs:=[_,_]) _ H wn rfl rfl rfl rfl rfl rfl rfl rfl ?_;clear H;intro w H;dsimp only [List.set,setRow] at H;refine bN _ _ ?_;clear bN;refine dI hmx [[],[0],[0,1],[0,1,2],[],[4],(ra 0 6)] [6] (by kernel_rfl) [_,_,_,.map (some b11),_,vi li[k].id] H (aI (Z0 rfl (Rm rfl)) (Z1 0 42 rfl (Rk rfl)) (Z1 1 43 rfl (Rf Y9 rfl)) (Z1 2 44 rfl (Ro wR 1 rfl)) (bC (Z0 rfl (Rf KG rfl)) (bC (Z1 4 46 rfl (Ro aD 0 rfl)) (bC (cu rfl) dN)))) ?_
  clear H;intro a w G rM H hv;have H:=H.bg (hv 3 45 rfl rfl) rfl;have H:=H.bg (hv 5 47 rfl rfl) rfl;clear hv;refine JI (i:=6) Ak nZ H wn rfl rfl rfl rfl hnew ?_;clear H;intro w H;dsimp only [List.set,List.append,lca,aO] at H;rw [← Ls,← U6 hk3] at H;refine aJ ⟨rfl,?_⟩;refine bM _ _ ?_;clear bM;refine kP H (SC (Rd rfl (Rm rfl ?_)));clear H;intro a H;refine aJ ?_;refine dH ((k+1,G)) (by exact (H.dB (Pl:=[_,_,_,_,_,_,_]) (cB:=[_,_,_,_,_,_]) [1,2,3,4,5,6] (by decide) rfl).sub ⟨rfl,rfl,rfl,rfl,rfl,aB⟩) ?_ ?_
  ·(try dsimp only);exact ⟨by omega,fun b o h=>rM b o (Oo b o h)⟩
  first|omega|(dsimp only;omega)
 intro jR a H
 try have p39:=dF jR
 obtain rfl:k=li.length:=by omega
 rw [lZ (by simp)] at H;have apM:=aH Oo (aH Jk hc6);refine dR ?_;refine K9 _ _ ?_;clear K9;refine kP H (SQ fun _ bW=>SR fun _ cK=>Rf Dg rfl (Rg xW rfl (by assumption) ?_));clear H;intro a H;refine kH H (Rl xY rfl (Rm rfl (Kz cK (SB ?_))));clear H cK;intro a H;skip;refine eT (ι:=Nat × GH) (Tc:=[(3,_),(50,_),(51,_)]) (Lc:=[(_,_),(_,_),(_,_),(_,_),(_,_)]) (fun gh=>[(52,vi gh.1)]) (fun gh=>[(b12,fu (fT ((rv.map dU.id).take gh.1)))]) (fun gh=>gh.2) (fun gh=>gh.1≤rv.length∧(∀ b o,g2 b=some o→gh.2 b=some o)) (fun gh=>rv.length - gh.1) ((0,g2)) (by exact (H.dB (Pl:=[_,_,_,_,_,_]) (cB:=[_,_,_,_,_,_]) [0,1,2,4,5,3] (by decide) rfl).sub ⟨rfl,rfl,rfl,rfl,aB⟩) ?_ ?_
 ·exact ⟨gX _,fun _ _ h=>h⟩
 clear H;rintro ⟨k,g3⟩ a w hI H;dsimp only at hI H;obtain ⟨hk,ZV⟩:=hI;dsimp only [lca,aO] at H;refine kP H (SR fun _ bS=>Rc rfl (Kz bS (SQ fun _ dD=>Cd rfl ?_ ?_))) <;> clear H bS
 ·intro gL a H
  try have p53:=dT gL
  have hk2:k < rv.length:=by omega
  obtain ⟨xb,xo,rfl,hrow⟩:=JE (((nN.mono Jk).mono Oo).mono ZV) hk2
  have hk3:k < (rv.map dU.id).length:=by simpa using hk2
  have hnew:=U5 f3 hk3
  have Ls:(rv.map dU.id)[k]=rv[k].id:=by simp
  rw [Ls] at hnew;refine kP H (Kc dD (SQ fun _ dO=>SB (SR fun _ dK=>Ri xY zy rfl rfl ?_)));clear H dD;intro a H;refine bP zy (cs:=_) H wn rfl rfl (fun j v hj=>H.hp.aG (hrow j v hj)) rfl ?_;clear H;intro a H;refine eH zy H wn rfl ?_;clear H;intro b9 a w wD H;refine bT zy 0 (vs:=[_,_,_]) _ H wn rfl rfl rfl rfl rfl rfl rfl rfl ?_;clear H;intro w H;dsimp only [List.set,setRow] at H;refine dK _ _ ?_;clear dK;refine dI hmx [[],[0],[0,1],[0,1,2],[],[4],(ra 0 6)] [6] (by kernel_rfl) [_,_,_,.map (some b12),_,vi rv[k].id] H (aI (Z0 rfl (Rm rfl)) (Z1 0 56 rfl (Rk rfl)) (Z1 1 57 rfl (Rf KR rfl)) (Z1 2 58 rfl (Ro wR 1 rfl)) (bC (Z0 rfl (Rf KO rfl)) (bC (Z1 4 60 rfl (Ro aD 0 rfl)) (bC (cu rfl) dN)))) ?_
  clear H;intro a w G Gn H hv;have H:=H.bg (hv 3 59 rfl rfl) rfl;have H:=H.bg (hv 5 61 rfl rfl) rfl;clear hv;refine JI (i:=6) Ak nZ H wn rfl rfl rfl rfl hnew ?_;clear H;intro w H;dsimp only [List.set,List.append,lca,aO] at H;rw [← Ls,← U6 hk3] at H;refine aJ ⟨rfl,?_⟩;refine dO _ _ ?_;clear dO;refine kP H (SC (Rd rfl (Rm rfl ?_)));clear H;intro a H;refine aJ ?_;refine dH ((k+1,G)) (by exact (H.dB (Pl:=[_,_,_,_,_,_,_]) (cB:=[_,_,_,_,_,_]) [1,2,3,4,5,6] (by decide) rfl).sub ⟨rfl,rfl,rfl,rfl,aB⟩) ?_ ?_
  ·(try dsimp only);exact ⟨by omega,fun b o h=>Gn b o (ZV b o h)⟩
  first|omega|(dsimp only;omega)
 intro gL a H
 try have p53:=dF gL
 obtain rfl:k=rv.length:=by omega
 rw [lZ (by simp)] at H;refine dR ?_;refine bW _ _ ?_;clear bW;refine kP H (SR fun _ dS=>Rm rfl (ak dS rfl ?_));clear H dS;intro a H;refine dG ?_;have H:=H.dB (Pl:=[_,_,_,_,_,_]) (cB:=[_,_,_,_,_,_]) [3,4,5,0,2,1] (by decide) rfl;obtain ⟨Gs,hms,hs,H⟩:=H.dW;obtain ⟨Gl,Uf,hl,H⟩:=H.dW;obtain ⟨Gr,hmr,hr,H⟩:=H.dW;refine lv H results45 rfl ?_;exact H.hp.fO ⟨b16,b10,b11,b12,b13,b14,rfl,rfl,⟨hmr _ _ (Uf _ _ hs),hmr _ _ hl,hr⟩⟩
end
end Go.Proofs.YthmanofbmnfemaaGreat
