/-
  What the claim stands on, part 3: Lpc Scn By Lps Lcl Dst Sty Mk Stz Dsc Mi Ro Ri Chn Chk Dsv Mq Nck Cid Mt Ehd Hdr.
-/
import Derived.Test.YtdiflmikikiedaaGreatWlb
import Derived.Lib.ConvBytes
import Derived.Laws.MakeOwn
namespace Go.Proofs.YtdiflmikikiedaaGreat
set_option linter.all false
open Go.Proofs.Tryz
open Go.RowKit
theorem asC:aR 281:=aS func281 M
theorem zl:dR prog 340 0 0:=⟨V⟩
theorem afO:aR 273:=aS func273 M
theorem afQ:aR 277:=aS func277 M
theorem afR:aR 278:=aS func278 M
theorem sO:dR prog 340 1 1:=⟨V⟩
theorem afP:aR 276:=aS func276 M
theorem DT:dR prog 340 5 6:=⟨V⟩
def wB (s p:ByteArray):Bool:=decide (p.size<=s.size) && ((s.extract 0 p.size).toList == p.toList)
theorem avk (G:GH) (w0:World) (hG:Hold G w0) (s p:ByteArray) (hs:s.size<=4611686018427387904) (hp:p.size<=4611686018427387904):Calls prog 281 #[.string s,.string p] w0 (bE w0 G fun u G'=>u=.bool (wB s p)∧G=G'):=by
 refine eN [(0,_),(1,_)] func281 M ntmps281 M M hG ?_;intro a H;refine kP H (SR fun _ K1=>aj K1 M (SR fun _ K2=>Rm M (Rv iW M (Rm M (Rv iW M (Rc M (Rm M (Sp 10 M ?_ ?_)))))))) <;> clear H K1
 ·intro h10 a H
  try have ni:=dT h10
  refine kH H (YM h10 M (YM h10 M ?_));clear H;intro a H;refine Gq iW H (wg H M M h10) M M ?_;clear H;intro a H;refine aB7 p.size iW H (wg H M M h10) M M M O M ?_;clear H;intro a H;refine kH H (YM h10 M ?_);clear H;intro a H;refine Gp H (wg H M M h10) M M M ?_;clear H;intro a H;exact kH H (Pt h10 M (aj K2 M (LR results281 M fun H=>H.rt ⟨iP (by unfold wB;first|(simp_all;done)|(simp_all;omega)),rfl⟩)))
 intro h10 a H
 try have ni:=dF h10
 exact kH H (bH h10 M (bH h10 M (Pf h10 M (aj K2 M (LR results281 M fun H=>H.rt ⟨iP (by unfold wB;first|(simp_all;done)|(simp_all;omega)),rfl⟩)))))
theorem ahs (G:GH) (w0:World) (hG:Hold G w0) (s p:ByteArray) (hs:s.size<=4611686018427387904) (hp:p.size<=4611686018427387904):Calls prog 276 #[.string s,.string p] w0 (bE w0 G fun u G'=>u=.bool (wB s p)∧G=G'):=by
 refine eN [(0,_),(1,_)] func276 M ntmps276 M M hG ?_;intro a H;refine kP H (SR fun _ K1=>aj K1 M (SR fun _ K2=>Rm M (Rm M ?_)));clear H K1;intro a H;refine s_call asC H wn M (avk _ _ H.ro s p hs hp) M ?_;clear H;rintro v7 _ a w ⟨rfl,rfl⟩ - H;exact kH H (aj K2 M (LR results276 M fun H=>H.rt ⟨M,M⟩))
def yY (s:ByteArray) (k:Nat):Bool:=decide (k < s.size) && decide (49<=fC s k) && decide (fC s k<=57)
theorem afk (G:GH) (L:OL) (w0:World) (b:Nat) (s:ByteArray) (i:Int) (p v q:ah) (pl e:Int) (k:Nat) (hs:s.size<=4611686018427387904) (hO:gq G (iY b s i p v q pl e :: L) w0) :
  Calls prog 277 #[(aH b 0),vi k] w0 (fM w0 G (iY b s i p v q pl e :: L) fun u G' L'=>u=.bool (yY s k)∧L'=iY b s i p v q pl e :: L∧G'=G):=by
 refine jc (N:=30) (T:=[(0,_),(1,_)]) func277 M ntmps277 M M hO ?_;intro a H;refine kP H (SR fun _ K1=>aj K1 M (SR fun _ K2=>Rm M (Rm M (Rk M (bC zl jf 0 M M (Rv iW M (Rc M (Rm M (Sp 12 M ?_ ?_))))))))) <;> clear H K1
 ·intro h12 a H
  try have rM:=dT h12
  refine kH H (YM h12 M ?_);clear H;intro a H;refine zH H (wg H M M h12) M M ?_;clear H;intro a H;refine kH H (YF zl h12 M (YO jf 0 h12 M (YM h12 M ?_)));clear H;intro a H;refine rO k iW H (wg H M M h12) M M M O M ?_;clear H;intro a H;rw [<- oF] at H;refine kH H (YC h12 M (Pt h12 M (Rm M (Sp 21 M ?_ ?_)))) <;> clear H
  ·intro h21 a H
   try have xG:=dT h21
   refine kH H (YM h21 M ?_);clear H;intro a H;refine zH H (wg H M M h21) M M ?_;clear H;intro a H;refine kH H (YF zl h21 M (YO jf 0 h21 M (YM h21 M ?_)));clear H;intro a H;refine rO k iW H (wg H M M h21) M M M O M ?_;clear H;intro a H;rw [<- oF] at H;exact kH H (YC h21 M (Pt h21 M (aj K2 M (LR results277 M fun H=>H.hp.gQ ⟨iP (by unfold yY;first|(simp_all;done)|(simp_all;omega)),rfl,rfl⟩))))
  intro h21 a H
  try have xG:=dF h21
  exact kH H (bH h21 M (aU h21 M (aU h21 M (Pf h21 M (aj K2 M (LR results277 M fun H=>H.hp.gQ ⟨iP (by unfold yY;first|(simp_all;done)|(simp_all;omega)),rfl,rfl⟩))))))
 intro h12 a H
 try have rM:=dF h12
 exact kH H (bH h12 M (aU h12 M (aU h12 M (Pf h12 M (Rm M (bH M M (aU M M (aU M M (Pf M M (aj K2 M (LR results277 M fun H=>H.hp.gQ ⟨iP (by unfold yY;first|(simp_all;done)|(simp_all;omega)),rfl,rfl⟩)))))))))))
structure wP where
 i:Nat
 lit:List UInt8
 parts:List ku
 pl:Nat
 e:Int
def yE (s:ByteArray) (x:wP):wP :=
 if wB (s.extract x.i s.size) ⟨#[37,37]⟩=true then ⟨x.i+2,x.lit++[37],x.parts,x.pl,x.e⟩
 else if yY s (x.i+1)=true then ⟨x.i+2,[],zm x.lit x.parts++[⟨⟨#[]⟩,fC s (x.i+1) - 48,false⟩],x.pl+1,x.e⟩
 else if wB (s.extract x.i s.size) ⟨#[37,100]⟩=true∧yY s (x.i+2)=true then ⟨x.i+3,[],zm x.lit x.parts++[⟨⟨#[]⟩,fC s (x.i+2) - 48,true⟩],x.pl+1,x.e⟩
 else ⟨x.i,x.lit,x.parts,x.pl,14⟩
abbrev yH (b:Nat) (s:ByteArray) (x:wP) (p v q:ah):Nat × Obj:=iY b s x.i p v q x.pl x.e
theorem afj {s:ByteArray} {k:Nat} (h:yY s k=true):k < s.size∧49<=fC s k∧fC s k<=57:=by
 simpa [yY,and_assoc] using h
theorem Ve {p:Prop} (h:p:=by
 first
  | exact H.hp.gQ ⟨_,_,_,UM,UL,by rw [yE,au LB,au Lm,ay ⟨c1,iT⟩];rfl,by rw [yE,au LB,au Lm,ay ⟨c1,iT⟩];exact Iz⟩
  | (have hn3:¬ (wB (s.extract i s.size) ⟨#[37,100]⟩=true∧yY s (i+2)=true):=by simp_all
     exact H.hp.gQ ⟨_,_,_,Lp,Lo,by rw [yE,au LB,au Lm,au hn3,uE],by rw [yE,au LB,au Lm,au hn3];exact hR⟩)):p:=h
theorem adP {p:Prop} (h:p:=by
 refine iO 8 63 M M fun _ a w G1 hG HT H fin=>?_;refine s_call afP H wn M (ahs _ _ H.ro _ _ hex Z) M ?_;clear H;rintro v64 G64 a w ⟨rfl,rfl⟩ auR H;exact fin H auR (rfl)):p:=h
theorem QB {p:Prop} (h:p:=by
 clear H;intro a H;rw [<- oF] at H;exact Kg):p:=h
theorem acN {p:Prop} (h:p:=by
 refine iO 9 64 M M fun _ a w G1 hG HT H fin=>?_;refine kH H (Rm M ?_);clear H;intro a H;exact abS):p:=h
theorem VB {p:Prop} (h:p:=by
 refine aB6 i iW H wn M M M O M ?_;exact jH):p:=h
set_option maxHeartbeats 1000000 in
theorem aAx (G:GH) (Lp Lo:OL) (w0:World) (b:Nat) (s:ByteArray) (x:wP) (p v q:ah) (hR:Cg b x.lit x.parts p v q Lp Lo) (hO:gq G (yH b s x p v q :: (Lp++Lo)) w0) (hs:s.size<=4294967290) (hi:x.i < s.size) (hl:x.lit.length<=4294967290) (hp:x.parts.length<=4294967290) (hpl:x.pl<=4294967290) :
    Calls prog 272 #[(aH b 0)] w0 (fM w0 G (yH b s x p v q :: (Lp++Lo)) fun u G' L'=>∃ p' v' q' tF jr,L'=yH b s (yE s x) p' v' q' :: (tF++jr)∧Cg b (yE s x).lit (yE s x).parts p' v' q' tF jr):=by
  obtain ⟨i,lit,parts,pl,e⟩:=x;dsimp only [yH] at *
  have hex:(s.extract i s.size).size<=4611686018427387904:=by rw [ByteArray.size_extract];omega
  obtain ⟨A,c,rfl,aiI,aiJ⟩:=hR.buf.shape;obtain ⟨B,d,rfl,ait,aiu⟩:=hR.prt.shape;obtain ⟨Lt,uE⟩:∃ x,x=Lp++Lo:=⟨_,M⟩;rw [<- uE] at hO |-;refine jc (N:=93) (T:=[(0,_)]) func272 M ntmps272 M M hO ?_;intro a H;refine AY ?_;refine bL (fun _ K1=>?_);refine dI hmx [[],[0],[0,1],[0,1,2],[],[4],[4,5],[4,5,6],ra 0 8,ra 0 9,ra 0 10] [] V [_,_,_,.string s,_,_,_,vi i,.string (s.extract i s.size),.bool (wB (s.extract i s.size) ⟨#[37,37]⟩),_] H (aB (Z0 M (Rm M)) (Z1 0 6 M (Rk M)) (Z1 1 7 M (Rf zl M)) (Z1 2 8 M (Ro jf 0 M)) (aB (Z0 M (Rm M)) (Z1 4 10 M (Rk M)) (Z1 5 11 M (Rf sO M)) (Z1 6 12 M (Ro aF 0 M)) (bN ?_ (bN ?_ (bN (Z1 9 15 M (Ra M)) dz))))) ?_
  · refine eT 3 9 7 13 M M fun _ a w G1 hG HT H fin=>?_;exact VB
  · refine iO 8 14 M M fun _ a w G1 hG HT H fin=>?_;refine s_call afP H wn M (ahs _ _ H.ro _ _ hex Z) M ?_;clear H;rintro v15 GN a w ⟨rfl,rfl⟩ Eb H;exact fin H Eb (rfl)
  clear H;intro a w G nO H hv;have H:=H.aM (hv 10 5 M M) M;clear hv;refine aD ⟨M,?_⟩;refine K1 _ _ ?_;clear K1;refine jL H M ?_ ?_
  · intro h5
    try have p5:=dT h5
    refine kP H (SR fun _ K2=>Rm M (Rk M (Rf NH M ?_)));clear H;intro a H;refine gW afO (Li:=[]) (L:=iY b s i p (.slice A lit.length c) (.slice B parts.length d) pl e :: Lt) H wn M (by subst uE;exact amn _ Lp Lo _ b s i p _ B parts.length d pl e lit.length _ 37 hR.ptr (Hp.owns (Li:=[]) H.hp) hR.buf O) M ?_;clear H;rintro v19 _ L19 a w ⟨aFW,UJ,rfl,FU,rfl⟩ sW H;dsimp only [List.nil_append] at H;obtain ⟨JJ,c19,rfl,-,-⟩:=FU.shape;refine K2 _ _ ?_;clear K2;refine kP H (SC (Rm M (Rk M (bC sO aF 0 M M (Rd M (Rk M (Rf sO M ?_)))))));clear H;intro a H;refine bJ aF 0 (vs:=[_]) H wn M ?_;clear H;intro w H;refine aD ?_;refine (leave0 H results272 ?_).2;exact H.hp.gQ ⟨_,_,_,Lp,UJ,by rw [yE,ay h5];rfl,by rw [yE,ay h5];exact ⟨.inr M,by simpa [Lib.byteCells] using FU,hR.prt⟩⟩
  intro h5
  try have p5:=dF h5
  refine kP H (SR fun _ K3=>Rm M (Rm M (Rk M (bC sO aF 0 M M (Rd M ?_)))));clear H;intro a H;rw [show ((i:Int)+1)=((i+1:Nat):Int) from rfl] at H;refine gW afQ (Li:=[]) (L:=iY b s i p (.slice A lit.length c) (.slice B parts.length d) pl e :: Lt) H wn M (afk _ Lt _ b s i p _ _ pl e (i+1) O (Hp.owns (Li:=[]) H.hp)) M ?_;clear H;rintro v34 _ L34 a w ⟨rfl,rfl,rfl⟩ Lb H;dsimp only [List.nil_append] at H;refine kH H (aj K3 M (Cd M ?_ ?_)) <;> clear H K3
  · intro h27 a H
    try have p27:=dT h27
    have hd1:=afj h27;refine bL (fun _ K4=>?_);refine dI hmx [[],[],[1],[1,2],[1,2,3],[],[5],[5,6],[5,6,7],ra 5 4,ra 1 9,ra 0 11] [11] V [_,_,_,_,.string s,_,_,_,vi i,_,.int .u8 (fC s (i+1))] H (aB (Z0 M (Rm M)) (Z0 M (Rm M)) (Z1 1 36 M (Rk M)) (Z1 2 37 M (Rf zl M)) (aB (Z1 3 38 M (Ro jf 0 M)) (Z0 M (Rm M)) (Z1 5 40 M (Rk M)) (Z1 6 41 M (Rf sO M)) (aB (Z1 7 42 M (Ro aF 0 M)) (Z1 8 43 M (Rd M)) ?_ (bS M) dz))) ?_
    · refine eT 4 39 9 44 M M fun _ a w G1 hG HT H fin=>?_;refine rO (i+1) iW H wn M M M hd1.1 M ?_;exact QB
    clear H;intro a w G rz H hv;have H:=H.aM (hv 0 35 M M) M;have H:=H.aM (hv 10 45 M M) M;clear hv;refine gW afR (Li:=[]) (L:=iY b s i p (.slice A lit.length c) (.slice B parts.length d) pl e :: Lt) H wn M (by subst uE;exact akf _ Lp Lo _ b s i p _ _ pl e lit parts (fC s (i+1)) false hR (Hp.owns (Li:=[]) H.hp) O O hd1.2 O) M ?_;clear H;rintro v46 G46 L46 a w ⟨p46,aDK,q46,UM,UL,rfl,Iz⟩ ahP H;dsimp only [List.nil_append] at H;obtain ⟨A46,c46,rfl,-,-⟩:=Iz.buf.shape;obtain ⟨B46,d46,rfl,-,-⟩:=Iz.prt.shape;refine aD ⟨M,?_⟩;refine K4 _ _ ?_;clear K4;refine kP H (SC (Rm M (Rk M (bC sO aF 0 M M (Rd M (Rk M (Rf sO M ?_)))))));clear H;intro a H;refine bJ aF 0 (vs:=[_]) H wn M ?_;clear H;intro w H;refine aD ?_;refine (leave0 H results272 ?_).2;exact H.hp.gQ ⟨_,_,_,UM,UL,by rw [yE,au (by simp [h5]),ay h27];rfl,by rw [yE,au (by simp [h5]),ay h27];exact Iz⟩
  intro h27 a H
  try have p27:=dF h27
  refine bL (fun _ K5=>?_)
  by_cases c1:wB (s.extract i s.size) ⟨#[37,100]⟩=true
  · skip;refine dI hmx [[],[0],[0,1],[0,1,2],[],[4],[4,5],[4,5,6],ra 0 8,ra 0 9,ra 0 10,ra 0 11,ra 0 11,(ra 0 11++[12]),(ra 0 11++[12,13]),(ra 0 11++[12,13,14]),(ra 0 11++ra 12 4),ra 0 17,ra 0 18,ra 0 19] [] V [_,_,_,.string s,_,_,_,vi i,.string (s.extract i s.size),.bool (wB (s.extract i s.size) ⟨#[37,100]⟩),.bool (decide (wB (s.extract i s.size) ⟨#[37,100]⟩=true)),_,_,(aH b 0),_,vi i,vi ((i+2:Nat):Int),.bool (yY s (i+2)),_,_] H (aB (Z0 M (Rm M)) (Z1 0 55 M (Rk M)) (Z1 1 56 M (Rf zl M)) (Z1 2 57 M (Ro jf 0 M)) (aB (Z0 M (Rm M)) (Z1 4 59 M (Rk M)) (Z1 5 60 M (Rf sO M)) (Z1 6 61 M (Ro aF 0 M)) (aB ?_ ?_ ?_ (Z1 10 65 M (YM (aJ c1) M)) (aB (Z1 10 65 M (YM (aJ c1) M)) ?_ (Z2 13 68 10 65 M (YF sO (aJ c1) M)) (Z2 14 69 10 65 M (YO aF 0 (aJ c1) M)) (aB ?_ ?_ (Z2 10 65 17 72 M (Pt (aJ c1) M)) (Z1 18 73 M (Ra M)) dz))))) ?_
    · refine eT 3 58 7 62 M M fun _ a w G1 hG HT H fin=>?_;exact VB
    · exact adP
    · exact acN
    · refine eT 12 67 10 65 M M fun _ a w G1 hG HT H fin=>?_;refine zH H (wg H M M (aJ c1)) M M ?_;exact jH
    · refine eT 15 70 10 65 M M fun _ a w G1 hG HT H fin=>?_;refine O1 _ H (wg H M M (aJ c1)) M M M O O M ?_;exact jH
    · refine zS 11 66 16 71 10 65 M M fun _ a w G1 hG HT H fin=>?_;refine gW afQ (Li:=[]) (L:=iY b s i p (.slice A lit.length c) (.slice B parts.length d) pl e :: Lt) H (wg H M M (aJ c1)) M (afk _ Lt _ b s i p _ _ pl e (i+2) O (Hp.owns (Li:=[]) H.hp)) M ?_;clear H;rintro v72 PU L72 a w ⟨rfl,rfl,rfl⟩ auS H;dsimp only [List.nil_append] at H;exact fin H auS (rfl)
    clear H;intro a w G KR H hv;have H:=H.aM (hv 19 54 M M) M;clear hv;refine aD ⟨M,?_⟩;refine K5 _ _ ?_;clear K5;refine jL H M ?_ ?_
    · intro iT
      try have p54:=dT iT
      have hd2:=afj iT;refine bL (fun _ K6=>?_);refine dI hmx [[],[],[1],[1,2],[1,2,3],[],[5],[5,6],[5,6,7],ra 5 4,ra 1 9,ra 0 11] [11] V [_,_,_,_,.string s,_,_,_,vi i,_,.int .u8 (fC s (i+2))] H (aB (Z0 M (Rm M)) (Z0 M (Rm M)) (Z1 1 75 M (Rk M)) (Z1 2 76 M (Rf zl M)) (aB (Z1 3 77 M (Ro jf 0 M)) (Z0 M (Rm M)) (Z1 5 79 M (Rk M)) (Z1 6 80 M (Rf sO M)) (aB (Z1 7 81 M (Ro aF 0 M)) (Z1 8 82 M (Rd M)) ?_ (bS M) dz))) ?_
      · refine eT 4 78 9 83 M M fun _ a w G1 hG HT H fin=>?_;refine rO (i+2) iW H wn M M M hd2.1 M ?_;exact QB
      clear H;intro a w G wz H hv;have H:=H.aM (hv 0 74 M M) M;have H:=H.aM (hv 10 84 M M) M;clear hv;refine gW afR (Li:=[]) (L:=iY b s i p (.slice A lit.length c) (.slice B parts.length d) pl e :: Lt) H wn M (by subst uE;exact akf _ Lp Lo _ b s i p _ _ pl e lit parts (fC s (i+2)) true hR (Hp.owns (Li:=[]) H.hp) O O hd2.2 O) M ?_;clear H;rintro v85 G85 L85 a w ⟨p46,aDK,q46,UM,UL,rfl,Iz⟩ aFk H;dsimp only [List.nil_append] at H;obtain ⟨A46,c46,rfl,-,-⟩:=Iz.buf.shape;obtain ⟨B46,d46,rfl,-,-⟩:=Iz.prt.shape;refine aD ⟨M,?_⟩;refine K6 _ _ ?_;clear K6;refine kP H (SC (Rm M (Rk M (bC sO aF 0 M M (Rd M (Rk M (Rf sO M ?_)))))));clear H;intro a H;refine bJ aF 0 (vs:=[_]) H wn M ?_;clear H;intro w H;refine aD ?_;refine (leave0 H results272 ?_).2
      have LB:¬ wB (s.extract i s.size) ⟨#[37,37]⟩=true:=by simp [h5]
      have Lm:¬ yY s (i+1)=true:=by simp [h27]
      exact Ve
    intro iT
    try have p54:=dF iT
    refine kP H (SC (Rm M (Rk M (Rf DT M ?_))));clear H;intro a H;refine bJ jE 0 (vs:=[_]) H wn M ?_;clear H;intro w H;refine aD ?_;refine (leave0 H results272 ?_).2
    have LB:¬ wB (s.extract i s.size) ⟨#[37,37]⟩=true:=by simp [h5]
    have Lm:¬ yY s (i+1)=true:=by simp [h27]
    exact Ve
  skip;refine dI hmx [[],[0],[0,1],[0,1,2],[],[4],[4,5],[4,5,6],ra 0 8,ra 0 9,ra 0 10,ra 0 11,ra 0 11,(ra 0 11++[12]),(ra 0 11++[12,13]),(ra 0 11++[12,13,14]),(ra 0 11++ra 12 4),ra 0 17,ra 0 18,ra 0 19] [] V [_,_,_,.string s,_,_,_,vi i,.string (s.extract i s.size),.bool (wB (s.extract i s.size) ⟨#[37,100]⟩),.bool (decide (wB (s.extract i s.size) ⟨#[37,100]⟩=true)),undef,undef,undef,undef,undef,undef,undef,_,_] H (aB (Z0 M (Rm M)) (Z1 0 55 M (Rk M)) (Z1 1 56 M (Rf zl M)) (Z1 2 57 M (Ro jf 0 M)) (aB (Z0 M (Rm M)) (Z1 4 59 M (Rk M)) (Z1 5 60 M (Rf sO M)) (Z1 6 61 M (Ro aF 0 M)) (aB ?_ ?_ ?_ (aZ 10 (aY c1) M M) (aB (aZ 10 (aY c1) M M) (aZ 10 (aY c1) M M) (aZ 10 (aY c1) M M) (aZ 10 (aY c1) M M) (aB (aZ 10 (aY c1) M M) (aZ 10 (aY c1) M M) (Z2 10 65 17 72 M (Pf (aY c1) M)) (Z1 18 73 M (Ra M)) dz))))) ?_
  · refine eT 3 58 7 62 M M fun _ a w G1 hG HT H fin=>?_;exact VB
  · exact adP
  · exact acN
  clear H;intro a w G KR H hv;have H:=H.aM (hv 19 54 M M) M;clear hv;refine aD ⟨M,?_⟩;refine K5 _ _ ?_;clear K5;refine sM H M M ?_;refine kP H (SC (Rm M (Rk M (Rf DT M ?_))));clear H;intro a H;refine bJ jE 0 (vs:=[_]) H wn M ?_;clear H;intro w H;refine aD ?_;refine (leave0 H results272 ?_).2
  have LB:¬ wB (s.extract i s.size) ⟨#[37,37]⟩=true:=by simp [h5]
  have Lm:¬ yY s (i+1)=true:=by simp [h27]
  exact Ve
theorem asx:aR 272:=aS func272 M
def Qg (s:ByteArray) (i:Nat):UInt8:=if h:i < s.size then s[i] else 0
theorem anw (s:ByteArray) (i:Nat):fC s i=((Qg s i).toNat:Int):=by
 unfold fC Qg;split <;> rfl
def qN (s:ByteArray) (x:wP):wP:=if fC s x.i=37 then yE s x else ⟨x.i+1,x.lit++[Qg s x.i],x.parts,x.pl,x.e⟩
def EA (s:ByteArray):Nat->wP->wP
 | 0,x=>x
 | f+1,x=>if x.i < s.size∧x.e=0 then EA s f (qN s x) else x
def mS (s:ByteArray) (x:wP):Nat:=if x.e=0 then s.size - x.i else 0
theorem aCb {s:ByteArray} {f:Nat} {x:wP} (h:¬ (x.i < s.size∧x.e=0)):EA s f x=x:=by
 cases f with
 | zero=>rfl
 | succ f=>rw [EA,au h]
theorem atY (lit:List UInt8) (parts:List ku):(zm lit parts).length<=parts.length+1:=by unfold zm;split <;> simp
theorem VN {p:Prop} (h:p:=by
 refine ⟨?_,?_,?_,?_,?_,?_⟩ <;> simp only [mS,gF,kR,List.length_nil] at*<;> simp only [h.2,if_true] at*<;> omega):p:=h
theorem alz (s:ByteArray) (x:wP) (h:x.i < s.size∧x.e=0) (h1:x.lit.length<=x.i) (h2:x.parts.length<=2*x.i) (h3:x.pl<=x.i) :
  (qN s x).i<=x.i+3∧(qN s x).lit.length<=(qN s x).i∧(qN s x).parts.length<=2*(qN s x).i∧(qN s x).pl<=(qN s x).i∧mS s (qN s x) < mS s x∧mS s x<=s.size:=by
 have hf:=atY x.lit x.parts;have hm:mS s x=s.size - x.i:=ay h.2
 unfold qN yE
 split
 ·split
  ·exact VN
  split
  ·exact VN
  split
  ·exact VN
  refine ⟨?_,?_,?_,?_,?_,?_⟩ <;> simp only [mS,gF,kR,List.length_nil] at*<;> simp only [h.2,if_true] at*<;> (try omega) <;> (simp;omega)
 refine ⟨?_,?_,?_,?_,?_,?_⟩ <;> simp only [mS,gF,kR,List.length_nil] at*<;> simp only [h.2,if_true] at*<;> omega
def Dl:wP:=⟨0,[],[],0,0⟩
def mM (s:ByteArray):wP:=EA s s.size Dl
def Mv (x:wP):Int:=if x.e=0∧9 < (x.pl:Int) then 9 else x.e
theorem Qj {p:Prop} (h:p:=by
 first
  | exact H.hp.gQ ⟨_,_,_,_,_,by rw [Mv,ay ⟨by assumption,by assumption⟩],IB⟩
  | exact H.hp.gQ ⟨_,_,_,_,_,by rw [Mv,au (by first|exact fun h=>p58 h.1|exact fun h=>p64 h.2)],IB⟩):p:=h
theorem adK {p:Prop} (h:p:=by
 intro h64 a H
 try have p64:=dT h64
 refine kP H (SC (Rm M (Rk M (Rf DT M ?_))));clear H;intro a H;refine bJ jE 0 (vs:=[_]) H wn M ?_;clear H;intro w H;refine aD ?_;refine (leave0 H results266 ?_).2
 exact Qj):p:=h
theorem acR {p:Prop} (h:p:=by
 intro h64 a H
 try have p64:=dF h64
 refine iD ?_;refine (leave0 H results266 ?_).2
 exact Qj):p:=h
theorem acW {p:Prop} (h:p:=by
 rw [aCb (by first|exact fun h=>c0 O|exact fun h=>c1 h.2)] at hsc;exact hsc):p:=h
theorem Qr {p:Prop} (h:p:=by
 refine zH H (wg H M M (aJ c0)) M M ?_;exact jH):p:=h
set_option maxHeartbeats 1000000 in
theorem aCa (G:GH) (P5 PZ:OL) (w0:World) (b:Nat) (s:ByteArray) (p0 v0 q0:ah) (hR:Cg b [] [] p0 v0 q0 P5 PZ) (hO:gq G (yH b s Dl p0 v0 q0 :: (P5++PZ)) w0) (hs:s.size<=1073741824) :
  Calls prog 266 #[(aH b 0)] w0 (fM w0 G (yH b s Dl p0 v0 q0 :: (P5++PZ)) fun u G' L'=>∃ p' v' q' tF jr,L'=iY b s (mM s).i p' v' q' (mM s).pl (Mv (mM s)) :: (tF++jr)∧Cg b [] (zm (mM s).lit (mM s).parts) p' v' q' tF jr):=by
 obtain ⟨A0,c0,rfl,-,-⟩:=hR.buf.shape;obtain ⟨B0,d0,rfl,-,-⟩:=hR.prt.shape;refine jc (N:=68) (T:=[(0,_)]) func266 M ntmps266 M M hO ?_;intro a H;refine bL (fun _ K1=>?_);refine AY ?_;skip;refine fD (ι:=Nat × wP × ah × Option Addr × Nat × Option Addr × Nat × OL × OL × GH) (Tc:=[(0,_)]) (Lc:=[]) (fun gh=>[]) (fun gh=>[yH b s gh.2.1 gh.2.2.1 (.slice gh.2.2.2.1 gh.2.1.lit.length gh.2.2.2.2.1) (.slice gh.2.2.2.2.2.1 gh.2.1.parts.length gh.2.2.2.2.2.2.1)]++(gh.2.2.2.2.2.2.2.1++gh.2.2.2.2.2.2.2.2.1)) (fun gh=>gh.2.2.2.2.2.2.2.2.2) (fun gh=>Cg b gh.2.1.lit gh.2.1.parts gh.2.2.1 (.slice gh.2.2.2.1 gh.2.1.lit.length gh.2.2.2.2.1) (.slice gh.2.2.2.2.2.1 gh.2.1.parts.length gh.2.2.2.2.2.2.1) gh.2.2.2.2.2.2.2.1 gh.2.2.2.2.2.2.2.2.1∧EA s gh.1 gh.2.1=mM s∧mS s gh.2.1<=gh.1∧gh.1<=s.size∧gh.2.1.i<=s.size+3∧gh.2.1.lit.length<=gh.2.1.i∧gh.2.1.parts.length<=2*gh.2.1.i∧gh.2.1.pl<=gh.2.1.i) (fun gh=>gh.1) ((s.size,Dl,p0,A0,c0,B0,d0,P5,PZ,G)) (by exact H.sub ⟨M,aC⟩) ?_ ?_
 ·exact ⟨hR,M,by simp [mS,Dl],dS _,by simp [Dl],by simp [Dl],by simp [Dl],by simp [Dl]⟩
 clear H;rintro ⟨k,x,p,vA,vc,qA,qc,Lp,Lo,g⟩ a w hI H;dsimp only at hI H;obtain ⟨hR,hsc,hmk,hks,hxi,hx1,hx2,hx3⟩:=hI;dsimp only [lca,bM] at H;refine bL (fun _ K2=>?_);refine bL (fun _ K3=>?_)
 by_cases c0:(x.i:Int) < (s.size:Int)
 ·skip
  by_cases c1:x.e=0
  ·skip;refine dI hmx [[],[0],[0,1],[0,1,2],[],[4],[4,5],[4,5,6],ra 4 4,ra 0 9,ra 0 10,ra 0 11,ra 0 12,ra 0 13,ra 0 14,ra 0 15,ra 0 16] [] V [_,_,_,vi x.i,_,_,_,.string s,_,_,_,_,(aH b 0),_,vi x.e,_,_] H (aB (Z0 M (Rm M)) (Z1 0 2 M (Rk M)) (Z1 1 3 M (Rf sO M)) (Z1 2 4 M (Ro aF 0 M)) (aB (Z0 M (Rm M)) (Z1 4 6 M (Rk M)) (Z1 5 7 M (Rf zl M)) (Z1 6 8 M (Ro jf 0 M)) (aB (Z1 7 9 M (Rv iW M)) (Z2 3 5 8 10 M (Rc M)) (Z1 9 11 M (Rm M)) (Z1 10 12 M (YM (aJ c0) M)) (aB ?_ (Z2 12 14 10 12 M (YF DT (aJ c0) M)) (Z2 13 15 10 12 M (YO jE 0 (aJ c0) M)) (Z2 14 16 10 12 M (YC (aJ c0) M)) (bN (Z2 10 12 15 17 M (Pt (aJ c0) M)) dz))))) ?_
   ·refine eT 11 13 10 12 M M fun _ a w G1 hG HT H fin=>?_;exact Qr
   clear H;intro a w G ahd H hv;have H:=H.aM (hv 16 18 M M) M;clear hv;refine aD ⟨M,?_⟩;refine K3 _ _ ?_;clear K3;refine Cq H M (aJ c1) ?_;refine kP H (Kc K2 (SB (SQ fun _ K4=>SQ fun _ K5=>?_)));clear H K2;intro a H;refine dI hmx [[],[0],[0,1],[0,1,2],[],[4],[4,5],[4,5,6],ra 0 8,ra 0 9] [] V [_,_,_,.string s,_,_,_,vi x.i,.int .u8 (fC s x.i),_] H (aB (Z0 M (Rm M)) (Z1 0 19 M (Rk M)) (Z1 1 20 M (Rf zl M)) (Z1 2 21 M (Ro jf 0 M)) (aB (Z0 M (Rm M)) (Z1 4 23 M (Rk M)) (Z1 5 24 M (Rf sO M)) (Z1 6 25 M (Ro aF 0 M)) (bN ?_ (bN (Z1 8 27 M (Rc M)) dz)))) ?_
   ·refine eT 3 22 7 26 M M fun _ a w G1 hG HT H fin=>?_;refine rO x.i iW H wn M M M O M ?_;exact QB
   clear H;intro a w G nO H hv;have H:=H.aM (hv 9 28 M M) M;clear hv;refine aD ⟨M,?_⟩;refine K5 _ _ ?_;clear K5;refine jL H M ?_ ?_
   ·intro gG
    try have p28:=dT gG
    refine kP H (SR fun _ K6=>Rm M ?_);clear H;intro a H;refine gW asx (Li:=[]) (L:=yH b s x p (.slice vA x.lit.length vc) (.slice qA x.parts.length qc) :: (Lp++Lo)) H wn M (aAx _ Lp Lo _ b s x p _ _ hR (Hp.owns (Li:=[]) H.hp) O O O O O) M ?_;clear H;rintro v30 ER L30 a w ⟨p',v',q',tF,jr,rfl,RG⟩ IK H;dsimp only [List.nil_append] at H;have hst:qN s x=yE s x:=ay p28;have hok:=alz s x ⟨O,c1⟩ hx1 hx2 hx3
    have hkk:k=(k - 1)+1:=by omega
    have YS:EA s (k - 1) (qN s x)=mM s:=by rw [hkk,EA,ay ⟨O,c1⟩] at hsc;exact hsc
    rw [<- hst] at H RG;obtain ⟨A30,Kr,rfl,-,-⟩:=RG.buf.shape;obtain ⟨B30,d30,rfl,-,-⟩:=RG.prt.shape;refine K6 _ _ ?_;clear K6;refine dY ?_;refine dQ ((k - 1,qN s x,p',A30,Kr,B30,d30,tF,jr,ER)) (by exact H.sub ⟨M,aC⟩) ?_
    (try dsimp only);exact ⟨RG,YS,O,O,O,O,O,O⟩
   intro gG
   try have p28:=dF gG
   refine iD ?_;refine K4 _ _ ?_;clear K4;refine bL (fun _ K7=>?_);refine dI hmx [[],[0],[0,1],[],[3],[3,4],[3,4,5],[],[7],[7,8],[7,8,9],ra 3 8,ra 0 12] [12] V [_,_,_,_,_,_,.string s,_,_,_,vi x.i,.int .u8 (fC s x.i)] H (aB (Z0 M (Rm M)) (Z1 0 31 M (Rk M)) (Z1 1 32 M (Rf NH M)) (Z0 M (Rm M)) (aB (Z1 3 34 M (Rk M)) (Z1 4 35 M (Rf zl M)) (Z1 5 36 M (Ro jf 0 M)) (Z0 M (Rm M)) (aB (Z1 7 38 M (Rk M)) (Z1 8 39 M (Rf sO M)) (Z1 9 40 M (Ro aF 0 M)) ?_ (bN (bS M) dz)))) ?_
   ·refine eT 6 37 10 41 M M fun _ a w G1 hG HT H fin=>?_;refine rO x.i iW H wn M M M O M ?_;exact QB
   clear H;intro a w G xZ H hv;have H:=H.aM (hv 2 33 M M) M;have H:=H.aM (hv 11 42 M M) M;clear hv;refine gW afO (Li:=[]) (L:=yH b s x p (.slice vA x.lit.length vc) (.slice qA x.parts.length qc) :: (Lp++Lo)) H wn M (amn _ Lp Lo _ b s x.i p _ qA x.parts.length qc x.pl x.e x.lit.length _ (fC s x.i) hR.ptr (Hp.owns (Li:=[]) H.hp) hR.buf O) M ?_;clear H;rintro v43 _ L43 a w ⟨aFX,UK,rfl,aiD,rfl⟩ FI H;dsimp only [List.nil_append] at H;obtain ⟨Ut,V5,rfl,-,-⟩:=aiD.shape;have hst:qN s x=⟨x.i+1,x.lit++[Qg s x.i],x.parts,x.pl,x.e⟩:=au p28;have hok:=alz s x ⟨O,c1⟩ hx1 hx2 hx3
   have hkk:k=(k - 1)+1:=by omega
   have YS:EA s (k - 1) (qN s x)=mM s:=by rw [hkk,EA,ay ⟨O,c1⟩] at hsc;exact hsc
   have avg:Cg b (qN s x).lit (qN s x).parts (aH b 2) (.slice Ut (qN s x).lit.length V5) (.slice qA (qN s x).parts.length qc) Lp UK:=by
    rw [hst];exact ⟨.inr M,by simpa [Lib.byteCells,anw] using aiD,hR.prt⟩
   refine aD ⟨M,?_⟩;refine K7 _ _ ?_;clear K7;refine kP H (SC (Rm M (Rk M (bC sO aF 0 M M (Rd M (Rk M (Rf sO M ?_)))))));clear H;intro a H;refine bJ aF 0 (vs:=[_]) H wn M ?_;clear H;intro w H;replace H:St _ _ _ _ _ _ (yH b s (qN s x) (aH b 2) (.slice Ut (qN s x).lit.length V5) (.slice qA (qN s x).parts.length qc) :: (Lp++UK)) _ _ _:=H.cast (by rw [hst];simp [yH,iY]);refine aD ?_;refine dQ ((k - 1,qN s x,(aH b 2),Ut,V5,qA,qc,Lp,UK,_)) (by exact H.sub ⟨M,aC⟩) ?_
   (try dsimp only);exact ⟨avg,YS,O,O,O,O,O,O⟩
  skip;refine dI hmx [[],[0],[0,1],[0,1,2],[],[4],[4,5],[4,5,6],ra 4 4,ra 0 9,ra 0 10,ra 0 11,ra 0 12,ra 0 13,ra 0 14,ra 0 15,ra 0 16] [] V [_,_,_,vi x.i,_,_,_,.string s,_,_,_,_,(aH b 0),_,vi x.e,_,_] H (aB (Z0 M (Rm M)) (Z1 0 2 M (Rk M)) (Z1 1 3 M (Rf sO M)) (Z1 2 4 M (Ro aF 0 M)) (aB (Z0 M (Rm M)) (Z1 4 6 M (Rk M)) (Z1 5 7 M (Rf zl M)) (Z1 6 8 M (Ro jf 0 M)) (aB (Z1 7 9 M (Rv iW M)) (Z2 3 5 8 10 M (Rc M)) (Z1 9 11 M (Rm M)) (Z1 10 12 M (YM (aJ c0) M)) (aB ?_ (Z2 12 14 10 12 M (YF DT (aJ c0) M)) (Z2 13 15 10 12 M (YO jE 0 (aJ c0) M)) (Z2 14 16 10 12 M (YC (aJ c0) M)) (bN (Z2 10 12 15 17 M (Pt (aJ c0) M)) dz))))) ?_
  ·refine eT 11 13 10 12 M M fun _ a w G1 hG HT H fin=>?_;exact Qr
  clear H;intro a w G ahd H hv;have H:=H.aM (hv 16 18 M M) M;clear hv;refine aD ⟨M,?_⟩;refine K3 _ _ ?_;clear K3;refine sM H M (aY c1) ?_;refine dY ?_;refine K1 _ _ ?_;clear K1;refine bL (fun _ K8=>?_)
  have Y7:x=mM s:=by
   exact acW
  subst Y7;refine kP H (SC (Rm M ?_));clear H;intro a H;refine gW WT (Li:=[]) (L:=yH b s (mM s) p (.slice vA (mM s).lit.length vc) (.slice qA (mM s).parts.length qc) :: (Lp++Lo)) H wn M (Xr _ Lp Lo _ b s (mM s).i p _ _ (mM s).pl (mM s).e (mM s).lit (mM s).parts hR (Hp.owns (Li:=[]) H.hp) O O) M ?_;clear H;rintro v52 G52 L52 a w ⟨p52,aDL,q52,ana,amX,rfl,IB⟩ awG H;dsimp only [List.nil_append] at H;obtain ⟨JK,Kt,rfl,-,-⟩:=IB.buf.shape;obtain ⟨B52,d52,rfl,-,-⟩:=IB.prt.shape;refine kH H (Kn K8 (SR fun _ K9=>Rm M (Rk M (bC DT jE 0 M M (Rc M (Rm M (Sp 58 M ?_ ?_))))))) <;> clear H K8
  ·intro mH a H
   try have p58:=dT mH
   refine kH H (YM mH M ?_);clear H;intro a H;refine zH H (wg H M M mH) M M ?_;clear H;intro a H;refine kH H (YF Rp mH M (YO aF 0 mH M (YC mH M (Pt mH M (Kz K9 (Cd M ?_ ?_)))))) <;> clear H K9
   ·exact adK
   exact acR
  intro mH a H
  try have p58:=dF mH
  refine kH H (bH mH M (aU mH M (Pf mH M (Kz K9 (Cf M M ?_)))));clear H K9;intro a H;refine iD ?_;refine (leave0 H results266 ?_).2
  exact Qj
 skip;refine dI hmx [[],[0],[0,1],[0,1,2],[],[4],[4,5],[4,5,6],ra 4 4,ra 0 9,ra 0 10,ra 0 11,ra 0 12,ra 0 13,ra 0 14,ra 0 15,ra 0 16] [] V [_,_,_,vi x.i,_,_,_,.string s,_,_,_,undef,undef,undef,undef,undef,_] H (aB (Z0 M (Rm M)) (Z1 0 2 M (Rk M)) (Z1 1 3 M (Rf sO M)) (Z1 2 4 M (Ro aF 0 M)) (aB (Z0 M (Rm M)) (Z1 4 6 M (Rk M)) (Z1 5 7 M (Rf zl M)) (Z1 6 8 M (Ro jf 0 M)) (aB (Z1 7 9 M (Rv iW M)) (Z2 3 5 8 10 M (Rc M)) (Z1 9 11 M (Rm M)) (aZ 10 (aY c0) M M) (aB (aZ 10 (aY c0) M M) (aZ 10 (aY c0) M M) (aZ 10 (aY c0) M M) (aZ 10 (aY c0) M M) (bN (Z2 10 12 15 17 M (Pf (aY c0) M)) dz))))) ?_
 clear H;intro a w G ahd H hv;have H:=H.aM (hv 16 18 M M) M;clear hv;refine aD ⟨M,?_⟩;refine K3 _ _ ?_;clear K3;refine sM H M M ?_;refine dY ?_;refine K1 _ _ ?_;clear K1;refine bL (fun _ aT=>?_)
 have Y7:x=mM s:=by
  exact acW
 subst Y7;refine kP H (SC (Rm M ?_));clear H;intro a H;refine gW WT (Li:=[]) (L:=yH b s (mM s) p (.slice vA (mM s).lit.length vc) (.slice qA (mM s).parts.length qc) :: (Lp++Lo)) H wn M (Xr _ Lp Lo _ b s (mM s).i p _ _ (mM s).pl (mM s).e (mM s).lit (mM s).parts hR (Hp.owns (Li:=[]) H.hp) O O) M ?_;clear H;rintro v52 G52 L52 a w ⟨p52,aDL,q52,ana,amX,rfl,IB⟩ awG H;dsimp only [List.nil_append] at H;obtain ⟨JK,Kt,rfl,-,-⟩:=IB.buf.shape;obtain ⟨B52,d52,rfl,-,-⟩:=IB.prt.shape;refine kH H (Kn aT (SR fun _ bR=>Rm M (Rk M (bC DT jE 0 M M (Rc M (Rm M (Sp 58 M ?_ ?_))))))) <;> clear H aT
 ·intro mH a H
  try have p58:=dT mH
  refine kH H (YM mH M ?_);clear H;intro a H;refine zH H (wg H M M mH) M M ?_;clear H;intro a H;refine kH H (YF Rp mH M (YO aF 0 mH M (YC mH M (Pt mH M (Kz bR (Cd M ?_ ?_)))))) <;> clear H bR
  ·exact adK
  exact acR
 intro mH a H
 try have p58:=dF mH
 refine kH H (bH mH M (aU mH M (Pf mH M (Kz bR (Cf M M ?_)))));clear H bR;intro a H;refine iD ?_;refine (leave0 H results266 ?_).2
 exact Qj
section
def BU (c:Int):List Dat:=[.lf (.int .u8 c)]
theorem alO {G:GH} {c:Int} {cs:List ah} (h:aX G (BU c) cs):cs=[.int .u8 c]:=by
 simp only [BU,aX,av] at h
 obtain ⟨_,_,rfl,⟨rfl,_⟩,rfl⟩:=h
 rfl
def Kq (s:ByteArray):List Int:=s.data.toList.map fun b=>(b.toNat:Int)
theorem aom (G:GH) (l:List Int):dx G 1 (l.map BU) (l.map fun c=>Value.int .u8 c):=by
 refine ⟨l.map fun c=>[.int .u8 c],by induction l with|nil=>rfl|cons x r ih=>simp [ih],by simp,fun j r cs hr hc=>?_⟩
 rw [qD] at hr hc
 obtain ⟨x,hx,rfl⟩:=oO.1 hr
 rw [hx] at hc
 cases hc
 exact ⟨by simp only [BU,aX];exact ⟨_,_,M,by simp [av,Value.oneCell'],M⟩,M⟩
theorem aA1 {G:GH} {sz b o n cap:Nat} {cur:Array ah} {e:TypeId} {fz:Nat × Nat} {rows:List (List Dat)} (hb:G b=some (.cells cur e fz)) (h:av (fun k=>if k=b then some (.cells cur e (0,0)) else G k) (.sl sz rows) (.slice (some ⟨b,o,none⟩) n cap)) (hr:∀ r∈rows,∃ c,r=BU c):av G (.sl sz rows) (.slice (some ⟨b,o,none⟩) n cap):=by
 simp only [av] at h |-
 obtain ⟨A,c,h1,h2,h3,h4⟩:=h
 refine ⟨A,c,h1,h2,h3,fun hn=>?_⟩
 obtain ⟨b',o',e',hrr⟩:=h4 hn
 injection h1 with e1
 subst e1
 injection e' with e2
 injection e2 with e3 e4
 subst e3;subst e4
 refine ⟨_,_,M,oC.mk fun k r hk=>?_⟩
 obtain ⟨cs,g1,g2,g3⟩:=hrr.get hk
 refine ⟨cs,g1,fun j u hj=>?_,?_⟩
 ·have:=g2 j u hj
  unfold aI at this |-
  simp only [if_true] at this
  rw [hb];exact this
 ·obtain ⟨c,rfl⟩:=hr r (lZ hk)
  have:=alO g3
  subst this
  simp only [BU,aX];exact ⟨_,_,M,by simp [av,Value.oneCell'],M⟩
section
variable {N:Nat} {D:List Deferred} {w0:World} {F:Nat->Prop} {G0 G:GH} {L:OL} {T:List (Nat × ah)}
variable {r:Option Nat} {P:Program} {ops:Array Oper} {Q:Exit->Act->World->Prop} {rest:List Oper} {a:Act} {w:World}
variable {d:Nat} {ty:TypeId} {pos:String} {aL:Array Edge} {g:Option (Nat × Bool)}
theorem aDC {w:World} {b o n:Nat} {c:Array ah} {e:TypeId} {fz:Nat × Nat} (h:w.heap[b]?=some (.cells c e fz)) (hn:n≠0):∃ Im,vV b (.cells c e Im) w (w.freeze ⟨b,o,none⟩ n):=by
 unfold World.freeze
 rw [au hn]
 refine ⟨if fz.1 == fz.2 then (o,o+n) else (min fz.1 o,max fz.2 (o+n)),M,M,M,by simp,?_,fun k hk=>?_⟩
 ·simp [Array.getElem?_modify,h]
 ·simp [Array.getElem?_modify,Ne.symm hk]
theorem aBR {t u e:TypeId} {x:Operand} {s:ByteArray} (ht:P.underlying t=some .string) (hu:P.underlying u=some (.slice e)) (he:P.underlying e=some (.int .u8)) (H:St N D w0 F G0 G L T a w) (hw:Region.wanted ⟨some d,.convert t u x,ty,pos,aL,g⟩ (yielded ops a.tmps)=true) (hx:ev T x=some (.string s)) (hz:s.size<=4294967296) (hd:Nat.blt d N=true)
  (k:∀ v G' a' w',(∀ k o,G k=some o->G' k=some o)->av G' (.sl 1 ((Kq s).map BU)) v->St N D w0 F G0 G' L ((d,v) :: T) a' w'->WL r P ops Q rest a' w'):WL r P ops Q (⟨some d,.convert t u x,ty,pos,aL,g⟩ :: rest) a w:=by
 have hc:=Lib.run_convert_string_bytes (P:=P) w t u e s ht hu he
 have hge:=grownCap_ge w s.size 0 e
 have hml:s.size<=maxLen:=by
  have:maxLen=9223372036854775807:=rfl
  omega
 have hgm:=grownCap_le_maxLen w s.size 0 e hml
 have H1:=H.hp.drew.alloc (.cells (Lib.bytesCells w e s) e)
 have hw1:(w.drew.alloc (.cells (Lib.bytesCells w e s) e)).heap[w.drew.heap.size]?=some (.cells (Lib.bytesCells w e s) e (0,0)):=H1.own _ dV
 obtain ⟨fz,hu2⟩:=aDC (o:=(Lib.bytesCells w e s).size) (n:=1) hw1 Z
 have H2:=H1.upd (i:=0) M hu2
 have H3:St N D w0 F G0 G ((w.heap.size,.cells (Lib.bytesCells w e s) e fz) :: L) ((d,.slice (some ⟨w.heap.size,0,none⟩) s.size (grownCap w s.size 0 e)) :: T) (a.put (some d) (.slice (some ⟨w.heap.size,0,none⟩) s.size (grownCap w s.size 0 e))) (Lib.bytesWorld w e s):=H.put hd _ H2
 obtain ⟨G',hm,hb,H4⟩:=H3.fU
 have hlen:(Kq s).length=s.size:=by rw [Kq,bK,pY];rfl
 have hrep:av G' (.sl 1 ((Kq s).map BU)) (.slice (some ⟨w.heap.size,0,none⟩) s.size (grownCap w s.size 0 e)):=by
  refine aA1 hb ?_ (fun r hr=>by obtain ⟨c,-,rfl⟩:=List.mem_map.1 hr;exact ⟨c,M⟩)
  refine av.wI (cur:=Lib.bytesCells w e s) (e:=e) (n:=s.size) (cap:=grownCap w s.size 0 e) (by simp) (by rw [bK,hlen]) hge hgm ?_ (aom _ _)
  rw [Lib.bytesCells,Array.toList_append,Nat.mul_one,List.take_left' (by rw [Array.toList_map,bK,pY];rfl)]
  simp [Kq]
 have k2:=k _ _ _ _ hm hrep H4
 refine fI (v:=.slice (some ⟨w.heap.size,0,none⟩) s.size (grownCap w s.size 0 e)) (w':=Lib.bytesWorld w e s) hw M ?_ k2
 simp only [execOp,H.ev hx,dP,hc,nY,rR]
theorem aBV {t yt:TypeId} {x y:Operand} {p q:ByteArray} (H:St N D w0 F G0 G L T a w) (hw:Region.wanted ⟨some d,.binOp .lss t x y yt,ty,pos,aL,g⟩ (yielded ops a.tmps)=true) (hx:ev T x=some (.string p)) (hy:ev T y=some (.string q)) (hd:Nat.blt d N=true)
  (k:∀ a',St N D w0 F G0 G L ((d,.bool (Op.bytesLess p.toList q.toList)) :: T) a' w->WL r P ops Q rest a' w):WL r P ops Q (⟨some d,.binOp .lss t x y yt,ty,pos,aL,g⟩ :: rest) a w:=by
 refine fI (v:=.bool (Op.bytesLess p.toList q.toList)) (w':=w) hw M ?_ (k _ (H.put hd _ H.hp))
 simp [execOp,H.ev hx,H.ev hy,dP,eqGuard,binOp,Op.stringOp]
end
end
theorem asw:aR 271:=aS func271 M
theorem asr:aR 266:=aS func266 M
theorem aso:aR 264:=aS func264 M
theorem aC3:qV prog 340 [(0,1),(1,1),(2,2),(4,1),(5,1),(6,1)] [.string ⟨#[]⟩,.int .i64 0,.pointer none,.slice none 0 0,.slice none 0 0,.int .i64 0,.int .i64 0]:=⟨V,V⟩
theorem asu:aR 267:=aS func267 M
theorem atF:dR prog 318 1 1:=⟨V⟩
theorem asa:aR 246:=aS func246 M
theorem asb:aR 247:=aS func247 M
theorem asq:aR 265:=aS func265 M
theorem asc:aR 248:=aS func248 M
def U1 (fv:ah) (G:GH) (c:Int) (b:Bool):Prop:=∀ (G1:GH) (w1:World),(∀ b o,G b=some o->G1 b=some o)->Hold G1 w1->uh prog fv [.int .u8 c] w1 (bE w1 G1 fun u G'=>u=.bool b)
theorem ayr (G:GH) (w0:World) (hG:Hold G w0) (l:List Int) (p:Int->Bool) (v fv:ah) (hv:av G (.sl 1 (l.map BU)) v) (hf:∀ c∈l,U1 fv G c (p c)) :
  Calls prog 271 #[v,fv] w0 (bE w0 G fun u G'=>u=vi (pz (l.findIdx? p))):=by
 obtain ⟨A,c,rfl,hc1,hc2,hg⟩:=hv.slice;have hml:maxLen=9223372036854775807:=rfl;rw [bK] at *;refine eN [(0,_),(1,_)] func271 M ntmps271 M M hG ?_;intro a H;refine kP H (SR fun _ K1=>aj K1 M (SQ fun _ K2=>SR fun _ K3=>Rm M (Rl Du M (Rm M (Kz K3 (SB ?_))))));clear H K1 K3;intro a H;skip;refine fD (ι:=Nat × GH) (Tc:=[(0,_),(1,_),(7,_)]) (Lc:=[]) (fun gh=>[(8,vi gh.1)]) (fun gh=>[]) (fun gh=>gh.2) (fun gh=>gh.1<=l.length∧(l.take gh.1).findIdx? p=none∧(∀ b o,G b=some o->gh.2 b=some o)) (fun gh=>l.length - gh.1) ((0,G)) (by exact H.sub ⟨M,M,M,M,aC⟩) ?_ ?_
 ·exact zV
 clear H;rintro ⟨k,g⟩ a w hI H;dsimp only at hI H;obtain ⟨hk,hno,hgm⟩:=hI;dsimp only [lca,bM] at H;refine kP H (SR fun _ K4=>Rc M (Kz K4 (SQ fun _ K5=>Cd M ?_ ?_))) <;> clear H K4
 ·intro h9 a H
  try have p9:=dT h9
  have hk2:k < l.length:=by omega
  obtain ⟨b,o,cs,rfl,hcl,hrow,hr⟩:=hg k (BU l[k]) (by simp [hk2]);obtain rfl:=alO hr
  have hcell:aI G b (o+k*1)=some (.int .u8 l[k]):=by simpa using hrow 0 _ M
  refine kP H (Kc K5 (SQ fun _ K6=>SB (SR fun _ K7=>Rm M (aj K7 M (SR fun _ K8=>Rm M (Rm M (Rm M (Ri Du TW M M (Rg TW M (aG hgm hcell) ?_)))))))));clear H K5 K7;intro a H;refine lI H wn M M (hf _ (jS hk2) _ _ hgm H.ro) M ?_;clear H;rintro v16 vQ a w rfl uH H;refine K8 _ _ ?_;clear K8;refine jL H M ?_ ?_
  ·intro h16
   try have p16:=dT h16
   refine kP H (SR fun _ K9=>Rm M (aj K9 M ?_));clear H K9;intro a H;refine lr H results271 M ?_
   exact xS
  exact H9
 intro h9 a H
 try have p9:=dF h9
 refine dY ?_;refine K2 _ _ ?_;clear K2;refine kP H (SR fun _ aT=>aj aT M ?_);clear H aT;intro a H;refine lr H results271 M ?_
 exact xS
theorem Zf (o:Option Nat):decide (0<=pz o)=o.isSome:=by cases o <;> simp [pz]
theorem apO (G:GH) (w0:World) (hG:Hold G w0) (l:List Int) (p:Int->Bool) (v fv:ah) (hv:av G (.sl 1 (l.map BU)) v) (hf:∀ c∈l,U1 fv G c (p c)) :
  Calls prog 264 #[v,fv] w0 (bE w0 G fun u G'=>u=.bool (l.findIdx? p).isSome):=by
 obtain ⟨A,c,rfl,hc1,hc2,-⟩:=hv.slice;rw [bK] at *;refine eN [(0,_),(1,_)] func264 M ntmps264 M M hG ?_;intro a H;refine kP H (SR fun _ K1=>aj K1 M (SR fun _ K2=>Rm M (Rm M ?_)));clear H K1;intro a H;refine s_call asw H wn M (ayr _ _ H.ro l p _ _ hv hf) M ?_;clear H;rintro v7 G7 a w rfl CP H;exact kH H (Rc M (aj K2 M (LR results264 M fun H=>H.rt (iP (Zf _)))))
def Np (c:Int):Bool:=decide (c < 32) || decide (c=127)
theorem apS (G:GH) (c:Int):U1 (.func (.func 265) #[] #[]) G c (Np c):=by
 intro G1 w0 hm hG;refine kD (caps:=[]) asq ?_;refine eN [(0,_)] func265 M ntmps265 M M hG ?_;intro a H;refine kP H (SR fun _ K1=>aj K1 M (SR fun _ K2=>Rm M (Rc M (Rm M (Sp 5 M ?_ ?_))))) <;> clear H K1
 ·intro h5 a H
  try have p5:=dT h5
  exact kH H (aU h5 M (Pt h5 M (aj K2 M (LR results265 M fun H=>H.rt (iP (by unfold Np;first|(simp_all;done)|(simp_all;omega)))))))
 intro h5 a H
 try have p5:=dF h5
 exact kH H (YM h5 M (YC h5 M (Pf h5 M (aj K2 M (LR results265 M fun H=>H.rt (iP (by unfold Np;first|(simp_all;done)|(simp_all;omega))))))))
def zF (t:ByteArray):Int:=if 64 < t.size then 10 else if lX t=false then 12 else if ((Kq t).findIdx? Np).isSome=true then 5 else Mv (mM t)
def Tj (t:ByteArray):List ku:=if zF t=0 then zm (mM t).lit (mM t).parts else []
theorem azf (G:GH) (l:List ku):dx G 3 (l.map ku.dat) (Jh l):=by
 refine ⟨l.map ku.cells,M,by simp,fun j r cs hr hc=>?_⟩;rw [qD] at hr hc;obtain ⟨x,hx,rfl⟩:=oO.1 hr;rw [hx] at hc
 cases hc
 exact ⟨ajp G x,M⟩
theorem acd {p:Prop} (h:p:=by
 first
  | exact H.rt ⟨_,by rw [he0],by rw [Tj,ay he0];exact hrep⟩
  | exact H.rt ⟨_,by rw [he],by rw [Tj,au (by rw [he];first|decide|assumption)];exact av.uM M Z⟩):p:=h
theorem Qv {p:Prop} (h:p:=by
 refine eP ?_;refine (kG H results246 (.cons (fB H M) (.cons (fB H M) .nil)) ?_).1
 exact acd):p:=h
theorem aAv (G:GH) (w0:World) (hG:Hold G w0) (t:ByteArray) (ht:t.size < 4611686018427387904) :
  Calls prog 246 #[.string t] w0 (bE w0 G fun u G'=>∃ x,u=.tuple #[x,vi (zF t)]∧av G' (.sl 3 ((Tj t).map ku.dat)) x):=by
 refine eN [(0,_)] func246 M ntmps246 M M hG ?_;intro a H;refine kP H (SR fun _ K1=>Ra M (aj K1 M (SQ fun _ K2=>SB (SR fun _ K3=>Rm M (Rv iW M (Rc M (aj K3 M (Cd M ?_ ?_)))))))) <;> clear H K1 K3
 ·intro h5 a H
  try have p5:=dT h5
  refine bL (fun _ K4=>?_)
  have he:zF t=10:=by rw [zF,jl]
  refine kP H (SC (Ra M (bF K4 M ?_)));clear H K4;intro a H;exact Qv
 intro h5 a H
 try have p5:=dF h5
 refine kP H (SR fun _ K5=>Rm M ?_);clear H;intro a H;refine s_call Nz H wn M (Pw _ _ H.ro t ht) M ?_;clear H;rintro v11 _ a w ⟨rfl,rfl⟩ - H;refine kH H (Rn M (aj K5 M (Cd M ?_ ?_))) <;> clear H K5
 ·intro h9 a H
  try have p9:=dT h9
  refine bL (fun _ K6=>?_)
  have he:zF t=12:=by rw [zF,bU,ay (by simpa using h9)]
  refine kP H (SC (Ra M (bF K6 M ?_)));clear H K6;intro a H;exact Qv
 intro h9 a H
 try have p9:=dF h9
 refine kP H (SR fun _ K7=>Rm M ?_);clear H;intro a H;refine aBR iW Du Pn H wn M O M ?_;clear H;intro v15 GN a w Ej aiH H;obtain ⟨A15,c15,rfl,-,-,-⟩:=aiH.slice;refine s_call aso H wn M (apO _ _ H.ro _ Np _ _ aiH (fun c _=>apS _ c)) M ?_;clear H;rintro v16 vQ a w rfl uH H;refine kH H (aj K7 M (Cd M ?_ ?_)) <;> clear H K7
 ·intro ig a H
  try have sZ:=dT ig
  refine bL (fun _ K8=>?_)
  have he:zF t=5:=by rw [zF,bU,au (by simpa using h9),ay ig]
  refine kP H (SC (Ra M (bF K8 M ?_)));clear H K8;intro a H;exact Qv
 intro ig a H
 try have sZ:=dF ig
 refine kP H (Kc K2 (SR fun _ K9=>Rm M ?_));clear H K2;intro a H;refine jM aC3 [_,_,_,_,_,_,_] H wn M M M M ?_;clear H;intro a H;refine dZ (cs:=[_,_,_,_,_,_,_]) H wn M M M ?_;clear H;intro b19 a w avq H;refine kH H (aj K9 M (SQ fun _ aT=>SR fun _ bR=>Rm M ?_));clear H K9;intro a H;refine gW asr (Li:=[]) (L:=[yH b19 t Dl (.pointer none) (.slice none 0 0) (.slice none 0 0)]) H wn M (aCa _ [] [] _ b19 t _ _ _ ⟨.inl M,bY.nil,bY.nil⟩ (Hp.owns (Li:=[]) H.hp) O) M ?_;clear H;rintro v21 Uw L21 a w ⟨p',v',q',tF,jr,rfl,XY⟩ CK H;dsimp only [List.nil_append] at H;obtain ⟨A21,c21,rfl,-,-⟩:=XY.buf.shape;obtain ⟨B21,d21,rfl,-,-⟩:=XY.prt.shape;refine bR _ _ ?_;clear bR;refine bL (fun _ cu=>?_)
 have he:zF t=Mv (mM t):=by rw [zF,bU,au (by simpa using h9),au (by simp [ig])]
 refine kP H (SC (Rm M (Rk M (bC DT jE 0 M M (Rc M (Kn cu (Cd M ?_ ?_))))))) <;> clear H cu
 ·intro ko a H
  try have p26:=dT ko
  refine bL (fun _ dw=>?_);have H:=H.sub (T':=[(4,_)]) ⟨M,aC⟩;refine dI hmx [[],[0],[0,1],[0,1,2],[],ra 0 5] [] V [_,_,_,vi (Mv (mM t)),_,_] H (aB (Z0 M (Rm M)) (Z1 0 27 M (Rk M)) (Z1 1 28 M (Rf DT M)) (Z1 2 29 M (Ro jE 0 M)) (bN (Z0 M (Ra M)) (bN (Z1 3 30 M (Ra M)) dz))) ?_
  clear H;intro a w G uD H hv;have H:=H.aM (hv 4 2 M M) M;have H:=H.aM (hv 5 3 M M) M;clear hv;refine aD ⟨M,?_⟩;refine dw _ _ ?_;clear dw;exact Qv
 intro ko a H
 try have p26:=dF ko
 refine iD ?_;refine aT _ _ ?_;clear aT;refine bL (fun _ dB=>?_)
 have he0:zF t=0:=by rw [he];omega
 have H:=(St.cast H (show _=[_]++(tF++jr) from rfl)).perm (List.Perm.append_left _ uU);have H:=St.un H;obtain ⟨Gr,hmr,hrep,H⟩:=St.qh (Li:=[_]++jr) (Lo:=tF) H XY.prt (rows:=(zm (mM t).lit (mM t).parts).map ku.dat) (by simp) (azf _ _);dsimp only [lca,bM] at H;refine kP H (SC (Rm M (Rk M (bC NI Ph 0 M M (Ra M (bF dB M ?_))))));clear H dB;intro a H;refine eP ?_;refine (kG H results246 (.cons (fB H M) (.cons (fB H M) .nil)) ?_).1
 exact acd
structure qB where
 fmt:Int
 start:Int
 BN:ByteArray
 restart:Int
def qB.dat (x:qB):List Dat:=[li x.fmt,li x.start,.lf (.string x.BN),li x.restart]
abbrev qB.cells (x:qB):List ah:=[vi x.fmt,vi x.start,.string x.BN,vi x.restart]
theorem acQ {p:Prop} (h:p:=by
 obtain ⟨_,_,rfl,⟨rfl,_⟩,_,_,rfl,⟨rfl,_⟩,_,_,rfl,⟨rfl,_⟩,_,_,rfl,⟨rfl,_⟩,rfl⟩:=h
 rfl):p:=h
theorem azh {G:GH} {x:qB} {cs:List ah} (h:aX G x.dat cs):cs=x.cells:=by
 simp only [qB.dat,aX,av] at h
 exact acQ
theorem ayp (G:GH) (w0:World) (hG:Hold G w0) (l:List ku) (p:ku->Bool) (v fv:ah) (hv:av G (.sl 3 (l.map ku.dat)) v) (hf:∀ x∈l,qW fv G x.dat (p x)) :
  Calls prog 267 #[v,fv] w0 (bE w0 G fun u G'=>u=vi (pz (l.findIdx? p))):=by
 obtain ⟨A,c,rfl,hc1,hc2,hg⟩:=hv.slice;have hml:maxLen=9223372036854775807:=rfl;rw [bK] at *;refine eN [(0,_),(1,_)] func267 M ntmps267 M M hG ?_;intro a H;refine kP H (SR fun _ K1=>aj K1 M (SQ fun _ K2=>SR fun _ K3=>Rm M (Rl MG M (Rm M (Kz K3 (SB ?_))))));clear H K1 K3;intro a H;skip;refine fD (ι:=Nat × GH) (Tc:=[(0,_),(1,_),(7,_)]) (Lc:=[]) (fun gh=>[(8,vi gh.1)]) (fun gh=>[]) (fun gh=>gh.2) (fun gh=>gh.1<=l.length∧(l.take gh.1).findIdx? p=none∧(∀ b o,G b=some o->gh.2 b=some o)) (fun gh=>l.length - gh.1) ((0,G)) (by exact H.sub ⟨M,M,M,M,aC⟩) ?_ ?_
 ·exact zV
 clear H;rintro ⟨k,g⟩ a w hI H;dsimp only at hI H;obtain ⟨hk,hno,hgm⟩:=hI;dsimp only [lca,bM] at H;refine kP H (SR fun _ K4=>Rc M (Kz K4 (SQ fun _ K5=>Cd M ?_ ?_))) <;> clear H K4
 ·intro h9 a H
  try have p9:=dT h9
  have hk2:k < l.length:=by omega
  obtain ⟨b,o,cs,rfl,hcl,hrow,hr⟩:=hg k l[k].dat (by simp [hk2]);obtain rfl:=ajo hr;refine kP H (Kc K5 (SQ fun _ K6=>SB (SR fun _ K7=>Rm M (aj K7 M (SR fun _ K8=>Rm M (Rm M (Rm M (Ri MG MC M M ?_))))))));clear H K5 K7;intro a H;refine bQ MC (cs:=l[k].cells) H wn M M (fun j v hj=>H.hp.aI (aG hgm (hrow j v hj))) M ?_;clear H;intro a H;refine lI H wn M M (hf _ (jS hk2) _ _ _ hgm H.ro (ajp _ l[k])) M ?_;clear H;rintro v16 vQ a w rfl uH H;refine K8 _ _ ?_;clear K8;refine jL H M ?_ ?_
  ·intro h16
   try have p16:=dT h16
   refine kP H (SR fun _ K9=>Rm M (aj K9 M ?_));clear H K9;intro a H;refine lr H results267 M ?_
   exact xS
  exact H9
 intro h9 a H
 try have p9:=dF h9
 refine dY ?_;refine K2 _ _ ?_;clear K2;refine kP H (SR fun _ aT=>aj aT M ?_);clear H aT;intro a H;refine lr H results267 M ?_
 exact xS
theorem apN (G:GH) (w0:World) (hG:Hold G w0) (l:List ku) (p:ku->Bool) (v fv:ah) (hv:av G (.sl 3 (l.map ku.dat)) v) (hf:∀ x∈l,qW fv G x.dat (p x)) :
  Calls prog 247 #[v,fv] w0 (bE w0 G fun u G'=>u=.bool (l.findIdx? p).isSome):=by
 obtain ⟨A,c,rfl,hc1,hc2,-⟩:=hv.slice;rw [bK] at *;refine eN [(0,_),(1,_)] func247 M ntmps247 M M hG ?_;intro a H;refine kP H (SR fun _ K1=>aj K1 M (SR fun _ K2=>Rm M (Rm M ?_)));clear H K1;intro a H;refine s_call asu H wn M (ayp _ _ H.ro l p _ _ hv hf) M ?_;clear H;rintro v7 G7 a w rfl CP H;exact kH H (Rc M (aj K2 M (LR results247 M fun H=>H.rt (iP (Zf _)))))
theorem azi {G:GH} {bl:Nat} {k:Int} (hb:aI G bl 0=some (vi k)) (x:ku):qW (.func (.func 248) #[] #[(aH bl 0)]) G x.dat (decide (k < x.level)):=by
 intro G1 w0 cs hm hG hr;refine kD (caps:=[(aH bl 0)]) asc ?_;obtain rfl:=ajo hr;replace hb:=aG hm hb;refine eN [(0,_),(1,_)] func248 M ntmps248 M M hG ?_;intro a H;refine cZ (fun _ K1=>?_);refine dZ (cs:=[_,_,_]) H wn M M M ?_;clear H;intro b2 a w hb2 H;refine kH H (aj K1 M (SR fun _ K2=>bC atF aF 0 M M (Rg aF M (by assumption) ?_)));clear H K1;intro a H;exact kH H (Rc M (aj K2 M (LR results248 M fun H=>H.rt M)))
def Ma (t:ByteArray) (k:Int):Int:=if k < 1∨9 < k then 2 else if zF t=0∧((Tj t).findIdx? fun x=>decide (k < x.level)).isSome=true then 6 else zF t
theorem Vf {p:Prop} (h:p:=by
 exact H.rt (cO vi (by unfold Ma;(repeat' split) <;> first|rfl|(exfalso;simp_all;done)|(exfalso;simp_all;omega)|(simp_all;done)))):p:=h
theorem VY {p:Prop} (h:p:=by
 intro a H;refine lr H results223 M ?_
 exact Vf):p:=h
theorem azg (G:GH) (w0:World) (hG:Hold G w0) (t:ByteArray) (k:Int) (ht:t.size < 4611686018427387904) :
  Calls prog 223 #[.string t,vi k] w0 (bE w0 G fun u G'=>u=vi (Ma t k)):=by
 refine eN [(0,_),(1,_)] func223 M ntmps223 M M hG ?_;intro a H;refine cZ (fun _ K1=>?_);refine dZ (cs:=[_]) H wn M M M ?_;clear H;intro b3 a w hb3 H;refine kH H (aj K1 M (SQ fun _ K2=>SR fun _ K3=>Ro aF 0 M (Rc M (Rm M (Sp 9 M ?_ ?_))))) <;> clear H K1
 ·intro h9 a H
  try have p9:=dT h9
  refine kH H (aU h9 M (Pt h9 M (Kz K3 (Ct M M (SR fun _ K4=>aj K4 M ?_)))));clear H K3 K4;exact VY
 intro h9 a H
 try have p9:=dF h9
 refine kH H (YO aF 0 h9 M (YC h9 M (Pf h9 M (Kz K3 (Cd M ?_ ?_))))) <;> clear H K3
 ·intro h12 a H
  try have rM:=dT h12
  refine kP H (SR fun _ K5=>aj K5 M ?_);clear H K5;exact VY
 intro h12 a H
 try have rM:=dF h12
 refine iD ?_;refine K2 _ _ ?_;clear K2;refine bL (fun _ K6=>?_);obtain ⟨Ga,hma,zu,H⟩:=H.fU
 have hbk:aI Ga b3 0=some (vi k):=by unfold aI;rw [zu];rfl
 refine kP H (SC (Rm M ?_));clear H;intro a H;refine s_call asa H wn M (aAv _ _ H.ro t ht) M ?_;clear H;rintro v15 GN a w ⟨x15,rfl,aiK⟩ Ej H;obtain ⟨A15,c15,rfl,-,-,-⟩:=aiK.slice;replace hbk:=aG Ej hbk;refine kH H (Rm M ?_);clear H;intro a H;(iterate 2 refine lJ H wn M M M ?_;clear H;intro a H);refine kH H (Ra M (bF K6 M (SQ fun _ K7=>SR fun _ K8=>Rm M (Rc M (Rm M (Sp 20 M ?_ ?_)))))) <;> clear H K6
 ·intro h20 a H
  try have BI:=dT h20
  refine kH H (YM h20 M ?_);clear H;intro a H;refine vG H (wg H M M h20) M M ?_;clear H;intro a H;refine s_call asb H (wg H M M h20) M (apN _ _ H.ro _ (fun x=>decide (k < x.level)) _ _ aiK (fun x _=>azi hbk x)) M ?_;clear H;rintro v23 Uy a w rfl CO H;refine kH H (Pt h20 M (Kz K8 (Cd M ?_ ?_))) <;> clear H K8
  ·intro fV a H
   try have pJ:=dT fV
   refine kP H (SC (bF K7 M (SR fun _ K9=>Rm M (aj K9 M ?_))));clear H K7 K9;intro a H;refine lr H results223 M ?_
   exact Vf
  intro fV a H
  try have pJ:=dF fV
  refine kP H (Kc K7 (SR fun _ aT=>Rm M (aj aT M ?_)));clear H K7 aT;exact VY
 intro h20 a H
 try have BI:=dF h20
 refine kH H (bH h20 M (Pf h20 M (Kz K8 (Cf M M (Kc K7 (SR fun _ bR=>Rm M (aj bR M ?_)))))));clear H K8 K7 bR;intro a H;refine lr H results223 M ?_
 exact Vf
theorem JD:Ty prog 96 4 40 [.int .i64 0,.int .i64 0,.string ⟨#[]⟩,.int .i64 0] true:=⟨V,V⟩
theorem GD:prog.underlying 91=some (.slice 96):=by kernel_rfl
theorem agu:dR prog 96 0 0:=⟨V⟩
theorem agv:dR prog 96 1 1:=⟨V⟩
theorem atI:dR prog 96 2 2:=⟨V⟩
theorem arR:aR 223:=aS func223 M
theorem agw:dR prog 96 3 3:=⟨V⟩
def Ie:Nat->List qB->Int
 | _,[]=>0
 | i,x :: r=>if x.fmt < 1∨7 < x.fmt then 3 else if x.start < 0∨32767 < x.start then 2 else if Ma x.BN ((i+1:Nat):Int)≠0 then Ma x.BN ((i+1:Nat):Int) else if x.restart < 0∨(i:Int) < x.restart then 5 else Ie (i+1) r
def Bb (l:List qB):Int:=if l.length=0 then 11 else if 9 < l.length then 9 else Ie 0 l
theorem Nl {l:List qB} {k:Nat} (h:k < l.length):Ie k (l.drop k)=if l[k].fmt < 1∨7 < l[k].fmt then 3 else if l[k].start < 0∨32767 < l[k].start then 2 else if Ma l[k].BN ((k+1:Nat):Int)≠0 then Ma l[k].BN ((k+1:Nat):Int) else if l[k].restart < 0∨(k:Int) < l[k].restart then 5 else Ie (k+1) (l.drop (k+1)):=by
 rw [nK h,Ie]
theorem ace {p:Prop} (h:p:=by
 first
  | exact H.rt (cO vi (by rw [Bb,jl]))
  | exact H.rt (cO vi (by rw [Bb,bU,jl]))
  | exact H.rt (cO vi (by rw [Bb,bU,bU,<- he,Nl hk2,jl]))
  | exact H.rt (cO vi (by rw [Bb,bU,bU,<- he,Nl hk2,bU,jl]))
  | exact H.rt (cO vi (by rw [Bb,bU,bU,<- he,Nl hk2,bU,bU,ay p45]))
  | exact H.rt (cO vi (by rw [Bb,bU,bU,<- he,Nl hk2,bU,bU,au p45,jl]))
  | exact H.rt (cO vi (by rw [Bb,bU,bU,<- he,rU O];rfl))):p:=h
theorem DK {p:Prop} (h:p:=by
 intro a H;refine lr H results185 M ?_
 exact ace):p:=h
theorem aoU (G:GH) (w0:World) (hG:Hold G w0) (l:List qB) (v:ah) (hv:av G (.sl 4 (l.map qB.dat)) v) (ht:∀ x∈l,x.BN.size < 4611686018427387904) :
  Calls prog 185 #[v] w0 (bE w0 G fun u G'=>u=vi (Bb l)):=by
 obtain ⟨A,c,rfl,hc1,hc2,hg⟩:=hv.slice;have hml:maxLen=9223372036854775807:=rfl;rw [bK] at *;refine eN [(0,_)] func185 M ntmps185 M M hG ?_;intro a H;refine kP H (SR fun _ K1=>aj K1 M (SQ fun _ K2=>SB (SR fun _ K3=>Rm M (Rl GD M (Rc M (aj K3 M (Cd M ?_ ?_))))))) <;> clear H K1 K3
 ·intro h6 a H
  try have p6:=dT h6
  refine kP H (SR fun _ K4=>aj K4 M ?_);clear H K4;exact DK
 intro h6 a H
 try have p6:=dF h6
 refine kP H (SR fun _ K5=>Rm M (Rl GD M (Rc M (aj K5 M (Cd M ?_ ?_))))) <;> clear H K5
 ·intro h10 a H
  try have ni:=dT h10
  refine kP H (SR fun _ K6=>aj K6 M ?_);clear H K6;exact DK
 intro h10 a H
 try have ni:=dF h10
 refine kP H (Kc K2 (SQ fun _ K7=>SR fun _ K8=>Rm M (Rl GD M (Rm M (Kz K8 (SB ?_))))));clear H K2 K8;intro a H;skip;refine fD (ι:=Nat × GH) (Tc:=[(14,_),(15,_)]) (Lc:=[]) (fun gh=>[(16,vi gh.1)]) (fun gh=>[]) (fun gh=>gh.2) (fun gh=>gh.1<=l.length∧Ie gh.1 (l.drop gh.1)=Ie 0 l∧(∀ b o,G b=some o->gh.2 b=some o)) (fun gh=>l.length - gh.1) ((0,G)) (by exact H.sub ⟨M,M,M,aC⟩) ?_ ?_
 ·exact Fa
 clear H;rintro ⟨k,g⟩ a w hI H;dsimp only at hI H;obtain ⟨hk,he,hgm⟩:=hI;dsimp only [lca,bM] at H;refine kP H (SR fun _ K9=>Rc M (Kz K9 (SQ fun _ aT=>Cd M ?_ ?_))) <;> clear H K9
 ·intro fH a H
  try have oI:=dT fH
  have hk2:k < l.length:=by omega
  obtain ⟨b,o,cs,rfl,hcl,hrow,hr⟩:=hg k l[k].dat (by simp [hk2]);obtain rfl:=azh hr;refine kP H (Kc aT (SQ fun _ bR=>SB (SR fun _ cu=>Rm M (Ri GD JD M M ?_))));clear H aT;intro a H;refine bQ JD (cs:=l[k].cells) H wn M M (fun j v hj=>H.hp.aI (aG hgm (hrow j v hj))) M ?_;clear H;intro a H;refine dW JD H wn M ?_;clear H;intro b4 a w hb4 H;refine kH H (Ra M ?_);clear H;intro a H;refine bJ JD 0 (vs:=[_,_,_,_]) H wn M ?_;clear H;intro w H;refine cu _ _ ?_;clear cu;refine kP H (SQ fun _ dw=>SB (SR fun _ dB=>bC agu aF 0 M M (Rc M (Rm M (Sp 25 M ?_ ?_))))) <;> clear H
  ·intro iR a H
   try have p25:=dT iR
   refine kH H (bH iR M (Pt iR M (aj dB M (Ct M M (SR fun _ dX=>aj dX M ?_)))));clear H dB dX;exact DK
  intro iR a H
  try have p25:=dF iR
  refine kH H (YF agu iR M (YO aF 0 iR M (YC iR M (Pf iR M (aj dB M (Cd M ?_ ?_)))))) <;> clear H dB
  ·intro h21 a H
   try have xG:=dT h21
   refine kP H (SR fun _ eu=>aj eu M ?_);clear H eu;exact DK
  intro h21 a H
  try have xG:=dF h21
  refine kP H (SR fun _ dN=>bC agv aF 0 M M (Rc M (Rm M (Sp 34 M ?_ ?_)))) <;> clear H
  ·intro gN a H
   try have p34:=dT gN
   refine kH H (bH gN M (Pt gN M (aj dN M (Ct M M (SR fun _ eO=>aj eO M ?_)))));clear H dN eO;exact DK
  intro gN a H
  try have p34:=dF gN
  refine kH H (YF agv gN M (YO aF 0 gN M (YC gN M (Pf gN M (aj dN M (Cd M ?_ ?_)))))) <;> clear H dN
  ·intro qJ a H
   try have p30:=dT qJ
   refine kP H (SR fun _ gD=>aj gD M ?_);clear H gD;exact DK
  intro qJ a H
  try have p30:=dF qJ
  refine kP H (Kc dw (SQ fun _ fF=>SR fun _ gK=>bC atI jf 0 M M (Rm M (Rd M ?_))));clear H dw;intro a H;rw [show ((k:Int)+1)=((k+1:Nat):Int) from rfl] at H;refine s_call arR H wn M (azg _ _ H.ro l[k].BN ((k+1:Nat):Int) (ht _ (jS hk2))) M ?_;clear H;rintro v43 PO a w rfl FI H;refine kH H (aj gK M (SR fun _ jg=>Rm M (Rc M (Kz jg (Cd M ?_ ?_))))) <;> clear H gK jg
  ·intro h45 a H
   try have p45:=dT h45
   refine kP H (SR fun _ kX=>Rm M (aj kX M ?_));clear H kX;exact DK
  intro h45 a H
  try have p45:=dF h45
  refine kP H (Kc fF (SR fun _ kQ=>bC agw aF 0 M M (Rc M (Rm M (Sp 50 M ?_ ?_))))) <;> clear H fF
  ·intro h50 a H
   try have p50:=dT h50
   refine kH H (aU h50 M (aU h50 M (Pt h50 M (Kz kQ (Ct M M (SR fun _ jP=>aj jP M ?_))))));clear H kQ jP;exact DK
  intro h50 a H
  try have p50:=dF h50
  refine kH H (YF agw h50 M (YO aF 0 h50 M (YM h50 M (YC h50 M (Pf h50 M (Kz kQ (Cd M ?_ ?_))))))) <;> clear H kQ
  ·intro oG a H
   try have p55:=dT oG
   refine kP H (SR fun _ mE=>aj mE M ?_);clear H mE;exact DK
  intro oG a H
  try have p55:=dF oG
  refine kP H (Kc bR (SC (Rd M (Rm M ?_))));clear H bR;intro a H;refine aD ?_;refine dQ ((k+1,PO)) (by exact (H.eD (Pl:=[_]) (dK:=[]) [] Z M).sub ⟨M,M,M,aC⟩) ?_
  (try dsimp only);exact ⟨O,by rw [Nl hk2,bU,bU,au p45,bU] at he;exact he,fun b o h=>FI b o (hgm b o h)⟩
 intro fH a H
 try have oI:=dF fH
 refine dY ?_;refine K7 _ _ ?_;clear K7;refine kP H (SR fun _ mF=>aj mF M ?_);clear H mF;intro a H;refine lr H results185 M ?_
 exact ace
theorem Dr:Ty prog 32 1 24 [.slice none 0 0] false:=⟨V,V⟩
theorem yK:prog.underlying 32=some (.slice 93):=by kernel_rfl
theorem BS:Ty prog 93 2 32 [.int .i64 0,.slice none 0 0] true:=⟨V,V⟩
theorem agt:dR prog 93 0 0:=⟨V⟩
theorem aaM:Ty prog 91 1 24 [.slice none 0 0] false:=⟨V,V⟩
theorem afu:aR 125:=aS func125 M
theorem Xf:dR prog 93 1 1:=⟨V⟩
theorem arx:aR 185:=aS func185 M
theorem KF:aR 123:=aS func123 M
theorem arw:aR 184:=aS func184 M
theorem arv:aR 183:=aS func183 M
structure fT where
 id:Int
 levels:List qB
def fT.dat (x:fT):List Dat:=[li x.id,.sl 4 (x.levels.map qB.dat)]
structure jq where
 id:Int
 parent:Int
 author:ByteArray
 time:Int
 text:ByteArray
 done:Bool
def jq.dat (x:jq):List Dat:=[li x.id,li x.parent,.lf (.string x.author),li x.time,.lf (.string x.text),.lf (.bool x.done)]
abbrev jq.cells (x:jq):List ah:=[vi x.id,vi x.parent,.string x.author,vi x.time,.string x.text,.bool x.done]
structure nJ where
 name:ByteArray
 value:ByteArray
def nJ.dat (x:nJ):List Dat:=[.lf (.string x.name),.lf (.string x.value)]
abbrev nJ.cells (x:nJ):List ah:=[.string x.name,.string x.value]
theorem aeL {G:GH} {x:jq} {cs:List ah} (h:aX G x.dat cs):cs=x.cells:=by
 simp only [jq.dat,aX,av] at h
 obtain ⟨_,_,rfl,⟨rfl,_⟩,_,_,rfl,⟨rfl,_⟩,_,_,rfl,⟨rfl,_⟩,_,_,rfl,⟨rfl,_⟩,_,_,rfl,⟨rfl,_⟩,_,_,rfl,⟨rfl,_⟩,rfl⟩:=h
 rfl
theorem aDN {G:GH} {x:nJ} {cs:List ah} (h:aX G x.dat cs):cs=x.cells:=by
 simp only [nJ.dat,aX,av] at h
 obtain ⟨_,_,rfl,⟨rfl,_⟩,_,_,rfl,⟨rfl,_⟩,rfl⟩:=h
 rfl
theorem ZE {G:GH} {l:List fT} {A:Option Addr} {n c k:Nat} (hv:av G (.sl 2 (l.map fT.dat)) (.slice A n c)) (hk:k < l.length):∃ b o B d,A=some ⟨b,o,none⟩∧(∀ j u,[vi l[k].id,.slice B l[k].levels.length d][j]?=some u->aI G b (o+k*2+j)=some u)∧av G (.sl 4 (l[k].levels.map qB.dat)) (.slice B l[k].levels.length d):=by
 obtain ⟨A',c',he,_,_,hg⟩:=hv.slice
 injection he with e1 e2 e3
 subst e1;obtain ⟨b,o,cs,h1,h2,h3,h4⟩:=hg k l[k].dat (by simp [hk])
 simp only [fT.dat,aX] at h4
 obtain ⟨v1,_,rfl,⟨rfl,-⟩,v2,_,rfl,hl,rfl⟩:∃ v vs,cs=v :: vs∧av G (li l[k].id) v∧∃ v2 vs2,vs=v2 :: vs2∧av G (.sl 4 (l[k].levels.map qB.dat)) v2∧vs2=[]:=h4;obtain ⟨B,d,rfl,-,-,-⟩:=hl.slice;rw [bK] at *;exact ⟨b,o,B,d,h1,h3,hl⟩
theorem ayY {G:GH} {bl:Nat} {l:List fT} {A:Option Addr} {n c:Nat} (hb:aI G bl 0=some (.slice A n c)) (hv:av G (.sl 2 (l.map fT.dat)) (.slice A n c)):vT (.func (.func 184) #[] #[(aH bl 0)]) G l.length fun k=>(l[k]?.map fT.id).getD 0:=by
 intro k hk G1 w0 hm hG;refine kD (caps:=[(aH bl 0)]) arw ?_;replace hb:=aG hm hb
 obtain rfl:n=l.length:=by have:=hv.len;simpa using this
 obtain ⟨b,o,B,d,rfl,hrow,-⟩:=ZE (hv.mono hm) hk;have hq:=hrow 0 _ M;refine eN [(0,_),(1,_)] func184 M ntmps184 M M hG ?_;intro a H;refine kP H (SR fun _ K1=>aj K1 M (SR fun _ K2=>Rg Dr M (by assumption) ?_));clear H K1;intro a H;refine kH H (Rm M (Ri yK BS M M (Rf agt M (Rg aF M (by assumption) ?_))));clear H;intro a H;exact kH H (aj K2 M (LR results184 M fun H=>H.rt (by dsimp only;rw [eB hk];rfl)))
def Jf (l:List fT) (i:Nat):Int:=eG [xC (fun k=>(l[k]?.map fT.id).getD 0) i,Bb ((l[i]?.map fT.levels).getD [])]
theorem acf {p:Prop} (h:p:=by
 exact fin H mW (rfl)):p:=h
theorem adL {p:Prop} (h:p:=by
 refine eT 0 4 1 5 M M fun _ a w G1 hG HT H fin=>?_;refine s_call afu H wn M (aiS _ _ H.ro k _ _ O (fun i hi=>(hcb.mono hG) i O)) M ?_;clear H;rintro v6 G6 a w rfl mW H;exact acf):p:=h
theorem Hz {p:Prop} (h:p:=by
 refine UR M fun _ a w G1 hG HT H fin=>?_;refine vG H wn M M ?_;exact jH):p:=h
theorem azb {G:GH} {bl:Nat} {l:List fT} {A:Option Addr} {n c:Nat} (hb:aI G bl 0=some (.slice A n c)) (hv:av G (.sl 2 (l.map fT.dat)) (.slice A n c)) (hl:l.length<=4294967296) (ht:∀ x∈l,∀ y∈x.levels,y.BN.size < 4611686018427387904):vT (.func (.func 183) #[] #[(aH bl 0)]) G l.length (Jf l):=by
 intro k hk G1 w0 hm hG;refine kD (caps:=[(aH bl 0)]) arv ?_;replace hb:=aG hm hb;replace hv:=hv.mono hm;have hcb:=ayY hb hv
 obtain rfl:n=l.length:=by have:=hv.len;simpa using this
 obtain ⟨b,o,B,d,rfl,hrow,hlv⟩:=ZE hv hk;have hq:=hrow 1 _ M
 have he:Jf l k=eG [xC (fun k=>(l[k]?.map fT.id).getD 0) k,Bb l[k].levels]:=by unfold Jf;rw [eB hk];rfl
 refine eN [(0,_),(1,_)] func183 M ntmps183 M M hG ?_;intro a H;refine kP H (SR fun _ K1=>aj K1 M (SQ fun _ K2=>?_));clear H K1;intro a H;have H:=H.sub (T':=[(0,_),(1,_)]) ⟨M,M,aC⟩;refine dI hmx [[],[],[0,1],[],[],[3,4],[3,4,5],ra 3 4,ra 0 8,ra 0 9,ra 0 10,ra 0 11] [9,10,11] V [_,.func (.func 184) #[] #[(aH bl 0)],vi (xC (fun k=>(l[k]?.map fT.id).getD 0) k),_,_,_,_,_,vi (Bb l[k].levels)] H (aB (Z0 M (Rm M)) ?_ ?_ (X0 M fun hG=>Rg Dr M (aG hG hb)) (aB (Z0 M (Rm M)) (Z2 3 7 4 8 M (Ri yK BS M M)) (Z1 5 9 M (Rf Xf M)) (X1 6 10 M fun hG=>Rg aaM M (aG hG hq)) (aB ?_ (bS M) (bS M) (bS M) dz))) ?_
 ·exact Hz
 ·exact adL
 ·refine iO 7 11 M M fun _ a w G1 hG HT H fin=>?_;refine s_call arx H wn M (aoU _ _ H.ro _ _ (hlv.mono hG) (ht _ (jS hk))) M ?_;clear H;rintro v12 EM a w rfl oH H;exact fin H oH (rfl)
 clear H;intro a w G nO H hv;have H:=H.aM (hv 2 6 M M) M;have H:=H.aM (hv 8 12 M M) M;clear hv;refine iV sH jE [_,_] [_,_] H wn M M M M M (by intro i q h;match i,h with|0,h=>exact h|1,h=>exact h|n+2,h=>simp at h) M M ?_;clear H;intro b13 a w RJ H;obtain ⟨JN,KY,avm,H⟩:=H.fU;refine s_call tK H wn M (tN _ _ H.ro _ _ (Aq avm)) M ?_;clear H;rintro v14 _ a w ⟨rfl,rfl⟩ - H;refine kH H (Ra M ?_);clear H;intro a H;refine aD ⟨M,?_⟩;refine K2 _ _ ?_;clear K2;refine lr H results183 M ?_;exact H.rt (by rw [he])
def Ni (l:List fT):Int:=eG [dH (decide (64 < (l.length:Int))) 9,lF (Jf l) (min l.length 64)]
theorem vT.le {fv:ah} {G:GH} {n m:Nat} {E:Nat->Int} (h:vT fv G n E) (hm:m<=n):vT fv G m E:=fun i hi=>h i O
theorem anK {p:Prop} (h:p:=by
 exact fin H iJ (cO vi O)):p:=h
theorem acg {p:Prop} (h:p:=by
 exact fin H tQ (rfl)):p:=h
theorem Qt {p:Prop} (h:p:=by
 refine iO 2 5 M M fun _ a w G1 hG HT H fin=>?_;refine s_call mZ H wn M (nG _ _ H.ro _ 9) M ?_;clear H;rintro v6 G6 a w ⟨rfl,-⟩ mW H;exact acf):p:=h
theorem Qw {p:Prop} (h:p:=by
 refine iO 5 8 M M fun _ a w G1 hG HT H fin=>?_;refine aBW H wn M M M ?_;clear H;intro a H;exact anK):p:=h
theorem Nh {p:Prop} (h:p:=by
 clear H;rintro v11 yM a w rfl tQ H;exact acg):p:=h
theorem aoV (G:GH) (w0:World) (hG:Hold G w0) (l:List fT) (v:ah) (hv:av G (.sl 2 (l.map fT.dat)) v) (hl:l.length<=4294967296) (ht:∀ x∈l,∀ y∈x.levels,y.BN.size < 4611686018427387904) :
  Calls prog 120 #[v] w0 (bE w0 G fun u G'=>u=vi (Ni l)):=by
 obtain ⟨A,c,rfl,hc1,hc2,-⟩:=hv.slice;rw [bK] at *;refine eN [(0,_)] func120 M ntmps120 M M hG ?_;intro a H;refine cZ (fun _ K1=>?_);refine dZ (cs:=[_]) H wn M M M ?_;clear H;intro b1 a w hb1 H;refine kH H (aj K1 M (SQ fun _ K2=>?_));clear H K1;intro a H;have H:=H.sub (T':=[(1,_)]) ⟨M,aC⟩;obtain ⟨Ga,hma,hb1',H⟩:=H.fU
 have hbl:aI Ga b1 0=some (.slice A l.length c):=by unfold aI;rw [hb1'];rfl
 have hcb:=azb hbl (hv.mono hma) hl ht;refine dI hmx [[],[0],[0,1],[0,1,2],[],[4],[4,5],[],ra 0 8,ra 0 9,ra 0 10,ra 0 11] [9,10,11] V [_,_,_,vi (dH (decide (64 < (l.length:Int))) 9),_,_,vi ((min l.length 64:Nat):Int),.func (.func 183) #[] #[(aH b1 0)],vi (lF (Jf l) (min l.length 64))] H (aB (X0 M fun hG=>Rg Dr M (aG hG hbl)) (Z1 0 3 M (Rl yK M)) (Z1 1 4 M (Rc M)) ?_ (aB (X0 M fun hG=>Rg Dr M (aG hG hbl)) (Z1 4 7 M (Rl yK M)) ?_ ?_ (aB ?_ (bS M) (bS M) (bS M) dz))) ?_
 ·exact Qt
 ·exact Qw
 ·exact Hz
 ·refine eT 6 9 7 10 M M fun _ a w G1 hG HT H fin=>?_;refine s_call KF H wn M (MX _ _ H.ro (min l.length 64) (Jf l) _ O ((hcb.mono hG).le (Nat.min_le_left _ _))) M ?_;exact Nh
 clear H;intro a w G nO H hv;have H:=H.aM (hv 3 6 M M) M;have H:=H.aM (hv 8 11 M M) M;clear hv;refine iV sH jE [_,_] [_,_] H wn M M M M M (by intro i q h;match i,h with|0,h=>exact h|1,h=>exact h|n+2,h=>simp at h) M M ?_;clear H;intro b12 a w IC H;obtain ⟨EM,Eh,IE,H⟩:=H.fU;refine s_call tK H wn M (tN _ _ H.ro _ _ (Aq IE)) M ?_;clear H;rintro v13 _ a w ⟨rfl,rfl⟩ - H;refine kH H (Ra M ?_);clear H;intro a H;refine aD ⟨M,?_⟩;refine K2 _ _ ?_;clear K2;refine lr H results120 M ?_;exact yR
theorem nE:prog.underlying 31=some (.slice 192):=by kernel_rfl
theorem lM:Ty prog 192 6 72 [.int .i64 0,.int .i64 0,.string ⟨#[]⟩,.int .i64 0,.int .i64 0,.slice none 0 0] true:=⟨V,V⟩
theorem Ae:dR prog 192 1 1:=⟨V⟩
theorem KH:dR prog 192 2 2:=⟨V⟩
theorem xX:dR prog 192 0 0:=⟨V⟩
theorem afM:aR 243:=aS func243 M
theorem arQ:aR 221:=aS func221 M
theorem arY:aR 244:=aS func244 M
theorem arZ:aR 245:=aS func245 M
structure cK where
 id:Int
 kind:Int
 name:ByteArray
 base:Int
 next:Int
 props:List aN
def cK.dat (x:cK):List Dat:=[li x.id,li x.kind,.lf (.string x.name),li x.base,li x.next,.sl 2 (x.props.map aN.dat)]
theorem TT {G:GH} {x:cK} {cs:List ah} (h:aX G x.dat cs):∃ A c,cs=[vi x.id,vi x.kind,.string x.name,vi x.base,vi x.next,.slice A x.props.length c]∧av G (.sl 2 (x.props.map aN.dat)) (.slice A x.props.length c):=by
 simp only [cK.dat,aX] at h
 obtain ⟨v1,_,rfl,h1,v2,_,rfl,h2,v3,_,rfl,h3,v4,_,rfl,h4,v5,_,rfl,h5,v6,_,rfl,h6,rfl⟩:=h
 simp only [av] at h1 h2 h3 h4 h5
 obtain ⟨rfl,-⟩:=h1;obtain ⟨rfl,-⟩:=h2;obtain ⟨rfl,-⟩:=h3;obtain ⟨rfl,-⟩:=h4;obtain ⟨rfl,-⟩:=h5;obtain ⟨A,c,rfl,-,-,-⟩:=h6.slice;rw [bK] at *;exact ⟨A,c,M,h6⟩
theorem EC {G:GH} {l:List cK} {A:Option Addr} {n c k:Nat} (hv:av G (.sl 6 (l.map cK.dat)) (.slice A n c)) (hk:k < l.length):∃ b o pA pc,A=some ⟨b,o,none⟩∧(∀ j u,[vi l[k].id,vi l[k].kind,.string l[k].name,vi l[k].base,vi l[k].next,.slice pA l[k].props.length pc][j]?=some u->aI G b (o+k*6+j)=some u)∧av G (.sl 2 (l[k].props.map aN.dat)) (.slice pA l[k].props.length pc) ∧
  aX G l[k].dat [vi l[k].id,vi l[k].kind,.string l[k].name,vi l[k].base,vi l[k].next,.slice pA l[k].props.length pc]:=by
 obtain ⟨A',c',he,_,_,hg⟩:=hv.slice
 injection he with e1 e2 e3
 subst e1;obtain ⟨b,o,cs,h1,h2,h3,h4⟩:=hg k l[k].dat (by simp [hk]);obtain ⟨pA,pc,rfl,hp⟩:=TT h4;exact ⟨b,o,pA,pc,h1,h3,hp,h4⟩
def okB (x:Int):Bool:=decide (32<=x∧x<=126)
def Jl (s:ByteArray) (k:Nat):Bool:=(List.range k).all fun i=>okB (fC s i)
def LY (s:ByteArray):Bool:=decide (s.size≠0∧s.size<=40∧fC s 0≠32∧fC s (s.size - 1)≠32) && Jl s s.size
theorem azA (s:ByteArray) (k:Nat):Jl s (k+1)=(Jl s k && okB (fC s k)):=by simp [Jl,List.range_succ]
theorem azz {s:ByteArray} {k:Nat} (hk:k < s.size) (h:okB (fC s k)=false):Jl s s.size=false:=by
 rw [Jl,List.all_eq_false];exact ⟨k,by simpa using hk,by simp [h]⟩
theorem Hw {p:Prop} (h:p:=by
 first
  | exact H.rt (iP (by rw [LY,qE O,Hq]))
  | exact H.rt (iP (by rw [LY,mY O,show s.size=k by omega,hno];rfl))
  | exact H.rt (iP (by rw [LY,azz (k:=k) O (qE O),Bool.and_false]))):p:=h
theorem Sr (G:GH) (w0:World) (hG:Hold G w0) (s:ByteArray) (hs:s.size<=4611686018427387904):Calls prog 218 #[.string s] w0 (bE w0 G fun u G'=>u=.bool (LY s)):=by
 refine eN [(0,_)] func218 M ntmps218 M M hG ?_;intro a H;refine kP H (SR fun _ K1=>aj K1 M (SQ fun _ K2=>SR fun _ K3=>Rm M (Rv iW M (Rc M (Rm M (Sp 7 M ?_ ?_)))))) <;> clear H K1
 ·intro h7 a H
  try have p7:=dT h7
  refine kH H (bH h7 M (Pt h7 M (Rm M (bH M M (Pt M M (Rm M (bH M M (bH M M (Pt M M (Kz K3 (Ct M M (SR fun _ K4=>aj K4 M ?_))))))))))));clear H K3 K4;intro a H;refine lr H results218 M ?_
  exact Hw
 intro h7 a H
 try have p7:=dF h7
 refine kH H (YM h7 M ?_);clear H;intro a H;refine Gq iW H (wg H M M h7) M M ?_;clear H;intro a H;refine kH H (YC h7 M (Pf h7 M (Rm M (Sp 12 M ?_ ?_)))) <;> clear H
 ·intro h12 a H
  try have rM:=dT h12
  refine kH H (bH h12 M (Pt h12 M (Rm M (bH M M (bH M M (Pt M M (Kz K3 (Ct M M (SR fun _ K5=>aj K5 M ?_)))))))));clear H K3 K5;intro a H;refine lr H results218 M ?_
  exact Hw
 intro h12 a H
 try have rM:=dF h12
 refine kH H (YM h12 M ?_);clear H;intro a H;refine rO 0 iW H (wg H M M h12) M M M O M ?_;clear H;intro a H;rw [<- oF] at H;refine kH H (YC h12 M (Pf h12 M (Rm M (Sp 17 M ?_ ?_)))) <;> clear H
 ·intro fH a H
  try have oI:=dT fH
  refine kH H (bH fH M (bH fH M (Pt fH M (Kz K3 (Ct M M (SR fun _ K6=>aj K6 M ?_))))));clear H K3 K6;intro a H;refine lr H results218 M ?_
  exact Hw
 intro fH a H
 try have oI:=dF fH
 refine kH H (YM fH M (YM fH M ?_));clear H;intro a H;refine Gq iW H (wg H M M fH) M M ?_;clear H;intro a H;refine Dj _ H (wg H M M fH) M M M O O M ?_;clear H;intro a H;refine rO (s.size - 1) iW H (wg H M M fH) M M O O M ?_;clear H;intro a H;rw [<- oF] at H;refine kH H (YC fH M (Pf fH M (Kz K3 (Cd M ?_ ?_)))) <;> clear H K3
 ·intro fV a H
  try have pJ:=dT fV
  refine kP H (SR fun _ K7=>aj K7 M ?_);clear H K7;intro a H;refine lr H results218 M ?_
  exact Hw
 intro fV a H
 try have pJ:=dF fV
 refine kP H (Kc K2 (SQ fun _ K8=>SR fun _ K9=>Rm M (Rv iW M (Rm M (Kz K9 (SB ?_))))));clear H K2 K9;intro a H;skip;refine fD (ι:=Nat) (Tc:=[(0,_),(26,_)]) (Lc:=[]) (fun gh=>[(27,vi gh)]) (fun gh=>[]) (fun gh=>G) (fun gh=>gh<=s.size∧Jl s gh=true) (fun gh=>s.size - gh) (0) (by exact H.sub ⟨M,M,M,aC⟩) ?_ ?_
 ·exact Ka
 clear H;intro k a w hI H;obtain ⟨hk,hno⟩:=hI;dsimp only [lca,bM] at H;refine kP H (SR fun _ aT=>Rc M (Kz aT (SQ fun _ bR=>Cd M ?_ ?_))) <;> clear H aT
 ·intro gG a H
  try have p28:=dT gG
  refine kP H (Kc bR (SQ fun _ cu=>SB (SR fun _ dw=>Rm M (aj dw M (SR fun _ dB=>Rm M (Rm M ?_))))));clear H bR dw;intro a H;refine rO k iW H wn M M M O M ?_;clear H;intro a H;rw [<- oF] at H;refine kH H (Rc M (Rm M (Sp 34 M ?_ ?_))) <;> clear H
  ·intro gN a H
   try have p34:=dT gN
   refine kH H (aU gN M (aU gN M (Pt gN M (Kz dB (Ct M M (SR fun _ dX=>aj dX M ?_))))));clear H dB dX;intro a H;refine lr H results218 M ?_
   exact Hw
  intro gN a H
  try have p34:=dF gN
  refine kH H (YM gN M (YM gN M ?_));clear H;intro a H;refine rO k iW H (wg H M M gN) M M M O M ?_;clear H;intro a H;rw [<- oF] at H;refine kH H (YC gN M (Pf gN M (Kz dB (Cd M ?_ ?_)))) <;> clear H dB
  ·intro jU a H
   try have p39:=dT jU
   refine kP H (SR fun _ eu=>aj eu M ?_);clear H eu;intro a H;refine lr H results218 M ?_
   exact Hw
  intro jU a H
  try have p39:=dF jU
  refine kP H (Kc cu (SC (Rd M (Rm M ?_))));clear H cu;intro a H;refine aD ?_;refine dQ ((k+1)) (by exact H.sub ⟨M,M,M,aC⟩) ?_
  exact ⟨O,by rw [azA,hno];simp [okB];omega⟩
 intro gG a H
 try have p28:=dF gG
 refine dY ?_;refine K8 _ _ ?_;clear K8;refine kP H (SR fun _ dN=>aj dN M ?_);clear H dN;intro a H;refine lr H results218 M ?_
 exact Hw
theorem aiU (G:GH) (w0:World) (hG:Hold G w0) (l:List cK) (p:cK->Bool) (v fv:ah) (hv:av G (.sl 6 (l.map cK.dat)) v) (hf:∀ x∈l,qW fv G x.dat (p x)) :
  Calls prog 243 #[v,fv] w0 (bE w0 G fun u G'=>u=vi (pz (l.findIdx? p))):=by
 obtain ⟨A,c,rfl,hc1,hc2,-⟩:=hv.slice;have hml:maxLen=9223372036854775807:=rfl;rw [bK] at *;refine eN [(0,_),(1,_)] func243 M ntmps243 M M hG ?_;intro a H;refine kP H (SR fun _ K1=>aj K1 M (SQ fun _ K2=>SR fun _ K3=>Rm M (Rl nE M (Rm M (Kz K3 (SB ?_))))));clear H K1 K3;intro a H;skip;refine fD (ι:=Nat × GH) (Tc:=[(0,_),(1,_),(7,_)]) (Lc:=[]) (fun gh=>[(8,vi gh.1)]) (fun gh=>[]) (fun gh=>gh.2) (fun gh=>gh.1<=l.length∧(l.take gh.1).findIdx? p=none∧(∀ b o,G b=some o->gh.2 b=some o)) (fun gh=>l.length - gh.1) ((0,G)) (by exact H.sub ⟨M,M,M,M,aC⟩) ?_ ?_
 ·exact zV
 clear H;rintro ⟨k,g⟩ a w hI H;dsimp only at hI H;obtain ⟨hk,hno,hgm⟩:=hI;dsimp only [lca,bM] at H;refine kP H (SR fun _ K4=>Rc M (Kz K4 (SQ fun _ K5=>Cd M ?_ ?_))) <;> clear H K4
 ·intro h9 a H
  try have p9:=dT h9
  have hk2:k < l.length:=by omega
  obtain ⟨b,o,pA,pc,rfl,hrow,hp,hrep⟩:=EC (hv.mono hgm) hk2;refine kP H (Kc K5 (SQ fun _ K6=>SB (SR fun _ K7=>Rm M (aj K7 M (SR fun _ K8=>Rm M (Rm M (Rm M (Ri nE lM M M ?_))))))));clear H K5 K7;intro a H;refine bQ lM (cs:=[_,_,_,_,_,_]) H wn M M (fun j v hj=>H.hp.aI (hrow j v hj)) M ?_;clear H;intro a H;refine lI H wn M M (hf _ (jS hk2) _ _ _ hgm H.ro hrep) M ?_;clear H;rintro v16 vQ a w rfl uH H;refine K8 _ _ ?_;clear K8;refine jL H M ?_ ?_
  ·intro h16
   try have p16:=dT h16
   refine kP H (SR fun _ K9=>Rm M (aj K9 M ?_));clear H K9;intro a H;refine lr H results243 M ?_
   exact xS
  exact H9
 intro h9 a H
 try have p9:=dF h9
 refine dY ?_;refine K2 _ _ ?_;clear K2;refine kP H (SR fun _ aT=>aj aT M ?_);clear H aT;intro a H;refine lr H results243 M ?_
 exact xS
def OT (p q:ByteArray):Bool:=p.toList == q.toList
theorem atM {G:GH} {bk bn:Nat} {kind:Int} {name:ByteArray} (hk:aI G bk 0=some (vi kind)) (hn:aI G bn 0=some (.string name)) (x:cK):qW (.func (.func 244) #[] #[(aH bk 0),(aH bn 0)]) G x.dat (decide (x.kind=kind) && OT x.name name):=by
 intro G1 w0 cs hm hG hr;refine kD (caps:=[(aH bk 0),(aH bn 0)]) arY ?_;obtain ⟨pA,pc,rfl,-⟩:=TT hr;replace hk:=aG hm hk;replace hn:=aG hm hn;refine eN [(0,_),(1,_),(2,_)] func244 M ntmps244 M M hG ?_;intro a H;refine cZ (fun _ K1=>?_);refine dZ (cs:=[_,_,_,_,_,_]) H wn M M M ?_;clear H;intro b3 a w hb3 H;refine kH H (aj K1 M (SR fun _ K2=>bC Ae aF 0 M M (Rg aF M (by assumption) ?_)));clear H K1;intro a H;refine kH H (Rc M (Rm M (Sp 9 M ?_ ?_))) <;> clear H
 ·intro h9 a H
  try have p9:=dT h9
  refine kH H (YF KH h9 M (YO jf 0 h9 M (YR jf h9 M (by assumption) ?_)));clear H;intro a H;refine Gp H (wg H M M h9) M M M ?_;clear H;intro a H;exact kH H (Pt h9 M (aj K2 M (LR results244 M fun H=>H.rt (by unfold OT;simp_all))))
 intro h9 a H
 try have p9:=dF h9
 exact kH H (aU h9 M (aU h9 M (Pf h9 M (aj K2 M (LR results244 M fun H=>H.rt (by unfold OT;simp_all))))))
theorem atL {G:GH} {bi:Nat} {id:Int} (hb:aI G bi 0=some (vi id)) (x:cK):qW (.func (.func 245) #[] #[(aH bi 0)]) G x.dat (decide (x.id=id)):=by
 intro G1 w0 cs hm hG hr;refine kD (caps:=[(aH bi 0)]) arZ ?_;obtain ⟨pA,pc,rfl,-⟩:=TT hr;replace hb:=aG hm hb;refine eN [(0,_),(1,_)] func245 M ntmps245 M M hG ?_;intro a H;refine cZ (fun _ K1=>?_);refine dZ (cs:=[_,_,_,_,_,_]) H wn M M M ?_;clear H;intro b2 a w hb2 H;refine kH H (aj K1 M (SR fun _ K2=>bC xX aF 0 M M (Rg aF M (by assumption) ?_)));clear H K1;intro a H;exact kH H (Rc M (aj K2 M (LR results245 M fun H=>H.rt M)))
def Fu (l:List cK) (kind:Int) (name:ByteArray):Option Nat:=l.findIdx? fun x=>decide (x.kind=kind) && OT x.name name
def Rq (l:List cK) (id:Int):Option Nat:=l.findIdx? fun x=>decide (x.id=id)
theorem aiZ (o:Option Nat):decide (0<=pz o)=o.isSome:=by cases o <;> simp [pz]
theorem atN (G:GH) (w0:World) (hG:Hold G w0) (l:List cK) (kind:Int) (name:ByteArray) (v:ah) (hv:av G (.sl 6 (l.map cK.dat)) v) :
  Calls prog 219 #[v,vi kind,.string name] w0 (bE w0 G fun u G'=>u=.tuple #[vi (max (pz (Fu l kind name)) 0),.bool (Fu l kind name).isSome]):=by
 obtain ⟨A,c,rfl,hc1,hc2,-⟩:=hv.slice;rw [bK] at *;refine eN [(0,_),(1,_),(2,_)] func219 M ntmps219 M M hG ?_;intro a H;refine cZ (fun _ K1=>?_);refine dZ (cs:=[_]) H wn M M M ?_;clear H;intro b4 a w hb4 H;refine dZ (cs:=[_]) H wn M M M ?_;clear H;intro b5 a w hb5 H;refine kH H (Ra M (aj K1 M (SQ fun _ K2=>?_)));clear H K1;intro a H;obtain ⟨Ga,hma,Cz,H⟩:=H.fU;obtain ⟨Gb,hmb,Bq,H⟩:=H.fU
 have q4:aI Gb b4 0=some (vi kind):=by unfold aI;rw [Bq];rfl
 have q5:aI Gb b5 0=some (.string name):=by unfold aI;rw [hmb _ _ Cz];rfl
 refine kP H (SC (Rm M ?_));clear H;intro a H;refine vG H wn M M ?_;clear H;intro a H;refine s_call afM H wn M (aiU _ _ H.ro l (fun x=>decide (x.kind=kind) && OT x.name name) _ _ ((hv.mono hma).mono hmb) (fun x _=>atM q4 q5 x)) M ?_;clear H;rintro v11 yM a w rfl CJ H;refine kH H (bF K2 M (SR fun _ K3=>Rm M ?_));clear H K2;intro a H;refine TN H wn M M M ?_;clear H;intro a H;refine kH H (Rm M (Rc M (Ra M (aj K3 M ?_))));clear H K3;intro a H;refine eP ?_;refine (kG H results219 (.cons (fB H M) (.cons (fB H M) .nil)) ?_).1;exact H.rt (by rw [<- aiZ];rfl)
theorem atP (G:GH) (w0:World) (hG:Hold G w0) (l:List cK) (id:Int) (v:ah) (hv:av G (.sl 6 (l.map cK.dat)) v) :
  Calls prog 221 #[v,vi id] w0 (bE w0 G fun u G'=>u=.tuple #[vi (max (pz (Rq l id)) 0),.bool (Rq l id).isSome]):=by
 obtain ⟨A,c,rfl,hc1,hc2,-⟩:=hv.slice;rw [bK] at *;refine eN [(0,_),(1,_)] func221 M ntmps221 M M hG ?_;intro a H;refine cZ (fun _ K1=>?_);refine dZ (cs:=[_]) H wn M M M ?_;clear H;intro b3 a w hb3 H;refine kH H (Ra M (aj K1 M (SQ fun _ K2=>?_)));clear H K1;intro a H;obtain ⟨Ga,hma,zu,H⟩:=H.fU
 have q3:aI Ga b3 0=some (vi id):=by unfold aI;rw [zu];rfl
 refine kP H (SC (Rm M ?_));clear H;intro a H;refine vG H wn M M ?_;clear H;intro a H;refine s_call afM H wn M (aiU _ _ H.ro l (fun x=>decide (x.id=id)) _ _ (hv.mono hma) (fun x _=>atL q3 x)) M ?_;clear H;rintro v9 G9 a w rfl yj H;refine kH H (bF K2 M (SR fun _ K3=>Rm M ?_));clear H K2;intro a H;refine TN H wn M M M ?_;clear H;intro a H;refine kH H (Rm M (Rc M (Ra M (aj K3 M ?_))));clear H K3;intro a H;refine eP ?_;refine (kG H results221 (.cons (fB H M) (.cons (fB H M) .nil)) ?_).1;exact H.rt (by rw [<- aiZ];rfl)
def OH (l:List cK) (kind id:Int):Bool:=match Rq l id with|some i=>decide ((l[i]?.map cK.kind)=some kind)|none=>false
theorem ach {p:Prop} (h:p:=by
 first
  | exact H.rt (iP (by rw [OH,<- ho];dsimp only;rw [eB hil];simp))
  | exact H.rt (iP (by rw [OH,<- ho];cases o <;> simp_all))):p:=h
theorem Ze (G:GH) (w0:World) (hG:Hold G w0) (l:List cK) (kind id:Int) (v:ah) (hv:av G (.sl 6 (l.map cK.dat)) v) :
  Calls prog 181 #[v,vi kind,vi id] w0 (bE w0 G fun u G'=>u=.bool (OH l kind id)):=by
 obtain ⟨A,c,rfl,hc1,hc2,-⟩:=hv.slice;rw [bK] at *;refine eN [(0,_),(1,_),(2,_)] func181 M ntmps181 M M hG ?_;intro a H;refine kP H (SR fun _ K1=>aj K1 M (SR fun _ K2=>Rm M (Rm M ?_)));clear H K1;intro a H;refine s_call arQ H wn M (atP _ _ H.ro l id _ hv) M ?_;clear H;rintro v12 EM a w rfl Eh H;obtain ⟨o,ho⟩:∃ o,o=Rq l id:=⟨_,M⟩;rw [<- ho] at H;refine kH H (Rm M ?_);clear H;intro a H;(iterate 2 refine lJ H wn M M M ?_;clear H;intro a H);refine kH H (Ra M (aj K2 M (SR fun _ K3=>Rm M (Rm M (Sp 16 M ?_ ?_))))) <;> clear H K2
 ·intro h16 a H
  try have p16:=dT h16
  obtain ⟨i,rfl⟩:=Option.isSome_iff_exists.1 h16
  have hil:i < l.length:=by
   obtain ⟨hi,-⟩:=List.findIdx?_eq_some_iff_getElem.1 ho.symm;exact hi
  rw [show max (pz (some i)) 0=(i:Int) by simp [pz]] at H;obtain ⟨b,o',pA,pc,rfl,hrow,hp,hrep⟩:=EC (hv.mono Eh) hil;have r1:aI EM b (o'+i*6+1)=some (vi l[i].kind):=hrow 1 _ M;refine kH H (YM h16 M (YM h16 M (YI nE lM h16 M M (YF Ae h16 M (YR aF h16 M (by assumption) ?_)))));clear H;intro a H;refine kH H (YM h16 M (YC h16 M (Pt h16 M (aj K3 M ?_))));clear H K3;intro a H;refine lr H results181 M ?_
  exact ach
 intro h16 a H
 try have p16:=dF h16
 refine kH H (bH h16 M (aU h16 M (aU h16 M (Pf h16 M (aj K3 M ?_)))));clear H K3;intro a H;refine lr H results181 M ?_
 exact ach
section
section
variable {N:Nat} {D:List Deferred} {w0:World} {F:Nat->Prop} {G0 G:GH} {L Li Lo:OL} {T:List (Nat × ah)}
variable {r:Option Nat} {P:Program} {ops:Array Oper} {Q:Exit->Act->World->Prop} {rest:List Oper} {a:Act} {w:World}
variable {d:Nat} {ty:TypeId} {pos:String} {aL:Array Edge} {g:Option (Nat × Bool)}
theorem aBS {x:Operand} {t e:TypeId} {A:Option Addr} {n c:Nat} (hs:P.underlying t=some (.slice e)) (H:St N D w0 F G0 G L T a w) (hw:Region.wanted ⟨some d,.call { callee:=.builtin .cap,args:=#[x],argTypes:=#[t] },ty,pos,aL,g⟩ (yielded ops a.tmps)=true) (hx:ev T x=some (.slice A n c)) (hd:Nat.blt d N=true)
  (k:∀ a',St N D w0 F G0 G L ((d,.int .i64 c) :: T) a' w->WL r P ops Q rest a' w):WL r P ops Q (⟨some d,.call { callee:=.builtin .cap,args:=#[x],argTypes:=#[t] },ty,pos,aL,g⟩ :: rest) a w :=
 fI (v:=.int .i64 c) (w':=w) hw M (by simp [execOp,resolve,invoke,builtin,Builtin.cap_,H.ev hx,dP,nu hs,goInt]) (k _ (H.put hd _ H.hp))
theorem Jz {t e:TypeId} {sz bytes:Nat} {zero:List ah} {agg:Bool} (hs:P.underlying t=some (.slice e)) (ht:Ty P e sz bytes zero agg) {x z:Operand} {A:Option Addr} {n c:Nat} (hi:Nat) {q:Int} (H:St N D w0 F G0 G L T a w)
  (hw:Region.wanted ⟨some d,.slice t x none (some z) none,ty,pos,aL,g⟩ (yielded ops a.tmps)=true) (hx:ev T x=some (.slice A n c)) (hz:ev T z=some (.int .i64 q)) (hq:q=(hi:Int)) (h2:hi<=c) (hd:Nat.blt d N=true)
  (k:∀ a',St N D w0 F G0 G L ((d,.slice A hi c) :: T) a' w->WL r P ops Q rest a' w):WL r P ops Q (⟨some d,.slice t x none (some z) none,ty,pos,aL,g⟩ :: rest) a w:=by
 subst hq
 refine fI (v:=.slice A hi c) (w':=w) hw M ?_ (k _ (H.put hd _ H.hp))
 simp [execOp,H.ev hx,H.ev hz,Instr.sliceAt,Instr.slice,Instr.sliceBounds,Instr.sliceBound,dP,nu hs,ht.Am,asIntOf,h2]
 intro _
 cases A with
 | none=>rfl
 | some p=>simp [Addr.add]
end
end
theorem Q0:aR 218:=aS func218 M
theorem arN:aR 219:=aS func219 M
theorem Rj:dR prog 192 5 5:=⟨V⟩
theorem arP:aR 220:=aS func220 M
theorem afw:aR 129:=aS func129 M
theorem av.pre {G:GH} {sz:Nat} {rows:List (List Dat)} {A:Option Addr} {n c:Nat} (h:av G (.sl sz rows) (.slice A n c)) (k:Nat) (hk:k<=rows.length):av G (.sl sz (rows.take k)) (.slice A k c):=by
 have h:=h.part 0 k (kY _) hk
 have e:(if c=0 then A else A.map (·.add (0*sz)))=A:=by
  split
  ·rfl
  cases A <;> simp [Addr.add]
 rw [e] at h
 simpa using h
theorem aqm (G:GH) (w0:World) (hG:Hold G w0) (kind:Int):Calls prog 220 #[vi kind] w0 (bE w0 G fun u G'=>u=vi (if kind=1 then 2 else 1)):=by
 refine eN [(0,_)] func220 M ntmps220 M M hG ?_;intro a H;refine kP H (SR fun _ K1=>aj K1 M (SQ fun _ K2=>SR fun _ K3=>Rm M (Rc M (Kz K3 (Cd M ?_ ?_))))) <;> clear H K1 K3
 ·intro h4 a H
  try have p4:=dT h4
  exact kP H (SR fun _ K4=>aj K4 M (LR results220 M fun H=>H.rt (by first|(rw [jl];done)|rw [bU])))
 intro h4 a H
 try have p4:=dF h4
 exact kP H (Kc K2 (SR fun _ K5=>aj K5 M (LR results220 M fun H=>H.rt (by first|(rw [jl];done)|rw [bU]))))
def Ak (l:List cK) (k:Nat):Option Int:=if k=0 then none else l[k - 1]?.map cK.id
theorem Tf {l:List cK} {k:Nat} (h:k=0):Ak l k=none:=ay h
def M0 (k:Int):Bool:=decide (k=20) || decide (k=1)
def yD (q:Option Int) (dup:Bool) (s:cK):Int :=
 if s.id < 1∨1073741824 < s.id then 18 else if q=some s.id then 7 else if F5 q s.id=true then 6 else if s.kind≠1∧s.kind≠2 then 3 else if LY s.name=false then 13 else if dup=true then 7
 else if s.props.any (fun p=>M0 p.key)=true then 4 else rW (if s.kind=1 then 2 else 1) s.props
def ow (l:List cK) (k:Nat) (s:cK):Int:=yD (Ak l k) (Fu (l.take k) s.kind s.name).isSome s
theorem aci {p:Prop} (h:p:=by
 first
  | exact H.rt (cO vi e0.symm)
  | exact H.rt (cO vi e4.symm)
  | exact H.rt (cO vi e7.symm)
  | exact H.rt (cO vi e13.symm)
  | exact H.rt (cO vi e3.symm)
  | exact H.rt (cO vi e6.symm)
  | exact H.rt (cO vi (by rw [ow,yD,jl]))):p:=h
theorem Vg {p:Prop} (h:p:=by
 exact ⟨O,q1',q2',O,by simpa using mP,fun b o h=>hm63 b o (mW b o (FB b o h))⟩):p:=h
theorem anM {p:Prop} (h:p:=by
 exact ⟨x.props[n],jS hn2,by simp [M0];omega⟩):p:=h
theorem yT {p:Prop} (h:p:=by
 intro a H;refine lr H results180 M ?_
 exact aci):p:=h
theorem aem {p:Prop} (h:p:=by
 intro mP a H
 try have p60:=dF mP
 refine iD ?_;refine ⟨JQ,by exact H.sub ⟨M,M,M,aC⟩,?_⟩;exact Vg):p:=h
theorem acL {p:Prop} (h:p:=by
 rw [ow,yD,bU,au q1',au q2',au q3,au q4,au q5,ay];rw [List.any_eq_true];exact anM):p:=h
theorem adr {p:Prop} (h:p:=by
 refine iO 8 65 M M fun _ a w G1 hG HT H fin=>?_;refine lJ H wn M M M ?_;exact jH):p:=h
set_option maxHeartbeats 1000000 in
theorem aAg (G:GH) (w0:World) (hG:Hold G w0) (l:List cK) (k:Nat) (v:ah) (hv:av G (.sl 6 (l.map cK.dat)) v) (hk:k < l.length) (hs:l[k].name.size<=4611686018427387904) :
  Calls prog 180 #[v,vi k] w0 (bE w0 G fun u G'=>u=vi (ow l k l[k])):=by
 obtain ⟨A,c,rfl,hc1,hc2,-⟩:=hv.slice;have hml:maxLen=9223372036854775807:=rfl;rw [bK] at *;obtain ⟨b,o,pA,pc,rfl,hrow,hp,hrep⟩:=EC hv hk;obtain ⟨x,hx⟩:∃ x,x=l[k]:=⟨_,M⟩;rw [<- hx] at hs hrow hp hrep |-;have hdp:∀ j v,[vi x.id,vi x.kind,.string x.name,vi x.base,vi x.next,.slice pA x.props.length pc][j]?=some v->aI G b (o+k*6+j)=some v:=hrow;obtain ⟨_,_,he0,aFp,aFq,-⟩:=hp.slice
 injection he0 with _ he1 he2
 rw [bK] at *;subst he2
 obtain ⟨pk,hpk⟩:∃ pk,0 < k->aI G b (o+(k - 1)*6+0)=some (vi pk)∧Ak l k=some pk:=by
  by_cases h0:0 < k
  ·obtain ⟨b',o',_,_,he,hr',-,-⟩:=EC hv (show k - 1 < l.length by omega)
   injection he with he
   injection he with e1 e2 e3
   subst e1;subst e2;exact ⟨_,fun _=>⟨hr' 0 _ M,by rw [Ak,bU,eB O];rfl⟩⟩
  exact ⟨0,fun h=>absurd h h0⟩
 refine eN [(0,_),(1,_)] func180 M ntmps180 M M hG ?_;intro a H;refine kP H (SR fun _ K1=>aj K1 M (SR fun _ K2=>Rm M (Rm M (Ri nE lM M M ?_))));clear H K1;intro a H;refine bQ lM (cs:=[_,_,_,_,_,_]) H wn M M (fun j v hj=>H.hp.aI (hrow j v hj)) M ?_;clear H;intro a H;refine dW lM H wn M ?_;clear H;intro b5 a w hb5 H;refine bJ lM 0 (vs:=[_,_,_,_,_,_]) H wn M ?_;clear H;intro w H;refine K2 _ _ ?_;clear K2;refine uo (ι:=GH) (Tc:=[(0,_),(1,_),(5,_)]) (Lc:=[(_,_)]) (fun gh=>[]) (fun gh=>[]) (fun gh=>gh) (fun gh=>¬ (x.id < 1∨1073741824 < x.id)∧¬ Ak l k=some x.id∧¬ F5 (Ak l k) x.id=true∧¬ (x.kind≠1∧x.kind≠2)∧¬ LY x.name=false∧(∀ b o,G b=some o->gh b=some o)) (by exact H.sub ⟨M,M,M,aC⟩) ?_ ?_
 ·skip;refine kP H (SB (SR fun _ K3=>bC xX aF 0 M M (Rc M (Rm M (Sp 18 M ?_ ?_))))) <;> clear H
  ·intro h18 a H
   try have BH:=dT h18
   refine kH H (bH h18 M (Pt h18 M (aj K3 M (Ct M M (SR fun _ K4=>aj K4 M ?_)))));clear H K3 K4;exact yT
  intro h18 a H
  try have BH:=dF h18
  refine kH H (YF xX h18 M (YO aF 0 h18 M (YC h18 M (Pf h18 M (aj K3 M (Cd M ?_ ?_)))))) <;> clear H K3
  ·intro iq a H
   try have qL:=dT iq
   refine kP H (SR fun _ K5=>aj K5 M ?_);clear H K5;exact yT
  intro iq a H
  try have qL:=dF iq
  refine bL (fun _ K6=>?_)
  by_cases c0:0 < (k:Int)
  ·skip
   by_cases c1:x.id=pk
   ·skip;refine dI hmx [[],[0],[0,1],[0,1,2],ra 0 4,[0,1,2],[0,1,2],[0,1,2,6],[0,1,2,5,6,7],[0,1,2,5,6,7,8],[0,1,2,5,6,7,8,9],ra 0 11,ra 0 12,ra 0 13] [13] V [_,_,_,_,vi x.id,_,_,vi ((k - 1:Nat):Int),_,_,_,_,_] H (aB (Z0 M (Rm M)) (Z1 0 24 M (Rc M)) (Z1 1 25 M (Rm M)) (Z1 2 26 M (YF xX (aJ c0) M)) (aB (Z2 3 27 2 26 M (YO aF 0 (aJ c0) M)) (Z1 2 26 M (YM (aJ c0) M)) (Z1 2 26 M (YM (aJ c0) M)) ?_ (aB (Z3 5 29 7 31 2 26 M (YI nE lM (aJ c0) M M)) (Z2 8 32 2 26 M (YF xX (aJ c0) M)) (X2 9 33 2 26 M fun hG=>YR aF (aJ c0) M (aG hG (hpk O).1)) (Z3 4 28 10 34 2 26 M (YC (aJ c0) M)) (bN (Z2 2 26 11 35 M (Pt (aJ c0) M)) (bN (bS M) dz))))) ?_
    ·refine eT 6 30 2 26 M M fun _ a w G1 hG HT H fin=>?_;exact zX
    clear H;intro a w G FB H hv;have H:=H.aM (hv 12 36 M M) M;clear hv;refine kH H (Ra M ?_);clear H;intro a H;refine aD ⟨M,?_⟩;refine K6 _ _ ?_;clear K6;refine Cq H M (aJ c1) ?_;refine bL (fun _ K7=>?_)
    have e7:ow l k x=7:=by rw [ow,yD,bU,ay (by rw [(hpk O).2,c1])]
    refine kP H (SC (bF K7 M ?_));clear H K7;exact yT
   skip;refine dI hmx [[],[0],[0,1],[0,1,2],ra 0 4,[0,1,2],[0,1,2],[0,1,2,6],[0,1,2,5,6,7],[0,1,2,5,6,7,8],[0,1,2,5,6,7,8,9],ra 0 11,ra 0 12,ra 0 13] [13] V [_,_,_,_,vi x.id,_,_,vi ((k - 1:Nat):Int),_,_,_,_,_] H (aB (Z0 M (Rm M)) (Z1 0 24 M (Rc M)) (Z1 1 25 M (Rm M)) (Z1 2 26 M (YF xX (aJ c0) M)) (aB (Z2 3 27 2 26 M (YO aF 0 (aJ c0) M)) (Z1 2 26 M (YM (aJ c0) M)) (Z1 2 26 M (YM (aJ c0) M)) ?_ (aB (Z3 5 29 7 31 2 26 M (YI nE lM (aJ c0) M M)) (Z2 8 32 2 26 M (YF xX (aJ c0) M)) (X2 9 33 2 26 M fun hG=>YR aF (aJ c0) M (aG hG (hpk O).1)) (Z3 4 28 10 34 2 26 M (YC (aJ c0) M)) (bN (Z2 2 26 11 35 M (Pt (aJ c0) M)) (bN (bS M) dz))))) ?_
   ·refine eT 6 30 2 26 M M fun _ a w G1 hG HT H fin=>?_;exact zX
   clear H;intro a w G FB H hv;have H:=H.aM (hv 12 36 M M) M;clear hv;refine kH H (Ra M ?_);clear H;intro a H;refine aD ⟨M,?_⟩;refine K6 _ _ ?_;clear K6;refine sM H M (aY c1) ?_;refine bL (fun _ K8=>?_)
   have q1:¬ (0 < (k:Int)∧x.id=pk):=by first|exact fun h=>c1 h.2|exact fun h=>c0 h.1
   have q1':¬ Ak l k=some x.id:=fun h=>q1 (by
    by_cases h0:0 < k
    ·exact QC
    rw [Tf O] at h
    cases h)
   by_cases c3:x.id < pk
   ·skip;refine dI hmx [[],[0],[0,1],[0,1,2],ra 0 4,[0,1,2],[0,1,2],[0,1,2,6],[0,1,2,5,6,7],[0,1,2,5,6,7,8],[0,1,2,5,6,7,8,9],ra 0 11,ra 0 12,ra 0 13] [13] V [_,_,_,_,vi x.id,_,_,vi ((k - 1:Nat):Int),_,_,_,_,_] H (aB (Z0 M (Rm M)) (Z1 0 38 M (Rc M)) (Z1 1 39 M (Rm M)) (Z1 2 40 M (YF xX (aJ c0) M)) (aB (Z2 3 41 2 40 M (YO aF 0 (aJ c0) M)) (Z1 2 40 M (YM (aJ c0) M)) (Z1 2 40 M (YM (aJ c0) M)) ?_ (aB (Z3 5 43 7 45 2 40 M (YI nE lM (aJ c0) M M)) (Z2 8 46 2 40 M (YF xX (aJ c0) M)) (X2 9 47 2 40 M fun hG=>YR aF (aJ c0) M (aG hG (aG FB (hpk O).1))) (Z3 4 42 10 48 2 40 M (YC (aJ c0) M)) (bN (Z2 2 40 11 49 M (Pt (aJ c0) M)) (bN (bS M) dz))))) ?_
    ·refine eT 6 44 2 40 M M fun _ a w G1 hG HT H fin=>?_;exact zX
    clear H;intro a w G mW H hv;have H:=H.aM (hv 12 50 M M) M;clear hv;refine kH H (Ra M ?_);clear H;intro a H;refine aD ⟨M,?_⟩;refine K8 _ _ ?_;clear K8;refine Cq H M (aJ c3) ?_;refine bL (fun _ K9=>?_)
    have e6:ow l k x=6:=by rw [ow,yD,bU,au q1',ay (by rw [(hpk O).2];exact aJ c3)]
    refine kP H (SC (bF K9 M ?_));clear H K9;exact yT
   skip;refine dI hmx [[],[0],[0,1],[0,1,2],ra 0 4,[0,1,2],[0,1,2],[0,1,2,6],[0,1,2,5,6,7],[0,1,2,5,6,7,8],[0,1,2,5,6,7,8,9],ra 0 11,ra 0 12,ra 0 13] [13] V [_,_,_,_,vi x.id,_,_,vi ((k - 1:Nat):Int),_,_,_,_,_] H (aB (Z0 M (Rm M)) (Z1 0 38 M (Rc M)) (Z1 1 39 M (Rm M)) (Z1 2 40 M (YF xX (aJ c0) M)) (aB (Z2 3 41 2 40 M (YO aF 0 (aJ c0) M)) (Z1 2 40 M (YM (aJ c0) M)) (Z1 2 40 M (YM (aJ c0) M)) ?_ (aB (Z3 5 43 7 45 2 40 M (YI nE lM (aJ c0) M M)) (Z2 8 46 2 40 M (YF xX (aJ c0) M)) (X2 9 47 2 40 M fun hG=>YR aF (aJ c0) M (aG hG (aG FB (hpk O).1))) (Z3 4 42 10 48 2 40 M (YC (aJ c0) M)) (bN (Z2 2 40 11 49 M (Pt (aJ c0) M)) (bN (bS M) dz))))) ?_
   ·refine eT 6 44 2 40 M M fun _ a w G1 hG HT H fin=>?_;exact zX
   clear H;intro a w G mW H hv;have H:=H.aM (hv 12 50 M M) M;clear hv;refine kH H (Ra M ?_);clear H;intro a H;refine aD ⟨M,?_⟩;refine K8 _ _ ?_;clear K8;refine sM H M (aY c3) ?_;refine bL (fun _ aT=>?_)
   have q2:¬ (0 < (k:Int)∧x.id < pk):=by first|exact fun h=>c3 h.2|exact fun h=>c0 h.1
   have q2':¬ F5 (Ak l k) x.id=true:=fun h=>q2 (by
    by_cases h0:0 < k
    ·exact Qo
    rw [Tf O] at h
    cases h)
   refine kP H (SC (bC Ae aF 0 M M (Rc M (Rm M (Sp 55 M ?_ ?_))))) <;> clear H
   ·intro oG a H
    try have p55:=dT oG
    refine kH H (YF Ae oG M (YO aF 0 oG M (YC oG M (Pt oG M (bF aT M (Cd M ?_ ?_)))))) <;> clear H aT
    ·intro mG a H
     try have p51:=dT mG
     refine bL (fun _ bR=>?_)
     have e3:ow l k x=3:=by rw [ow,yD,bU,au q1',au q2',jl]
     refine kP H (SC (bF bR M ?_));clear H bR;exact yT
    intro mG a H
    try have p51:=dF mG
    refine kP H (SR fun _ cu=>bC KH jf 0 M M ?_);clear H;intro a H;refine s_call Q0 H wn M (Sr _ _ H.ro x.name hs) M ?_;clear H;rintro v63 JQ a w rfl hm63 H;refine kH H (Rn M (aj cu M (Cd M ?_ ?_))) <;> clear H cu
    ·intro mP a H
     try have p60:=dT mP
     refine bL (fun _ dw=>?_)
     have e13:ow l k x=13:=by rw [ow,yD,bU,au q1',au q2',bU,ay (by simpa using mP)]
     refine kP H (SC (bF dw M ?_));clear H dw;exact yT
    exact aem
   intro oG a H
   try have p55:=dF oG
   refine kH H (bH oG M (Pf oG M (bF aT M (Cf M M (SR fun _ dB=>bC KH jf 0 M M ?_)))));clear H aT;intro a H;refine s_call Q0 H wn M (Sr _ _ H.ro x.name hs) M ?_;clear H;rintro v63 JQ a w rfl hm63 H;refine kH H (Rn M (aj dB M (Cd M ?_ ?_))) <;> clear H dB
   ·intro mP a H
    try have p60:=dT mP
    refine bL (fun _ dX=>?_)
    have e13:ow l k x=13:=by rw [ow,yD,bU,au q1',au q2',bU,ay (by simpa using mP)]
    refine kP H (SC (bF dX M ?_));clear H dX;exact yT
   intro mP a H
   try have p60:=dF mP
   refine iD ?_;refine ⟨JQ,by exact H.sub ⟨M,M,M,aC⟩,?_⟩;exact Vg
  skip;refine dI hmx [[],[0],[0,1],[0,1,2],ra 0 4,[0,1,2],[0,1,2],[0,1,2,6],[0,1,2,5,6,7],[0,1,2,5,6,7,8],[0,1,2,5,6,7,8,9],ra 0 11,ra 0 12,ra 0 13] [13] V [_,_,_,undef,undef,undef,undef,undef,undef,undef,undef,undef,_] H (aB (Z0 M (Rm M)) (Z1 0 24 M (Rc M)) (Z1 1 25 M (Rm M)) (aZ 2 (aY c0) M M) (aB (aZ 2 (aY c0) M M) (aZ 2 (aY c0) M M) (aZ 2 (aY c0) M M) (aZ 2 (aY c0) M M) (aB (aZ 2 (aY c0) M M) (aZ 2 (aY c0) M M) (aZ 2 (aY c0) M M) (aZ 2 (aY c0) M M) (bN (Z2 2 26 11 35 M (Pf (aY c0) M)) (bN (bS M) dz))))) ?_
  clear H;intro a w G FB H hv;have H:=H.aM (hv 12 36 M M) M;clear hv;refine kH H (Ra M ?_);clear H;intro a H;refine aD ⟨M,?_⟩;refine K6 _ _ ?_;clear K6;refine sM H M M ?_;refine bL (fun _ eu=>?_)
  have q1:¬ (0 < (k:Int)∧x.id=pk):=by first|exact fun h=>c1 h.2|exact fun h=>c0 h.1
  have q1':¬ Ak l k=some x.id:=fun h=>q1 (by
   by_cases h0:0 < k
   ·exact QC
   rw [Tf O] at h
   cases h)
  refine dI hmx [[],[0],[0,1],[0,1,2],ra 0 4,[0,1,2],[0,1,2],[0,1,2,6],[0,1,2,5,6,7],[0,1,2,5,6,7,8],[0,1,2,5,6,7,8,9],ra 0 11,ra 0 12,ra 0 13] [13] V [_,_,_,undef,undef,undef,undef,undef,undef,undef,undef,undef,_] H (aB (Z0 M (Rm M)) (Z1 0 38 M (Rc M)) (Z1 1 39 M (Rm M)) (aZ 2 (aY c0) M M) (aB (aZ 2 (aY c0) M M) (aZ 2 (aY c0) M M) (aZ 2 (aY c0) M M) (aZ 2 (aY c0) M M) (aB (aZ 2 (aY c0) M M) (aZ 2 (aY c0) M M) (aZ 2 (aY c0) M M) (aZ 2 (aY c0) M M) (bN (Z2 2 40 11 49 M (Pf (aY c0) M)) (bN (bS M) dz))))) ?_
  clear H;intro a w G mW H hv;have H:=H.aM (hv 12 50 M M) M;clear hv;refine kH H (Ra M ?_);clear H;intro a H;refine aD ⟨M,?_⟩;refine eu _ _ ?_;clear eu;refine sM H M M ?_;refine bL (fun _ dN=>?_)
  have q2:¬ (0 < (k:Int)∧x.id < pk):=by first|exact fun h=>c3 h.2|exact fun h=>c0 h.1
  have q2':¬ F5 (Ak l k) x.id=true:=fun h=>q2 (by
   by_cases h0:0 < k
   ·exact Qo
   rw [Tf O] at h
   cases h)
  refine kP H (SC (bC Ae aF 0 M M (Rc M (Rm M (Sp 55 M ?_ ?_))))) <;> clear H
  ·intro oG a H
   try have p55:=dT oG
   refine kH H (YF Ae oG M (YO aF 0 oG M (YC oG M (Pt oG M (bF dN M (Cd M ?_ ?_)))))) <;> clear H dN
   ·intro mG a H
    try have p51:=dT mG
    refine bL (fun _ eO=>?_)
    have e3:ow l k x=3:=by rw [ow,yD,bU,au q1',au q2',jl]
    refine kP H (SC (bF eO M ?_));clear H eO;exact yT
   intro mG a H
   try have p51:=dF mG
   refine kP H (SR fun _ gD=>bC KH jf 0 M M ?_);clear H;intro a H;refine s_call Q0 H wn M (Sr _ _ H.ro x.name hs) M ?_;clear H;rintro v63 JQ a w rfl hm63 H;refine kH H (Rn M (aj gD M (Cd M ?_ ?_))) <;> clear H gD
   ·intro mP a H
    try have p60:=dT mP
    refine bL (fun _ fF=>?_)
    have e13:ow l k x=13:=by rw [ow,yD,bU,au q1',au q2',bU,ay (by simpa using mP)]
    refine kP H (SC (bF fF M ?_));clear H fF;exact yT
   exact aem
  intro oG a H
  try have p55:=dF oG
  refine kH H (bH oG M (Pf oG M (bF dN M (Cf M M (SR fun _ gK=>bC KH jf 0 M M ?_)))));clear H dN;intro a H;refine s_call Q0 H wn M (Sr _ _ H.ro x.name hs) M ?_;clear H;rintro v63 JQ a w rfl hm63 H;refine kH H (Rn M (aj gK M (Cd M ?_ ?_))) <;> clear H gK
  ·intro mP a H
   try have p60:=dT mP
   refine bL (fun _ jg=>?_)
   have e13:ow l k x=13:=by rw [ow,yD,bU,au q1',au q2',bU,ay (by simpa using mP)]
   refine kP H (SC (bF jg M ?_));clear H jg;exact yT
  intro mP a H
  try have p60:=dF mP
  refine iD ?_;refine ⟨JQ,by exact H.sub ⟨M,M,M,aC⟩,?_⟩;exact Vg
 clear H;intro g a w hI H;obtain ⟨q0,q1',q2',q3,q4,hgm⟩:=hI;dsimp only [lca,bM] at H;refine bL (fun _ kX=>?_);refine bL (fun _ kQ=>?_);have aiG:=(hv.mono hgm).pre k (by rw [bK];omega);rw [<- List.map_take] at aiG;have FL:=hp.mono hgm;refine dI hmx [[],[],[0,1],[],[3],[],[5],ra 0 7,ra 0 8,ra 0 9,ra 0 9,ra 0 10,ra 0 12] [12] V [_,_,.slice (some ⟨b,o,none⟩) k c,_,vi x.kind,_,.string x.name,.tuple #[vi (max (pz (Fu (l.take k) x.kind x.name)) 0),.bool (Fu (l.take k) x.kind x.name).isSome],_,vi (max (pz (Fu (l.take k) x.kind x.name)) 0),.bool (Fu (l.take k) x.kind x.name).isSome,_] H (aB (Z0 M (Rm M)) (Z0 M (Rm M)) ?_ (Z0 M (Rf Ae M)) (aB (Z1 3 69 M (Ro aF 0 M)) (Z0 M (Rf KH M)) (Z1 5 71 M (Ro jf 0 M)) ?_ (aB (Z1 7 73 M (Rm M)) ?_ ?_ (Z1 9 74 M (Ra M)) (bN (bS M) dz)))) ?_
 ·refine eT 0 66 1 67 M M fun _ a w G1 hG HT H fin=>?_;refine Jz nE lM k H wn M M M O M ?_;exact jH
 ·refine zS 2 68 4 70 6 72 M M fun _ a w G1 hG HT H fin=>?_;refine s_call arN H wn M (atN _ _ H.ro (l.take k) x.kind x.name _ (aiG.mono hG)) M ?_;clear H;rintro v73 G73 a w rfl auT H;exact fin H auT (rfl)
 ·exact adr
 ·exact adr
 clear H;intro a w G oH H hv;have H:=H.aM (hv 10 75 M M) M;clear hv;refine kH H (Ra M ?_);clear H;intro a H;refine aD ⟨M,?_⟩;refine kQ _ _ ?_;clear kQ;refine kP H (SR fun _ jP=>Rm M (Kz jP (Cd M ?_ ?_))) <;> clear H jP
 ·intro D7 a H
  try have ZX:=dT D7
  refine bL (fun _ mE=>?_)
  have e7:ow l k x=7:=by rw [ow,yD,bU,au q1',au q2',au q3,au q4,ay D7]
  refine kP H (SC (bF mE M ?_));clear H mE;exact yT
 intro D7 a H
 try have ZX:=dF D7
 refine kP H (Kc kX (SQ fun _ mF=>SQ fun _ jQ=>?_));clear H kX;intro a H
 have q5:¬ (Fu (l.take k) x.kind x.name).isSome=true:=by simpa using D7
 have FM:=FL.mono oH;refine kP H (SC (bC Rj vK 0 M M (Rl iw M (Rm M (Kn jQ (SB ?_))))));clear H jQ;intro a H;skip;refine fD (ι:=Nat) (Tc:=[(5,_),(78,_),(79,_)]) (Lc:=[(_,_)]) (fun gh=>[(80,vi gh)]) (fun gh=>[]) (fun gh=>G) (fun gh=>gh<=x.props.length∧(x.props.take gh).any (fun p=>M0 p.key)=false) (fun gh=>x.props.length - gh) (0) (by exact H.sub ⟨M,M,M,M,aC⟩) ?_ ?_
 ·exact Ka
 clear H;intro n a w hI H;obtain ⟨hn,hno⟩:=hI;dsimp only [lca,bM] at H;refine kP H (SR fun _ oM=>Rc M (Kz oM (SQ fun _ pQ=>Cd M ?_ ?_))) <;> clear H oM
 ·intro XM a H
  try have p81:=dT XM
  have hn2:n < x.props.length:=by omega
  obtain ⟨pb,po,rfl,hrow2⟩:=Js FM hn2;have hrow:=hrow2;refine kP H (Kc pQ (SQ fun _ oN=>SB (SR fun _ qz=>Ri iw iK M M ?_)));clear H pQ;intro a H;refine bQ iK (cs:=[_,_]) H wn M M (fun j v hj=>H.hp.aI (hrow j v hj)) M ?_;clear H;intro a H;refine dW iK H wn M ?_;clear H;intro b9 a w CF H;refine bJ iK 0 (vs:=[_,_]) H wn M ?_;clear H;intro w H;refine qz _ _ ?_;clear qz;refine kP H (SR fun _ pW=>bC xW aF 0 M M (Rc M (Rm M (Sp 87 M ?_ ?_)))) <;> clear H
  ·intro h87 a H
   try have Z4:=dT h87
   refine kH H (bH h87 M (Pt h87 M (Kz pW (Ct M M (SQ fun _ qR=>?_)))));clear H pW;intro a H
   have e4:ow l k x=4:=by
    exact acL
   refine kP H (SC (bF qR M ?_));clear H qR;exact yT
  intro h87 a H
  try have Z4:=dF h87
  refine kH H (YF xW h87 M (YO aF 0 h87 M (YC h87 M (Pf h87 M (Kz pW (Cd M ?_ ?_)))))) <;> clear H pW
  ·intro XP a H
   try have p91:=dT XP
   refine bL (fun _ vU=>?_)
   have e4:ow l k x=4:=by
    exact acL
   refine kP H (SC (bF vU M ?_));clear H vU;exact yT
  intro XP a H
  try have p91:=dF XP
  refine kP H (Kc oN (SC (Rd M (Rm M ?_))));clear H oN;intro a H;refine aD ?_;refine dQ ((n+1)) (by exact (H.eD (Pl:=[_,_]) (dK:=[_]) [1] Z M).sub ⟨M,M,M,M,aC⟩) ?_
  exact ⟨O,by rw [jK hn2,List.any_append,hno];simp [M0];omega⟩
 intro XM a H
 try have p81:=dF XM
 refine dY ?_;refine mF _ _ ?_;clear mF;refine bL (fun _ tC=>?_)
 have q6:¬ x.props.any (fun p=>M0 p.key)=true:=by
  rw [show x.props.take n=x.props from nZ O] at hno;rw [hno];decide
 have e0:ow l k x=rW (if x.kind=1 then 2 else 1) x.props:=by rw [ow,yD,bU,au q1',au q2',au q3,au q4,au q5,au q6]
 refine dI hmx [[],[0],[0,1],[],[3],ra 0 5,ra 0 6] [5,6] V [_,vi x.kind,vi (if x.kind=1 then 2 else 1),_,.slice pA x.props.length pc] H (aB (Z0 M (Rf Ae M)) (Z1 0 93 M (Ro aF 0 M)) ?_ (Z0 M (Rf Rj M)) (bN (Z1 3 96 M (Ro vK 0 M)) (bN (bS M) (bN (bS M) dz)))) ?_
 ·refine iO 1 94 M M fun _ a w G1 hG HT H fin=>?_;refine s_call arP H wn M (aqm _ _ H.ro x.kind) M ?_;clear H;rintro v95 G95 a w rfl auY H;exact fin H auY (rfl)
 clear H;intro a w G KQ H hv;have H:=H.aM (hv 2 95 M M) M;have H:=H.aM (hv 4 97 M M) M;clear hv;refine s_call afw H wn M (akg _ _ H.ro _ x.props _ (FM.mono KQ)) M ?_;clear H;rintro v98 G98 a w rfl aFl H;refine kH H (Ra M ?_);clear H;intro a H;refine aD ⟨M,?_⟩;refine tC _ _ ?_;clear tC;refine lr H results180 M ?_
 exact aci
theorem GA:Ty prog 33 1 24 [.slice none 0 0] false:=⟨V,V⟩
theorem Au:prog.underlying 33=some (.slice 107):=by kernel_rfl
theorem BO:Ty prog 107 6 64 [.int .i64 0,.int .i64 0,.string ⟨#[]⟩,.int .i64 0,.string ⟨#[]⟩,.bool false] true:=⟨V,V⟩
theorem agk:dR prog 107 0 0:=⟨V⟩
theorem agl:dR prog 107 1 1:=⟨V⟩
theorem arS:aR 224:=aS func224 M
theorem arA:aR 187:=aS func187 M
theorem atv:dR prog 107 2 2:=⟨V⟩
theorem afv:aR 127:=aS func127 M
theorem atw:dR prog 107 3 3:=⟨V⟩
theorem atx:dR prog 107 4 4:=⟨V⟩
theorem afE:aR 190:=aS func190 M
theorem arC:aR 189:=aS func189 M
theorem arB:aR 188:=aS func188 M
theorem arz:aR 186:=aS func186 M
theorem Ja {G:GH} {b:Nat} (l:List Int) (h:G b=some (.cells (l.map vi).toArray 49 (0,0))) (hl:l.length<=maxLen):av G (.sl 1 (l.map fun k=>[li k])) (.slice (some ⟨b,0,none⟩) l.length l.length) :=
 av.wI h (by simp) (dS _) hl (nZ (by simp)) (CX G l)
theorem Ws {G:GH} {l:List jq} {A:Option Addr} {n c k:Nat} (hv:av G (.sl 6 (l.map jq.dat)) (.slice A n c)) (hk:k < l.length):∃ b o,A=some ⟨b,o,none⟩∧(∀ j u,l[k].cells[j]?=some u->aI G b (o+k*6+j)=some u)∧aX G l[k].dat l[k].cells:=by
 obtain ⟨A',c',he,_,_,hg⟩:=hv.slice
 injection he with e1 e2 e3
 subst e1;obtain ⟨b,o,cs,h1,h2,h3,h4⟩:=hg k l[k].dat (by simp [hk]);have:=aeL h4;subst this;exact ⟨b,o,h1,h3,h4⟩
theorem apE {G:GH} {bl:Nat} {l:List jq} {A:Option Addr} {n c:Nat} (hb:aI G bl 0=some (.slice A n c)) (hv:av G (.sl 6 (l.map jq.dat)) (.slice A n c)):vT (.func (.func 189) #[] #[(aH bl 0)]) G l.length fun k=>(l[k]?.map jq.id).getD 0:=by
 intro k hk G1 w0 hm hG;refine kD (caps:=[(aH bl 0)]) arC ?_;replace hb:=aG hm hb
 obtain rfl:n=l.length:=by have:=hv.len;simpa using this
 obtain ⟨b,o,rfl,hrow,-⟩:=Ws (hv.mono hm) hk;have hq:=hrow 0 _ M;refine eN [(0,_),(1,_)] func189 M ntmps189 M M hG ?_;intro a H;refine kP H (SR fun _ K1=>aj K1 M (SR fun _ K2=>Rg GA M (by assumption) ?_));clear H K1;intro a H;refine kH H (Rm M (Ri Au BO M M (Rf agk M (Rg aF M (by assumption) ?_))));clear H;intro a H;exact kH H (aj K2 M (LR results189 M fun H=>H.rt (by dsimp only;rw [eB hk];rfl)))
theorem apF {G:GH} {bc:Nat} {x:jq} (hb:aI G bc 1=some (vi x.parent)) (y:jq):qW (.func (.func 188) #[] #[(aH bc 0)]) G y.dat (decide (y.id=x.parent)):=by
 intro G1 w0 cs hm hG hr;refine kD (caps:=[(aH bc 0)]) arB ?_;obtain rfl:=aeL hr;replace hb:=aG hm hb;refine eN [(0,_),(1,_)] func188 M ntmps188 M M hG ?_;intro a H;refine cZ (fun _ K1=>?_);refine dZ (cs:=[_,_,_,_,_,_]) H wn M M M ?_;clear H;intro b2 a w hb2 H;refine kH H (aj K1 M (SR fun _ K2=>bC agk aF 0 M M (Rf agl M (Rg aF M (by assumption) ?_))));clear H K1;intro a H;exact kH H (Rc M (aj K2 M (LR results188 M fun H=>H.rt M)))
theorem ayl (G:GH) (w0:World) (hG:Hold G w0) (l:List jq) (p:jq->Bool) (v fv:ah) (hv:av G (.sl 6 (l.map jq.dat)) v) (hf:∀ x∈l,qW fv G x.dat (p x)) :
  Calls prog 224 #[v,fv] w0 (bE w0 G fun u G'=>u=vi (pz (l.findIdx? p))):=by
 obtain ⟨A,c,rfl,hc1,hc2,hg⟩:=hv.slice;have hml:maxLen=9223372036854775807:=rfl;rw [bK] at *;refine eN [(0,_),(1,_)] func224 M ntmps224 M M hG ?_;intro a H;refine kP H (SR fun _ K1=>aj K1 M (SQ fun _ K2=>SR fun _ K3=>Rm M (Rl Au M (Rm M (Kz K3 (SB ?_))))));clear H K1 K3;intro a H;skip;refine fD (ι:=Nat × GH) (Tc:=[(0,_),(1,_),(7,_)]) (Lc:=[]) (fun gh=>[(8,vi gh.1)]) (fun gh=>[]) (fun gh=>gh.2) (fun gh=>gh.1<=l.length∧(l.take gh.1).findIdx? p=none∧(∀ b o,G b=some o->gh.2 b=some o)) (fun gh=>l.length - gh.1) ((0,G)) (by exact H.sub ⟨M,M,M,M,aC⟩) ?_ ?_
 ·exact zV
 clear H;rintro ⟨k,g⟩ a w hI H;dsimp only at hI H;obtain ⟨hk,hno,hgm⟩:=hI;dsimp only [lca,bM] at H;refine kP H (SR fun _ K4=>Rc M (Kz K4 (SQ fun _ K5=>Cd M ?_ ?_))) <;> clear H K4
 ·intro h9 a H
  try have p9:=dT h9
  have hk2:k < l.length:=by omega
  obtain ⟨b,o,rfl,hrow,hrep⟩:=Ws hv hk2;refine kP H (Kc K5 (SQ fun _ K6=>SB (SR fun _ K7=>Rm M (aj K7 M (SR fun _ K8=>Rm M (Rm M (Rm M (Ri Au BO M M ?_))))))));clear H K5 K7;intro a H;refine bQ BO (cs:=l[k].cells) H wn M M (fun j v hj=>H.hp.aI (aG hgm (hrow j v hj))) M ?_;clear H;intro a H;refine lI H wn M M (hf _ (jS hk2) _ _ _ hgm H.ro (hrep.mono hgm)) M ?_;clear H;rintro v16 vQ a w rfl uH H;refine K8 _ _ ?_;clear K8;refine jL H M ?_ ?_
  ·intro h16
   try have p16:=dT h16
   refine kP H (SR fun _ K9=>Rm M (aj K9 M ?_));clear H K9;intro a H;refine lr H results224 M ?_
   exact xS
  exact H9
 intro h9 a H
 try have p9:=dF h9
 refine dY ?_;refine K2 _ _ ?_;clear K2;refine kP H (SR fun _ aT=>aj aT M ?_);clear H aT;intro a H;refine lr H results224 M ?_
 exact xS
theorem apJ (G:GH) (w0:World) (hG:Hold G w0) (l:List jq) (p:jq->Bool) (v fv:ah) (hv:av G (.sl 6 (l.map jq.dat)) v) (hf:∀ x∈l,qW fv G x.dat (p x)) :
  Calls prog 187 #[v,fv] w0 (bE w0 G fun u G'=>u=.bool (l.findIdx? p).isSome):=by
 obtain ⟨A,c,rfl,hc1,hc2,-⟩:=hv.slice;rw [bK] at *;refine eN [(0,_),(1,_)] func187 M ntmps187 M M hG ?_;intro a H;refine kP H (SR fun _ K1=>aj K1 M (SR fun _ K2=>Rm M (Rm M ?_)));clear H K1;intro a H;refine s_call arS H wn M (ayl _ _ H.ro l p _ _ hv hf) M ?_;clear H;rintro v7 G7 a w rfl CP H;exact kH H (Rc M (aj K2 M (LR results187 M fun H=>H.rt (iP (Zf _)))))
def J9 (l:List jq) (i:Nat) (x:jq):Bool:=decide (x.parent=0) || ((l.take i).findIdx? fun y=>decide (y.id=x.parent)).isSome
def Wq (l:List jq) (i:Nat) (x:jq):Int:=eG [xC (fun k=>(l[k]?.map jq.id).getD 0) i,dH (!J9 l i x) 8,dH (!xR x.author) 39,dH (!decide (0<=x.time∧x.time<=1099511627776)) 40,EF x.text]
def KD (l:List jq) (i:Nat):Int:=match l[i]? with|some x=>Wq l i x|none=>0
theorem apD {G:GH} {bl:Nat} {l:List jq} {A:Option Addr} {n c:Nat} (hb:aI G bl 0=some (.slice A n c)) (hv:av G (.sl 6 (l.map jq.dat)) (.slice A n c)) (hl:l.length<=4294967296) (ht:∀ x∈l,x.author.size < 4611686018427387904∧x.text.size < 4611686018427387904):vT (.func (.func 186) #[] #[(aH bl 0)]) G l.length (KD l):=by
 intro k hk G1 w0 hm hG;refine kD (caps:=[(aH bl 0)]) arz ?_;replace hb:=aG hm hb;replace hv:=hv.mono hm;have hcb:=apE hb hv;obtain ⟨_,_,hee,hvc,-,-⟩:=hv.slice
 injection hee with _ _ hcc
 subst hcc;rw [bK] at hvc
 obtain rfl:n=l.length:=by have:=hv.len;simpa using this
 obtain ⟨b,o,rfl,hrow,hrep⟩:=Ws hv hk;have hte:=ht _ (jS hk);obtain ⟨x,hx⟩:∃ x,x=l[k]:=⟨_,M⟩;rw [<- hx] at hrow hte
 have he:KD l k=Wq l k x:=by unfold KD;rw [eB hk,hx]
 refine eN [(0,_),(1,_)] func186 M ntmps186 M M hG ?_;intro a H;refine kP H (SR fun _ K1=>aj K1 M (SR fun _ K2=>Rg GA M (by assumption) ?_));clear H K1;intro a H;refine kH H (Rm M (Ri Au BO M M ?_));clear H;intro a H;refine bQ BO (cs:=x.cells) H wn M M (fun j v hj=>H.hp.aI (hrow j v hj)) M ?_;clear H;intro a H;refine dW BO H wn M ?_;clear H;intro b4 a w hb4 H;refine bJ BO 0 (vs:=[_,_,_,_,_,_]) H wn M ?_;clear H;intro w H;obtain ⟨Ga,hma,Bq,H⟩:=H.fU
 have hcell:∀ (j:Nat) (u:ah),x.cells[j]?=some u->aI Ga b4 j=some u:=fun j u hj=>by unfold aI;rw [Bq];simpa using hj
 have q1:=hcell 1 _ M;have hbA:=aG hma hb;have Sj:=(hv.mono hma).pre k (by rw [bK];omega);rw [<- List.map_take] at Sj;refine K2 _ _ ?_;clear K2;refine uo (ι:=Bool × GH) (Tc:=[(0,_),(1,_),(4,_)]) (Lc:=[]) (fun gh=>[(5,.bool gh.1)]) (fun gh=>[]) (fun gh=>gh.2) (fun gh=>gh.1=J9 l k x∧(∀ b o,Ga b=some o->gh.2 b=some o)) (by exact H.sub ⟨M,M,M,aC⟩) ?_ ?_
 ·skip;refine kP H (SC (Rf agl M (Rg aF M (by assumption) ?_)));clear H;intro a H;refine kH H (Rc M (Rm M (Sp 13 M ?_ ?_))) <;> clear H
  ·intro ig a H
   try have sZ:=dT ig
   refine kH H (bH ig M (aU ig M (Pt ig M (Ra M ?_))));clear H;intro a H;refine aD ?_;refine ⟨(_,_),by exact H.sub ⟨M,M,M,M,aC⟩,?_⟩;(try dsimp only)
   first
   | exact ⟨by unfold J9;rw [mY (by assumption)];rfl,fun _ _ h=>h⟩
   | exact ⟨by unfold J9;rw [qE (by assumption)];rfl,hm18⟩
  intro ig a H
  try have sZ:=dF ig
  refine kH H (YR GA ig M (by assumption) ?_);clear H;intro a H;refine kH H (YM ig M ?_);clear H;intro a H;refine Jz Au BO k H (wg H M M ig) M M M O M ?_;clear H;intro a H;refine vG H (wg H M M ig) M M ?_;clear H;intro a H;refine s_call arA H (wg H M M ig) M (apJ _ _ H.ro (l.take k) (fun y=>decide (y.id=x.parent)) _ _ Sj (fun y _=>apF q1 y)) M ?_;clear H;rintro v18 EO a w rfl hm18 H;refine kH H (Pf ig M (Ra M ?_));clear H;intro a H;refine aD ?_;refine ⟨(_,_),by exact H.sub ⟨M,M,M,M,aC⟩,?_⟩;(try dsimp only)
  first
  | exact ⟨by unfold J9;rw [mY (by assumption)];rfl,fun _ _ h=>h⟩
  | exact ⟨by unfold J9;rw [qE (by assumption)];rfl,hm18⟩
 clear H;rintro ⟨bf,g⟩ a w hI H;dsimp only at hI H;obtain ⟨hbf,hgm⟩:=hI;replace hcell:=fun j u hj=>aG hgm (hcell j u hj);replace hcb:=(hcb.mono hma).mono hgm;dsimp only [lca,bM] at H;refine bL (fun _ K3=>?_);have H:=H.sub (T':=[(0,_),(1,_),(4,_),(5,_)]) ⟨M,M,M,M,aC⟩;refine dI hmx [[],[],[0,1],[],[3],ra 0 5,[],[6],ra 0 8,ra 0 9,ra 0 10,[],[11],ra 0 13,ra 0 14,ra 0 15,[],[16],ra 0 18,ra 0 19,ra 0 20,ra 0 21] [19,20,21] V [_,.func (.func 189) #[] #[(aH bl 0)],vi (xC (fun k=>(l[k]?.map jq.id).getD 0) k),_,_,vi (dH (!bf) 8),_,_,.bool (xR x.author),_,vi (dH (!xR x.author) 39),_,_,.bool (decide (0<=x.time∧x.time<=1099511627776)),_,vi (dH (!decide (0<=x.time∧x.time<=1099511627776)) 40),_,_,vi (EF x.text)] H (aB (Z0 M (Rm M)) ?_ ?_ (Z0 M (Rm M)) (aB (Z1 3 23 M (Rn M)) ?_ (Z0 M (Rf atv M)) (X1 6 26 M fun hG=>Rg jf M (aG hG (hcell 2 _ M))) (aB ?_ (Z1 8 28 M (Rn M)) ?_ (Z0 M (Rf atw M)) (aB (X1 11 31 M fun hG=>Rg aF M (aG hG (hcell 3 _ M))) ?_ (Z1 13 33 M (Rn M)) ?_ (aB (Z0 M (Rf atx M)) (X1 16 36 M fun hG=>Rg jf M (aG hG (hcell 4 _ M))) ?_ (bS M) (bN (bS M) (bN (bS M) dz))))))) ?_
 ·exact Hz
 ·refine eT 0 20 1 21 M M fun _ a w G1 hG HT H fin=>?_;refine s_call afu H wn M (aiS _ _ H.ro k _ _ O (fun i hi=>(hcb.mono hG) i O)) M ?_;clear H;rintro v22 Ux a w rfl XT H;exact fin H XT (rfl)
 ·refine iO 4 24 M M fun _ a w G1 hG HT H fin=>?_;refine s_call mZ H wn M (nG _ _ H.ro _ 8) M ?_;clear H;rintro v25 PL a w ⟨rfl,-⟩ auD H;exact fin H auD (rfl)
 ·refine iO 7 27 M M fun _ a w G1 hG HT H fin=>?_;refine s_call afv H wn M (abF _ _ H.ro x.author hte.1) M ?_;clear H;rintro v28 MK a w ⟨rfl,-⟩ auE H;exact fin H auE (rfl)
 ·refine iO 9 29 M M fun _ a w G1 hG HT H fin=>?_;refine s_call mZ H wn M (nG _ _ H.ro _ 39) M ?_;clear H;rintro v30 ER a w ⟨rfl,-⟩ NV H;exact fin H NV (rfl)
 ·refine iO 12 32 M M fun _ a w G1 hG HT H fin=>?_;refine s_call za H wn M (zy _ _ H.ro x.time 0 1099511627776) M ?_;clear H;rintro v33 G33 a w ⟨rfl,-⟩ auH H;exact fin H auH (rfl)
 ·refine iO 14 34 M M fun _ a w G1 hG HT H fin=>?_;refine s_call mZ H wn M (nG _ _ H.ro _ 40) M ?_;clear H;rintro v35 G35 a w ⟨rfl,-⟩ XV H;exact fin H XV (rfl)
 ·refine iO 17 37 M M fun _ a w G1 hG HT H fin=>?_;refine s_call afE H wn M (alD _ _ H.ro x.text hte.2) M ?_;clear H;rintro v38 UA a w rfl auJ H;exact fin H auJ (rfl)
 clear H;intro a w G xZ H hv;have H:=H.aM (hv 2 22 M M) M;have H:=H.aM (hv 5 25 M M) M;have H:=H.aM (hv 10 30 M M) M;have H:=H.aM (hv 15 35 M M) M;have H:=H.aM (hv 18 38 M M) M;clear hv;refine iV sH jE [_,_,_,_,_] [_,_,_,_,_] H wn M M M M M (by intro i q h;match i,h with|0,h=>exact h|1,h=>exact h|2,h=>exact h|3,h=>exact h|4,h=>exact h|n+5,h=>simp at h) M M ?_;clear H;intro b39 a w aES H;obtain ⟨UC,Od,avv,H⟩:=H.fU;refine s_call tK H wn M (tN _ _ H.ro _ _ (Ja [xC (fun k=>(l[k]?.map jq.id).getD 0) k,dH (!bf) 8,dH (!xR x.author) 39,dH (!decide (0<=x.time∧x.time<=1099511627776)) 40,EF x.text] avv (show 5<=maxLen by decide))) rfl ?_;clear H;rintro v40 _ a w ⟨rfl,rfl⟩ - H;refine kH H (Ra M ?_);clear H;intro a H;refine aD ⟨M,?_⟩;refine K3 _ _ ?_;clear K3;refine lr H results186 M ?_;exact H.rt (by rw [he,Wq,<- hbf])
def QG (l:List jq):Int:=eG [dH (decide (1024 < (l.length:Int))) 9,lF (KD l) (min l.length 1024)]
theorem aoT (G:GH) (w0:World) (hG:Hold G w0) (l:List jq) (v:ah) (hv:av G (.sl 6 (l.map jq.dat)) v) (hl:l.length<=4294967296) (ht:∀ x∈l,x.author.size < 4611686018427387904∧x.text.size < 4611686018427387904) :
  Calls prog 121 #[v] w0 (bE w0 G fun u G'=>u=vi (QG l)):=by
 obtain ⟨A,c,rfl,hc1,hc2,-⟩:=hv.slice;rw [bK] at *;refine eN [(0,_)] func121 M ntmps121 M M hG ?_;intro a H;refine cZ (fun _ K1=>?_);refine dZ (cs:=[_]) H wn M M M ?_;clear H;intro b1 a w hb1 H;refine kH H (aj K1 M (SQ fun _ K2=>?_));clear H K1;intro a H;have H:=H.sub (T':=[(1,_)]) ⟨M,aC⟩;obtain ⟨Ga,hma,hb1',H⟩:=H.fU
 have hbl:aI Ga b1 0=some (.slice A l.length c):=by unfold aI;rw [hb1'];rfl
 have hcb:=apD hbl (hv.mono hma) hl ht;refine dI hmx [[],[0],[0,1],[0,1,2],[],[4],[4,5],[],ra 0 8,ra 0 9,ra 0 10,ra 0 11] [9,10,11] V [_,_,_,vi (dH (decide (1024 < (l.length:Int))) 9),_,_,vi ((min l.length 1024:Nat):Int),.func (.func 186) #[] #[(aH b1 0)],vi (lF (KD l) (min l.length 1024))] H (aB (X0 M fun hG=>Rg GA M (aG hG hbl)) (Z1 0 3 M (Rl Au M)) (Z1 1 4 M (Rc M)) ?_ (aB (X0 M fun hG=>Rg GA M (aG hG hbl)) (Z1 4 7 M (Rl Au M)) ?_ ?_ (aB ?_ (bS M) (bS M) (bS M) dz))) ?_
 ·exact Qt
 ·exact Qw
 ·exact Hz
 ·refine eT 6 9 7 10 M M fun _ a w G1 hG HT H fin=>?_;refine s_call KF H wn M (MX _ _ H.ro (min l.length 1024) (KD l) _ O ((hcb.mono hG).le (Nat.min_le_left _ _))) M ?_;exact Nh
 clear H;intro a w G nO H hv;have H:=H.aM (hv 3 6 M M) M;have H:=H.aM (hv 8 11 M M) M;clear hv;refine iV sH jE [_,_] [_,_] H wn M M M M M (by intro i q h;match i,h with|0,h=>exact h|1,h=>exact h|n+2,h=>simp at h) M M ?_;clear H;intro b12 a w IC H;obtain ⟨EM,Eh,IE,H⟩:=H.fU;refine s_call tK H wn M (tN _ _ H.ro _ _ (Aq IE)) M ?_;clear H;rintro v13 _ a w ⟨rfl,rfl⟩ - H;refine kH H (Ra M ?_);clear H;intro a H;refine aD ⟨M,?_⟩;refine K2 _ _ ?_;clear K2;refine lr H results121 M ?_;exact yR
def zC:Nat->List Int->List MapEntry
 | _,[]=>[]
 | i,k :: r=>⟨.int .i64 k,.int .i64 (i:Int),i⟩ :: zC (i+1) r
theorem aju (x:Int):∀ (i:Nat) (l:List Int),zC i (l++[x])=zC i l++[⟨.int .i64 x,.int .i64 ((i+l.length:Nat):Int),i+l.length⟩]
 | _,[]=>rfl
 | i,k :: r=>by
  rw [pR,zC,aju x (i+1) r,zC,pR,kR,show i+1+r.length=i+(r.length+1) by omega]
def xB (x:Int):Nat->List Int->Option Nat
 | _,[]=>none
 | i,k :: r=>if k=x then some i else xB x (i+1) r
theorem aiO {x:Int}:∀ {l:List Int} {i n:Nat},xB x i l=some n->i<=n
 | [],_,_,h=>by cases h
 | k :: r,i,n,h=>by
  rw [xB] at h;split at h
  ·cases h;exact dS _
  ·have:=aiO h;omega
theorem aiQ {x:Int}:∀ {l:List Int} {i:Nat},x∉l->xB x i l=none
 | [],_,_=>rfl
 | k :: r,i,h=>by
  rw [xB,au (fun e=>h (by simp [e])),aiQ (fun hm=>h (gI _ hm))]
theorem Xg (x:Int):∀ (i j:Nat) (l:List Int),Instr.findNow (.int .i64) (.int .i64 x) (zC i l) j=some ((xB x i l).map fun n=>(j+(n - i),.int .i64 (n:Int)))
 | _,_,[]=>rfl
 | i,j,k :: r=>by
  have ih:=Xg x (i+1) (j+1) r
  by_cases e:k=x
  ·subst e
   simp only [zC,Instr.findNow,Instr.sameNow,ay,xB,beq_self_eq_true]
   simp
  ·have hb:(x == k)=false:=by simp;exact fun h=>e h.symm
   simp only [zC,Instr.findNow,Instr.sameNow,ay,hb,xB,au e,ih]
   cases h:xB x (i+1) r with
   | none=>rfl
   | some n =>
    have:=aiO h
    simp only [uT,pX,iX,and_true]
    omega
abbrev anx (b:Nat) (l:List Int):Nat × Obj:=(b,.map (zC 0 l).toArray l.length)
theorem azn (l:List Int) (x:Int):(zC 0 l).toArray.push ⟨.int .i64 x,.int .i64 (l.length:Int),l.length⟩=(zC 0 (l++[x])).toArray:=by
 rw [aju,List.push_toArray,gZ]
section
section
variable {P:Program} {N:Nat} {D:List Deferred} {w0 w w':World} {F:Nat->Prop} {G0 G G':GH} {L L' Li Lo:OL} {T:List (Nat × ah)} {a a':Act} {Q:Exit->Act->World->Prop}
variable {r:Option Nat} {ops:Array Oper} {rest:List Oper}
def UE (P:Program) (Gi:GH) (B:OL) (gv:ah) (xs:List AP):Prop :=
 ∀ (J:Nat->GH->OL->Prop) (Jx:GH->OL->Prop) (fv:ah) (G:GH) (L:OL) (w:World),fv.cells=#[fv]->(∀ b o,Gi b=some o->G b=some o)->ET J->J3 Jx->J 0 G L->gq G (B++L) w->MJ P fv G xs J Jx ->
  uh P gv [fv] w (fM w G (B++L) fun _ G' L'=>J xs.length G' L'∨Jx G' L')
theorem UE.mono {Gi ES:GH} {B:OL} {gv:ah} {xs:List AP} (h:UE P Gi B gv xs) (hm:∀ b o,Gi b=some o->ES b=some o):UE P ES B gv xs :=
 fun J Jx fv G L w h0 h1=>h J Jx fv G L w h0 fun b o hb=>h1 b o (hm b o hb)
end
end
section
section
variable {P:Program} {N:Nat} {D:List Deferred} {w0 w w':World} {F:Nat->Prop} {G0 G G':GH} {L L' Li Lo:OL} {T:List (Nat × ah)} {a a':Act} {Q:Exit->Act->World->Prop}
variable {r:Option Nat} {ops:Array Oper} {rest:List Oper}
def JV (P:Program) (Gi:GH) (B:OL) (gv:ah) (xs:List AP) (fin:Bool):Prop :=
 ∀ (J:Nat->GH->OL->Prop) (Jx:GH->OL->Prop) (fv:ah) (G:GH) (L:OL) (w:World),fv.cells=#[fv]->(∀ b o,Gi b=some o->G b=some o)->ET J->J3 Jx->J 0 G L->gq G (B++L) w->MJ P fv G xs J Jx->(fin=false->∀ g l,¬ J xs.length g l) ->
  uh P gv [fv] w (fM w G (B++L) fun _ G' L'=>J xs.length G' L'∨Jx G' L')
theorem JV.mono {Gi ES:GH} {B:OL} {gv:ah} {xs:List AP} {fin:Bool} (h:JV P Gi B gv xs fin) (hm:∀ b o,Gi b=some o->ES b=some o):JV P ES B gv xs fin :=
 fun J Jx fv G L w h0 h1=>h J Jx fv G L w h0 fun b o hb=>h1 b o (hm b o hb)
theorem aow {fin:Bool} {B:OL} {Bf:Operand} {ps:List Nat} {assign body:Code} {gf:FuncId} {caps:List ah} {xs:List AP} {Gi:GH}
  (H:St N D w0 F G0 G (B++L) T a w) (hg:ev T Bf=some (.func (.func gf) #[] caps.toArray)) (en:∀ args w,(callFunc gf args).run P w=.ok (.enter gf args) w) (hit:JV P Gi B (.func (.func gf) #[] caps.toArray) xs fin) (hGi:∀ b o,Gi b=some o->G b=some o)
  (hps:ps.all (Nat.blt · N)=true) (hlen:∀ k args g,xJ xs k args g->args.length=ps.length)
  (J:Nat->GH->OL->Prop) (Jx:Code->GH->OL->Prop) (hno:fin=false->∀ g l,¬ J xs.length g l) (tT:ET J) (hJx:∀ c,J3 (Jx c)) (h0:J 0 G L) (YJ:UU P N ps assign body T G J Jx xs)
  (hdone:∀ Dk G1 L1 a1 w1,(∀ b o,G b=some o->G1 b=some o)->J xs.length G1 L1->St N ({ target:=.collected Dk,args:=#[] } :: D) w0 F G0 G1 ((Dk,.deferred (some [])) :: L1) T a1 w1->Q .normal a1 w1)
  (hstop:∀ Dk c G1 L1 a1 w1,(∀ b o,G b=some o->G1 b=some o)->Jx c G1 L1->St N ({ target:=.collected Dk,args:=#[] } :: D) w0 F G0 G1 ((Dk,.deferred (some [])) :: L1) T a1 w1->WP none P c Q a1 w1) :
  WP none P (.rangeFunc Bf ps.toArray assign body) Q a w:=by
 refine wpIn_rangeFunc ?_
 intro fn _
 have hev:=H.ev hg
 let q:Rec:=⟨fn,a.tmps,ps.toArray,assign,body,w.heap.size⟩
 obtain ⟨W1,hW1⟩:∃ W1,W1=(w.alloc (.deferred (some []))).alloc (q.at .ready none):=⟨_,M⟩
 have H1:Hp w0 F G0 G (B++((w.heap.size+1,q.at .ready none) :: (w.heap.size,.deferred (some [])) :: L)) W1:=by
  have:=(H.hp.alloc (.deferred (some []))).alloc (q.at .ready none)
  rw [World.size_alloc] at this
  rw [hW1]
  refine this.perm ?_
  have e:=uU (l₁:=[(w.heap.size+1,q.at .ready none),(w.heap.size,Obj.deferred (some []))]) (l₂:=B)
  have e2:=List.Perm.append_right L e
  rw [iL,iL] at e2
  exact e2
 refine ⟨w.heap.size+1,[{ target:=.collected w.heap.size,args:=#[] }],W1,{ target:=.fn (.func gf) caps.toArray,args:=#[.func (.yield (w.heap.size+1)) #[] #[]] },W1,gf,
  #[.func (.yield (w.heap.size+1)) #[] #[]]++caps.toArray,W1,by rw [hW1];exact run_enterLoop_outer fn a.tmps ps.toArray assign body,?_,fun _ _=>trivial,?_,PK none,?_⟩
 ·simp only [resolve,rangeCall,hev]
  simp [Deferred.ofValue,Act.eval]
 ·simp [invoke,en]
 ·have hcv:=hit (fun k=>Jr (w.heap.size+1) q [(w.heap.size,.deferred (some []))] (J k)) (PV (w.heap.size+1) q [(w.heap.size,.deferred (some []))] Jx) (.func (.yield (w.heap.size+1)) #[] #[]) G
   ((w.heap.size+1,q.at .ready none) :: (w.heap.size,.deferred (some [])) :: L) W1 rfl hGi (fun k G G' L hm ⟨Lu,e,h⟩=>⟨Lu,e,tT k G G' Lu hm h⟩) (fun G G' L hm ⟨c,Lu,e,h⟩=>⟨c,Lu,e,hJx c G G' Lu hm h⟩) ⟨L,M,h0⟩ (Hp.owns (Li:=[]) H1) (aev H.oP H.get hps hlen YJ) (fun e g l ⟨Lu,_,h⟩=>hno e g Lu h)
  replace hcv:=hcv.go
  have e:(do let d <- Deferred.ofValue (.func (.func gf) #[] caps.toArray) [Value.func (.yield (w.heap.size+1)) #[] #[]].toArray;invoke d.target d.args:Sem Next).run P W1=.ok (.enter gf (#[.func (.yield (w.heap.size+1)) #[] #[]]++caps.toArray)) W1:=by
   simp [Deferred.ofValue,invoke,en]
  rw [e] at hcv
  refine (V8 hcv).mono ?_
  rintro e w2 ⟨v,G2,L2,rfl,hch,hJ⟩
  have H2:=Hp.change (Li:=[]) H1 hch
  rcases hJ with ⟨Lu,rfl,hJ⟩|⟨c,Lu,rfl,hJ⟩
  ·have hl:=H2.own _ (dV)
   have H3:=(H2.upd (i:=0) M (GI (q.at .exhausted none) hl)).drop (DF _ _)
   exact ⟨none,_,run_endLoop hl (by simp),hdone _ G2 Lu _ _ hch.gm hJ ⟨H.oP,H.get,by simp [H.vg],H3⟩⟩
  ·have hl:=H2.own _ (dV)
   have H3:=(H2.upd (i:=0) M (GI (q.at .exhausted (some c)) hl)).drop (DF _ _)
   exact ⟨some c,_,run_endLoop hl (by simp),hstop _ c G2 Lu _ _ hch.gm hJ ⟨H.oP,H.get,by simp [H.vg],H3⟩⟩
theorem aox {fin:Bool} {B:OL} {ι κ:Type} {Lc:OL} {Bf:Operand} {ps:List Nat} {assign body:Code} {gf:FuncId} {caps:List ah} {xs:List AP} {Gi:GH}
  (Lv:Nat->ι->OL) (Lt:Nat->ι->OL) (inv:Nat->ι->GH->Prop) (cx:κ->Code) (Lx GZ:κ->OL) (Bz:κ->GH->Prop) (i0:ι)
  (H:St N D w0 F G0 G (B++(Lc++Lv 0 i0++Lt 0 i0)) T a w) (hg:ev T Bf=some (.func (.func gf) #[] caps.toArray)) (en:∀ args w,(callFunc gf args).run P w=.ok (.enter gf args) w) (hit:JV P Gi B (.func (.func gf) #[] caps.toArray) xs fin) (hGi:∀ b o,Gi b=some o->G b=some o)
  (hno:fin=false->∀ i g,¬ inv xs.length i g) (hps:ps.all (Nat.blt · N)=true) (hlen:∀ k args g,xJ xs k args g->args.length=ps.length) (hinv:∀ k i (G G':GH),(∀ b o,G b=some o->G' b=some o)->inv k i G->inv k i G') (Yn:∀ x (G G':GH),(∀ b o,G b=some o->G' b=some o)->Bz x G->Bz x G') (h0:inv 0 i0 G)
  (round:∀ (l:Nat) (Da zY:Obj) (bk:OL) (k:Nat) (args:List ah) (i:ι) (G1:GH) (w1:World) (F1:Nat->Prop) (B1:Code->Exit->Act->World->Prop) (a1:Act),xJ xs k args G1->(∀ b o,G b=some o->G1 b=some o)->inv k i G1 ->
   (∀ T' G2 L2 a2 w2 c,St N [] w1 F1 G1 G2 ((l,Da) :: L2) T' a2 w2->(∀ w3,St N [] w1 F1 G1 G2 ((l,zY) :: L2) T' a2 w3->WP (some l) P c (B1 c) a2 w3)->Exit.then (fun a2 w2=>∃ w3,(Instr.beginRound l).run P w2=.ok () w3∧c.wpIn (FW (some l)) 0 P (B1 c) a2 w3) (fun _ _ _=>False) .normal a2 w2) ->
   (∀ i' T' G2 a2 w2 c,St N [] w1 F1 G1 G2 ((l,zY) :: (Lc++Lv (k+1) i'++(bk++Lt (k+1) i'))) T' a2 w2->inv (k+1) i' G2->B1 c .normal a2 w2) ->
   (∀ x T' G2 a2 w2 c,St N [] w1 F1 G1 G2 ((l,zY) :: (Lc++Lx x++(bk++GZ x))) T' a2 w2->Bz x G2->(cx x=.ret->B1 c .ret a2 w2)∧∀ n,cx x=.exit n->B1 c (.exit n) a2 w2) ->
   St N [] w1 F1 G1 G1 ((l,Da) :: (Lc++Lv k i++(bk++Lt k i))) (yP ps args T) a1 w1 ->
   WP (some l) P assign (Exit.then (fun a2 w2=>∃ w3,(Instr.beginRound l).run P w2=.ok () w3∧body.wpIn (FW (some l)) 0 P (B1 body) a2 w3) (fun _ _ _=>False)) a1 w1)
  (hdone:∀ Dk i G1 a1 w1,(∀ b o,G b=some o->G1 b=some o)->inv xs.length i G1->St N ({ target:=.collected Dk,args:=#[] } :: D) w0 F G0 G1 ((Dk,.deferred (some [])) :: (Lc++Lv xs.length i++Lt xs.length i)) T a1 w1->Q .normal a1 w1)
  (hstop:∀ Dk x G1 a1 w1,(∀ b o,G b=some o->G1 b=some o)->Bz x G1->St N ({ target:=.collected Dk,args:=#[] } :: D) w0 F G0 G1 ((Dk,.deferred (some [])) :: (Lc++Lx x++GZ x)) T a1 w1->WP none P (cx x) Q a1 w1) :
  WP none P (.rangeFunc Bf ps.toArray assign body) Q a w:=by
 refine aow (J:=fun k g L=>∃ i,L=Lc++Lv k i++Lt k i∧inv k i g) (Jx:=fun c g L=>∃ x,c=cx x∧L=Lc++Lx x++GZ x∧Bz x g) H hg en hit hGi hps hlen (hno:=fun e g l ⟨i,_,h⟩=>hno e i g h) (fun k G G' L hm ⟨i,e,h⟩=>⟨i,e,hinv k i G G' hm h⟩) (fun c G G' L hm ⟨x,e1,e2,h⟩=>⟨x,e1,e2,Yn x G G' hm h⟩) ⟨i0,M,h0⟩ ?_ ?_ ?_
 ·rintro l q bk k args G1 L1 w1 a1 hk hm ⟨i,rfl,hi⟩ H1
  have pm:∀ A B:OL,(bk++(A++B)).Perm (A++(bk++B)):=fun A B=>by
   rw [<- iL,<- iL]
   exact List.Perm.append_right B uU
  refine round l (q.at .ready none) (q.at .busy none) bk k args i G1 w1 _ (fun _=>roundPost P l _) a1 hk hm hi ?_ ?_ ?_ (H1.perm (List.Perm.cons _ (pm _ _)))
  ·intro T' G2 L2 a2 w2 c H2 h
   exact aer H2 h
  ·intro i' T' G2 a2 w2 c H2 h2
   exact Ml none (H2.perm (List.Perm.cons _ (pm _ _).symm)) ⟨_,M,i',M,h2⟩
  ·intro x T' G2 a2 w2 c H2 h2
   have H3:=H2.perm (List.Perm.cons _ (pm _ _).symm)
   refine ⟨fun e=>?_,fun n e=>?_⟩
   ·exact Ml (some .ret) H3 ⟨_,_,M,x,e.symm,M,h2⟩
   ·exact Ml (some (.exit n)) H3 ⟨_,_,M,x,e.symm,M,h2⟩
 ·rintro Dk G1 L1 a1 w1 hm ⟨i,rfl,hi⟩ H1
  exact hdone Dk i G1 a1 w1 hm hi H1
 ·rintro Dk c G1 L1 a1 w1 hm ⟨x,rfl,rfl,hx⟩ H1
  exact hstop Dk x G1 a1 w1 hm hx H1
end
end
theorem JE:prog.underlying 130=some (.map 3 3):=by kernel_rfl
theorem uf:Ty prog 31 1 24 [.slice none 0 0] false:=⟨V,V⟩
theorem Xc:dR prog 192 3 3:=⟨V⟩
theorem afK:aR 222:=aS func222 M
theorem aiP {x:Int}:∀ {l:List Int} {i n:Nat},xB x i l=some n->n < i+l.length
 | [],_,_,h=>by cases h
 | k :: r,i,n,h=>by
  rw [xB] at h;split at h
  ·cases h;simp
  have:=aiP h;simp only [kR];omega
def zZ (l:List cK):Nat->Int->List cK
 | 0,_=>[]
 | f+1,id=>if id=0 then [] else match xB id 0 (l.map cK.id) with|none=>[]|some i=>match l[i]? with|none=>[]|some s=>s :: zZ l f s.base
def KA (l:List cK) (id:Int):List cK:=zZ l (l.length+1) id
theorem aoP {l:List cK} {f:Nat} {id:Int} (h:id=0):zZ l f id=[]:=by
 cases f with
 | zero=>rfl
 | succ f=>rw [zZ,ay h]
theorem aoN {l:List cK} {f:Nat} {id:Int} (h0:¬ id=0) (h:xB id 0 (l.map cK.id)=none):zZ l f id=[]:=by
 cases f with
 | zero=>rfl
 | succ f=>rw [zZ,au h0,h]
theorem aoO {l:List cK} {f i:Nat} {id:Int} (h0:¬ id=0) (h:xB id 0 (l.map cK.id)=some i) (hi:i < l.length):zZ l (f+1) id=l[i] :: zZ l f l[i].base:=by
 rw [zZ,au h0,h];dsimp only;rw [eB hi]
def stP (x:cK):AP:=fun args g=>∃ cs,args=[.agg cs.toArray]∧aX g x.dat cs
theorem alv {A:List cK} {k:Nat} {args:List ah} {g:GH} (h:xJ (A.map stP) k args g):∃ (hk:k < A.length) (cs:List ah),args=[.agg cs.toArray]∧aX g A[k].dat cs:=by
 obtain ⟨p,hp,hargs⟩:=h;rw [qD] at hp;obtain ⟨q,hq,rfl⟩:=oO.1 hp;obtain ⟨hk,rfl⟩:=jZ.1 hq;obtain ⟨cs,h1,h2⟩:=hargs;exact ⟨hk,cs,h1,h2⟩
abbrev bI (b:Nat) (n:Int):Nat × Obj:=(b,.cells #[vi n] 3 (0,0))
theorem Fb {p:Prop} (h:p:=by
 exact kY _):p:=h
set_option maxHeartbeats 1000000 in
theorem aoQ {G:GH} {bl bi:Nat} {l:List cK} {id:Int} {v:ah} (hb:aI G bl 0=some v) (hv:av G (.sl 6 (l.map cK.dat)) v) (hnd:∀ (k:Nat) (h:k < l.length),l[k].id∉(l.take k).map cK.id) :
  JV prog G [bI bi id] (.func (.func 222) #[] #[(aH bl 0),(aH bi 0)]) ((KA l id).map stP) (decide ((KA l id).length<=l.length)):=by
 intro J Jx fv G1 L w0 Yj hGi tT hJx hJ hO hcb hfin;refine kD (caps:=[(aH bl 0),(aH bi 0)]) afK ?_;obtain ⟨A,c,rfl,hc1,hc2,-⟩:=hv.slice;have hml:maxLen=9223372036854775807:=rfl;rw [bK] at *;replace hb:=aG hGi hb;replace hv:=hv.mono hGi;refine jc (N:=46) (T:=[(0,_),(1,_),(2,_)]) func222 M ntmps222 M M hO ?_;intro a H;refine cZ (fun _ K1=>?_);refine Jw H wn M ?_;clear H;intro bm a w hbm H;refine kH H (aj K1 M (SQ fun _ K2=>SR fun _ K3=>Rg uf M (by assumption) ?_));clear H K1;intro a H;refine kH H (Rl nE M (Rm M (Kz K3 (SB ?_))));clear H K3;intro a H;skip;refine fD (ι:=Nat) (Tc:=[(0,_),(1,_),(2,_),(4,_),(10,_),(11,_)]) (Lc:=[(_,_)]) (fun gh=>[(12,vi gh)]) (fun gh=>[anx bm ((l.take gh).map cK.id)]++L) (fun gh=>G1) (fun gh=>gh<=l.length) (fun gh=>l.length - gh) (0) (by exact (H.eD (Pl:=[_,_]) (dK:=[_,_]) [1,0] Z M).sub ⟨M,M,M,M,M,M,M,aC⟩) ?_ ?_
 ·exact Fb
 clear H;intro k a w hI H;have hk:=hI;dsimp only [lca,bM] at H;refine kP H (SR fun _ K4=>Rc M (Kz K4 (SQ fun _ K5=>Cd M ?_ ?_))) <;> clear H K4
 ·intro ig a H
  try have sZ:=dT ig
  have hk2:k < l.length:=by omega
  obtain ⟨b,o,pA,pc,rfl,hrow,hp,hrep⟩:=EC hv hk2;have awT:=hnd k hk2
  have hlk:((l.take k).map cK.id).length=k:=by rw [bK,List.length_take];omega
  have hnx:(l.take k).map cK.id++[l[k].id]=(l.take (k+1)).map cK.id:=by rw [jK hk2,ji];rfl
  refine kP H (Kc K5 (SQ fun _ K6=>SB (SR fun _ K7=>Rm M (Ri nE lM M M ?_))));clear H K5;intro a H;refine bQ lM (cs:=[_,_,_,_,_,_]) H wn M M (fun j v hj=>H.hp.aI (hrow j v hj)) M ?_;clear H;intro a H;refine dW lM H wn M ?_;clear H;intro b6 a w hb6 H;refine kH H (Ra M ?_);clear H;intro a H;refine bJ lM 0 (vs:=[_,_,_,_,_,_]) H wn M ?_;clear H;intro w H;refine K7 _ _ ?_;clear K7;refine kP H (SC (Rm M (bC xX aF 0 M M (Rm M ?_))));clear H;intro a H;refine akT (i:=2) (ky:=vi l[k].id) (v:=vi k) JE mX H wn M M M M (by trivial) (by rw [List.toList_toArray,Xg,aiQ awT];rfl) ?_;clear H;intro w H
  have hpush:((zC 0 ((l.take k).map cK.id)).toArray.push ⟨vi l[k].id,vi k,((l.take k).map cK.id).length⟩)=(zC 0 ((l.take (k+1)).map cK.id)).toArray:=by rw [<- hnx,<- azn,hlk]
  rw [hpush,show ((l.take k).map cK.id).length+1=((l.take (k+1)).map cK.id).length by rw [<- hnx];simp] at H;refine kH H (Kn K6 (SC (Rd M (Rm M ?_))));clear H K6;intro a H;refine aD ?_;refine dQ ((k+1)) (by exact (H.eD (Pl:=[_,_,_]) (dK:=[_,_]) [1,2] Z M).sub ⟨M,M,M,M,M,M,M,aC⟩) ?_
  exact by omega
 intro ig a H
 try have sZ:=dF ig
 obtain rfl:k=l.length:=by omega
 rw [uV] at H;refine dY ?_;refine K2 _ _ ?_;clear K2;refine AY ?_;skip;refine fD (ι:=Int × Nat × Nat × OL × GH) (Tc:=[(0,_),(1,_),(2,_),(4,_)]) (Lc:=[(_,_)]) (fun gh=>[]) (fun gh=>[bI bi gh.1]++gh.2.2.2.1) (fun gh=>gh.2.2.2.2) (fun gh=>(∀ b o,G1 b=some o->gh.2.2.2.2 b=some o)∧Now ((KA l id).map stP) stP J (KA l id).length gh.2.2.1 (zZ l gh.2.1 gh.1) gh.2.2.2.2 gh.2.2.2.1∧gh.2.2.1+gh.2.1=l.length+1) (fun gh=>gh.2.1) ((id,l.length+1,0,L,G1)) (by exact (H.eD (Pl:=[_,_]) (dK:=[_,_]) [1,0] Z M).sub ⟨M,M,M,M,aC⟩) ?_ ?_
 ·exact ⟨fun _ _ h=>h,⟨hJ,fun i a h=>by rw [gZ,qD];rw [show zZ l (l.length+1) id=KA l id from rfl] at h;rw [h];rfl,gZ _⟩,gZ _⟩
 clear H;rintro ⟨i,f,j1,Lt,g⟩ a w hI H;dsimp only at hI H;obtain ⟨hgm,iG,hjf⟩:=hI;have hbg:=aG hgm hb;dsimp only [lca,bM] at H;refine kP H (SQ fun _ K8=>SR fun _ K9=>Ro aF 1 M (Rc M (Kz K9 (Cd M ?_ ?_)))) <;> clear H K9
 ·intro h23 a H
  try have C9:=dT h23
  have h0:¬ i=0:=by simpa using h23
  obtain ⟨an,han⟩:∃ an,an=xB i 0 (l.map cK.id):=⟨_,M⟩;have hfn:=Xg i 0 0 (l.map cK.id);rw [<- han] at hfn;refine kP H (Kc K8 (SB (SR fun _ aT=>Rm M (Ro aF 1 M ?_))));clear H K8;intro a H;refine aBU (i:=0) (zv:=vi 0) _ JE mX V H wn M M M (by trivial) (by simpa using hfn) M ?_;clear H;intro a H;refine kH H (Rm M ?_);clear H;intro a H;(iterate 2 refine lJ H wn M M M ?_;clear H;intro a H);refine kH H (Ra M (aj aT M (SQ fun _ bR=>SR fun _ cu=>Rm M (Rn M (Rm M (Sp 32 M ?_ ?_)))))) <;> clear H aT
  ·intro h32 a H
   try have p32:=dT h32
   obtain rfl:an=none:=by
    cases an with
    | none=>rfl
    | some n=>simp [Eu] at h32
   rw [aoN h0 han.symm] at iG;refine kH H (bH h32 M (aU h32 M (aU h32 M (Pt h32 M (Kz cu (Ct M M ?_))))));clear H cu;intro a H;refine eP ?_;refine (leave0 H results222 ?_).1;refine H.hp.lW (L':=Lt) (by repeat (first|exact kS _|apply List.Sublist.cons)) (.inl ?_);have h:=iG.len
   simp only [List.length_nil,sJ] at h
   rw [<- h];exact iG.now
  intro h32 a H
  try have p32:=dF h32
  obtain ⟨n,rfl⟩:∃ n,an=some n:=by
   cases an with
   | none=>simp [Eu] at h32
   | some n=>exact ⟨n,M⟩
  have hnl:n < l.length:=by have:=aiP han.symm;simpa using this
  obtain ⟨f',rfl⟩:∃ f',f=f'+1:=by
   cases f with
   | succ f'=>exact ⟨f',M⟩
   | zero =>
    exfalso
    have hl:=iG.len
    simp only [zZ,List.length_nil,sJ] at hl
    refine hfin (qE O) g Lt ?_;rw [<- hl];exact iG.now
  rw [aoO h0 han.symm hnl] at iG;dsimp only [Eu,Option.map_some] at H;obtain ⟨b,o,pA,pc,rfl,hrow,hp,hrep⟩:=EC (hv.mono hgm) hnl;refine kH H (YM h32 M (YR uf h32 M (by assumption) ?_));clear H;intro a H;refine kH H (YM h32 M (YI nE lM h32 M M ?_));clear H;intro a H;refine bQ lM (cs:=[_,_,_,_,_,_]) H (wg H M M h32) M M (fun j v hj=>H.hp.aI (hrow j v hj)) M ?_;clear H;intro a H;refine BL (Li:=[_,_]) (L:=Lt) H (wg H M M h32) M M (hcb j1 _ _ _ _ ⟨_,iG.head,_,M,hrep⟩ hgm iG.now (Hp.owns (Li:=[_,_]) H.hp)) M ?_;clear H;rintro v38 UA abr a w ⟨b38,rfl,hb1,hb2⟩ Le H;have hbg:=aG Le hbg;have r3:=aG Le (hrow 3 _ M);refine kH H (YN h32 M (Pf h32 M (Kz cu (Cd M ?_ ?_)))) <;> clear H cu
  ·intro lT a H
   try have p40:=dT lT
   refine eP ?_;refine (leave0 H results222 ?_).1;exact H.hp.lW (L':=abr) (by repeat (first|exact kS _|apply List.Sublist.cons)) (.inr (hb2 (by simpa using lT)))
  intro lT a H
  try have p40:=dF lT
  refine kP H (Kc bR (SC (Rg uf M (by assumption) ?_)));clear H bR;intro a H;refine kH H (Rm M (Ri nE lM M M (Rf Xc M (Rg aF M (by assumption) ?_))));clear H;intro a H;refine bJ aF 1 (vs:=[_]) H wn M ?_;clear H;intro w H;refine aD ?_;refine dQ ((l[n].base,f',j1+1,abr,UA)) (by exact H.sub ⟨M,M,M,M,aC⟩) ?_
  (try dsimp only);exact ⟨fun b o h=>Le b o (hgm b o h),iG.step (hb1 (by simpa using lT)),O⟩
 intro h23 a H
 try have C9:=dF h23
 refine dY ?_;refine (leave0 H results222 ?_).2;rw [aoP (by simpa using h23)] at iG;refine H.hp.lW (L':=Lt) (by repeat (first|exact kS _|apply List.Sublist.cons)) (.inl ?_);have h:=iG.len
 simp only [List.length_nil,sJ] at h
 rw [<- h];exact iG.now
theorem aru:aR 182:=aS func182 M
theorem ars:aR 180:=aS func180 M
theorem WM:aR 181:=aS func181 M
theorem Rh:dR prog 192 4 4:=⟨V⟩
theorem aoR {G:GH} {w0:World} (hO:gq G [] w0) (l:List cK) (id:Int) (v:ah) (hv:av G (.sl 6 (l.map cK.dat)) v) :
  Calls prog 182 #[v,vi id] w0 (fM w0 G [] fun u G' L'=>∃ bl bi,u=.func (.func 222) #[] #[(aH bl 0),(aH bi 0)]∧L'=[bI bi id]∧aI G' bl 0=some v):=by
 obtain ⟨A,c,rfl,hc1,hc2,-⟩:=hv.slice;refine jc (N:=6) (T:=[(0,_),(1,_)]) func182 M ntmps182 M M hO ?_;intro a H;refine cZ (fun _ K1=>?_);refine dZ (cs:=[_]) H wn M M M ?_;clear H;intro b2 a w hb2 H;refine dZ (cs:=[_]) H wn M M M ?_;clear H;intro b3 a w hb3 H;refine kH H (aj K1 M (SR fun _ K2=>?_));clear H K1;intro a H;refine vG H wn M M ?_;clear H;intro a H;refine kH H (aj K2 M ?_);clear H K2;intro a H;refine lr H results182 M ?_;have H:=H.eD (Pl:=[_,_]) (dK:=[_,_]) [1,0] Z M;obtain ⟨Ga,hma,hb2',H⟩:=H.fU;exact H.hp.gQ ⟨b2,b3,M,M,by unfold aI;rw [hb2'];rfl⟩
def vY (p:Nat->Int):Nat->Nat->Int
 | _,0=>0
 | k,n+1=>if p k=0 then vY p (k+1) n else p k
theorem atm {p:Nat->Int} {k m:Nat} (h:k < m):vY p k (m - k)=if p k=0 then vY p (k+1) (m - (k+1)) else p k:=by
 obtain ⟨n,hn⟩:∃ n,m - k=n+1:=⟨m - k - 1,O⟩;rw [hn,vY,show m - (k+1)=n by omega]
theorem atl {p:Nat->Int} {k m:Nat} (h:m<=k):vY p k (m - k)=0:=by rw [show m - k=0 by omega];rfl
theorem agd {p:Nat->Int}:∀ {n k:Nat},vY p k n=0->∀ j,k<=j->j < k+n->p j=0
 | 0,k,_,j,h1,h2=>by omega
 | n+1,k,h,j,h1,h2=>by
  rw [vY] at h;split at h
  ·rename_i hp
   by_cases e:j=k
   ·rw [e];exact hp
   exact agd h j O O
  rename_i hp;exact absurd h hp
def BG (l:List cK) (k:Nat):Int:=match l[k]? with|some s=>ow l k s|none=>0
theorem ajY {l:List cK} {k:Nat} (h:k < l.length):BG l k=ow l k l[k]:=by unfold BG;rw [eB h]
def yQ (l:List cK) (s:cK):Bool:=(decide (s.base≠0) && !OH l s.kind s.base) || (decide (s.next≠0) && (decide (s.kind=2) || !OH l 1 s.next))
def Wv (l:List cK) (s:cK):Bool:=decide (l.length < (KA l s.id).length)
def A9 (l:List cK):Int:=if 128 < l.length then 9 else if vY (BG l) 0 l.length≠0 then vY (BG l) 0 l.length else if l.any (yQ l)=true then 25 else if l.any (Wv l)=true then 16 else 0
theorem aAf {l:List cK} (h:vY (BG l) 0 l.length=0) {k:Nat} (hk:k+1 < l.length):l[k].id < l[k+1].id:=by
 have h1:=agd h (k+1) (kY _) O;rw [ajY hk,ow,yD] at h1
 have hp:Ak l (k+1)=some l[k].id:=by rw [Ak,bU,Nat.add_sub_cancel,eB O];rfl
 rw [hp] at h1
 split at h1
 ·cases h1
 split at h1
 ·cases h1
 split at h1
 ·cases h1
 rename_i _ h2 h3
 have h2':¬ l[k].id=l[k+1].id:=fun e=>h2 (by rw [e]);have h3':¬ l[k+1].id < l[k].id:=fun e=>h3 (aJ e)
 omega
theorem ajZ {l:List cK} (h:vY (BG l) 0 l.length=0):∀ {k j:Nat} (hk:k < l.length) (hj:j < k),l[j].id < l[k].id
 | k+1,j,hk,hj=>by
  have h1:=aAf h hk
  by_cases e:j=k
  ·subst e;exact h1
  have:=ajZ h (k:=k) (j:=j) O O
  omega
theorem akb {l:List cK} (h:vY (BG l) 0 l.length=0) (k:Nat) (hk:k < l.length):l[k].id∉(l.take k).map cK.id:=by
 intro hm;obtain ⟨x,hx1,hx2⟩:=List.mem_map.1 hm;obtain ⟨j,hj,rfl⟩:=List.getElem_of_mem hx1;rw [List.getElem_take] at hx2;rw [List.length_take] at hj;have:=ajZ h hk (j:=j) O
 omega
theorem abE {α:Type} {p:α->Bool} {l:List α} {k:Nat} (hk:k < l.length) (h:(l.take k).any p=false) (hp:p l[k]=false):(l.take (k+1)).any p=false:=by
 rw [jK hk,List.any_append,h];simp [hp]
theorem J8 {α:Type} {p:α->Bool} {l:List α} {k:Nat} (hk:k < l.length) (hp:p l[k]=true):l.any p=true:=List.any_eq_true.2 ⟨_,jS hk,hp⟩
theorem abD {α:Type} {p:α->Bool} {l:List α} {k:Nat} (hk:l.length<=k) (h:(l.take k).any p=false):¬ l.any p=true:=by
 rw [nZ hk] at h;rw [h];decide
theorem Qk {p:Prop} (h:p:=by
 first
  | exact H.rt (cO vi (by rw [A9,jl]))
  | exact H.rt (cO vi (by rw [au (by simpa using nk)] at heq;rw [A9,bU,<- heq,ay (by simpa using nk)]))
  | exact H.rt (cO vi (by rw [A9,bU,au (by rw [hok];decide),ay hbad]))
  | exact H.rt (cO vi (by rw [A9,bU,au (by rw [hok];decide),au hbad,ay (J8 hj2 hI)]))
  | exact H.rt (cO vi (by rw [A9,bU,au (by rw [hok];decide),au hbad,au (abD O hnc)]))):p:=h
theorem Vh {p:Prop} (h:p:=by
 exact ⟨O,abE hk4 hno (by unfold yQ;simp_all),jW⟩):p:=h
theorem Na {p:Prop} (h:p:=by
 refine eP ?_;refine (leave1 H results119 (.cons (Gn jE H M (H.hp.uN 1 M M)) .nil) ?_).1
 exact Qk):p:=h
theorem adH {p:Prop} (h:p:=by
 intro jv a H
 try have p59:=dF jv
 refine kP H (Kc eO (SC (Rd M (Rm M ?_))));clear H eO;intro a H;refine aD ?_;refine dQ ((k+1,g2)) (by exact (H.eD (Pl:=[_,_,_]) (dK:=[_,_]) [1,2] Z M).sub ⟨M,M,M,M,M,aC⟩) ?_
 (try dsimp only);exact Vh):p:=h
theorem aei {p:Prop} (h:p:=by
 refine eP ?_;refine (leave1 H results119 (.cons (Gn jE H M (H.hp.uN 0 M M)) .nil) ?_).1
 exact Qk):p:=h
set_option maxHeartbeats 1000000 in
theorem apa (G:GH) (w0:World) (hG:Hold G w0) (l:List cK) (v:ah) (hv:av G (.sl 6 (l.map cK.dat)) v) (hN:∀ s∈l,s.name.size<=4611686018427387904) :
  Calls prog 119 #[v] w0 (bE w0 G fun u G'=>u=vi (A9 l)):=by
 obtain ⟨A,c,rfl,hc1,hc2,-⟩:=hv.slice;have hml:maxLen=9223372036854775807:=rfl;rw [bK] at *;refine eN [(0,_)] func119 M ntmps119 M M hG ?_;intro a H;refine cZ (fun _ K1=>?_);refine dZ (cs:=[_]) H wn M M M ?_;clear H;intro b1 a w hb1 H;refine dW jE H wn M ?_;clear H;intro b2 a w hb2 H;refine K1 _ _ ?_;clear K1;refine kP H (SQ fun _ K2=>SR fun _ K3=>Ro uf 1 M (Rl nE M (Rc M (Kz K3 (Cd M ?_ ?_))))) <;> clear H K3
 ·intro h12 a H
  try have rM:=dT h12
  refine cZ (fun _ K4=>?_);refine bJ jE 0 (vs:=[_]) H wn M ?_;clear H;intro w H;refine K4 _ _ ?_;clear K4;exact aei
 intro h12 a H
 try have rM:=dF h12
 refine kP H (Kc K2 (SQ fun _ K5=>SR fun _ K6=>Ro uf 1 M (Rl nE M (Rm M (Kz K6 (SB ?_))))));clear H K2 K6;intro a H;skip;refine fD (ι:=Nat × GH) (Tc:=[(1,_),(2,_),(14,_)]) (Lc:=[(_,_),(_,_)]) (fun gh=>[(15,vi gh.1)]) (fun gh=>[]) (fun gh=>gh.2) (fun gh=>gh.1<=l.length∧vY (BG l) gh.1 (l.length - gh.1)=vY (BG l) 0 l.length∧(∀ b o,G b=some o->gh.2 b=some o)) (fun gh=>l.length - gh.1) ((0,G)) (by exact H.sub ⟨M,M,M,M,aC⟩) ?_ ?_
 ·exact Fa
 clear H;rintro ⟨k,g⟩ a w hI H;dsimp only at hI H;obtain ⟨hk,heq,hgm⟩:=hI;dsimp only [lca,bM] at H;refine kP H (SR fun _ K7=>Rc M (Kz K7 (SQ fun _ K8=>Cd M ?_ ?_))) <;> clear H K7
 ·intro h16 a H
  try have p16:=dT h16
  have hk2:k < l.length:=by omega
  rw [atm hk2,ajY hk2] at heq;refine kP H (Kc K8 (SQ fun _ K9=>SB (SR fun _ aT=>Rm M (aj aT M (SR fun _ bR=>Ro uf 1 M (Rm M ?_))))));clear H K8 aT;intro a H;refine s_call ars H wn M (aAg _ _ H.ro l k _ (hv.mono hgm) hk2 (hN _ (jS hk2))) M ?_;clear H;rintro v20 GR a w rfl rY H;refine kH H (aj bR M (SR fun _ cu=>Rm M (Rc M (Kz cu (Cd M ?_ ?_))))) <;> clear H bR cu
  ·intro h22 a H
   try have nk:=dT h22
   refine kP H (SR fun _ dw=>Rm M ?_);clear H;intro a H;refine bJ jE 0 (vs:=[_]) H wn M ?_;clear H;intro w H;refine dw _ _ ?_;clear dw;exact aei
  intro h22 a H
  try have nk:=dF h22
  refine kP H (Kc K9 (SC (Rd M (Rm M ?_))));clear H K9;intro a H;refine aD ?_;refine dQ ((k+1,GR)) (by exact H.sub ⟨M,M,M,M,aC⟩) ?_
  (try dsimp only);exact ⟨O,by rw [ay (by simpa using nk)] at heq;exact heq,fun b o h=>rY b o (hgm b o h)⟩
 intro h16 a H
 try have p16:=dF h16
 have hok:vY (BG l) 0 l.length=0:=by rw [<- heq];exact atl O
 clear heq;have CW:=hv.mono hgm;refine dY ?_;refine K5 _ _ ?_;clear K5;refine kP H (SQ fun _ dB=>SR fun _ dX=>Ro uf 1 M (Rl nE M (Rm M (Kz dX (SB ?_)))));clear H dX;intro a H;skip;refine fD (ι:=Nat × GH) (Tc:=[(1,_),(2,_),(25,_),(26,_)]) (Lc:=[(_,_),(_,_)]) (fun gh=>[(27,vi gh.1)]) (fun gh=>[]) (fun gh=>gh.2) (fun gh=>gh.1<=l.length∧(l.take gh.1).any (yQ l)=false∧(∀ b o,g b=some o->gh.2 b=some o)) (fun gh=>l.length - gh.1) ((0,g)) (by exact H.sub ⟨M,M,M,M,M,aC⟩) ?_ ?_
 ·exact Fa
 clear H;rintro ⟨k,g2⟩ a w hI H;dsimp only at hI H;obtain ⟨hk3,hno,jW⟩:=hI;have Bw:=CW.mono jW;dsimp only [lca,bM] at H;refine kP H (SR fun _ eu=>Rc M (Kz eu (SQ fun _ dN=>Cd M ?_ ?_))) <;> clear H eu
 ·intro gG a H
  try have p28:=dT gG
  have hk4:k < l.length:=by omega
  obtain ⟨b,o,pA,pc,rfl,hrow,hp,hrep⟩:=EC Bw hk4;refine kP H (Kc dN (SQ fun _ eO=>SB (SR fun _ gD=>Ri nE lM M M ?_)));clear H dN;intro a H;refine bQ lM (cs:=[_,_,_,_,_,_]) H wn M M (fun j v hj=>H.hp.aI (hrow j v hj)) M ?_;clear H;intro a H;refine dW lM H wn M ?_;clear H;intro b6 a w hb6 H;refine bJ lM 0 (vs:=[_,_,_,_,_,_]) H wn M ?_;clear H;intro w H;refine gD _ _ ?_;clear gD;refine kP H (SR fun _ fF=>bC Xc aF 0 M M (Rc M (Rm M (Sp 34 M ?_ ?_)))) <;> clear H
  ·intro gN a H
   try have p34:=dT gN
   refine kH H (YO uf 2 gN M (YF Ae gN M (YO aF 0 gN M (YF Xc gN M (YO aF 0 gN M ?_)))));clear H;intro a H;refine s_call WM H (wg H M M gN) M (Ze _ _ H.ro l l[k].kind l[k].base _ Bw) M ?_;clear H;rintro v40 g2 a w rfl En H;replace jW:=fun b o (h:g b=some o)=>En b o (jW b o h);replace Bw:=Bw.mono En;refine kH H (YN gN M (Pt gN M (Rm M (Sp 43 M ?_ ?_)))) <;> clear H
   ·intro h43 a H
    try have p43:=dT h43
    refine kH H (aU h43 M (aU h43 M (Ku M (Ku M (Ku M (Ku M (Ku M (Ku M (Ku M (Ku M (Ku M (Ku M (Ks h43 M (Pt h43 M (Kz fF (Ct M M (SQ fun _ gK=>?_)))))))))))))))));clear H fF;intro a H;have hbad:l.any (yQ l)=true:=J8 hk4 (by unfold yQ;simp_all);refine oQ ?_;refine bJ jE 1 (vs:=[_]) H wn M ?_;clear H;intro w H;refine aD ?_;refine gK _ _ ?_;clear gK;exact Na
   intro h43 a H
   try have p43:=dF h43
   refine kH H (YF Rh h43 M (YO aF 0 h43 M (YC h43 M (YM h43 M (Sp 47 M ?_ ?_))))) <;> clear H
   ·intro h47 a H
    try have p47:=dT h47
    refine kH H (YF Ae h47 M (YO aF 0 h47 M (YC h47 M (YM h47 M (Sp 51 M ?_ ?_))))) <;> clear H
    ·intro mG a H
     try have p51:=dT mG
     refine kH H (bH mG M (aU mG M (PT h47 mG M (PT h43 h47 M (Pf h43 M (Kz fF (Ct M M (SQ fun _ jg=>?_))))))));clear H fF;intro a H;have hbad:l.any (yQ l)=true:=J8 hk4 (by unfold yQ;simp_all);refine oQ ?_;refine bJ jE 1 (vs:=[_]) H wn M ?_;clear H;intro w H;refine aD ?_;refine jg _ _ ?_;clear jg;exact Na
    intro mG a H
    try have p51:=dF mG
    refine kH H (YO uf 2 mG M (YF Rh mG M (YO aF 0 mG M ?_)));clear H;intro a H;refine s_call WM H (wg H M M mG) M (Ze _ _ H.ro l 1 l[k].next _ Bw) M ?_;clear H;rintro v55 g2 a w rfl Br H;replace jW:=fun b o (h:g b=some o)=>Br b o (jW b o h);replace Bw:=Bw.mono Br;refine kH H (YN mG M (PF h47 mG M (PT h43 h47 M (Pf h43 M (Kz fF (Cd M ?_ ?_)))))) <;> clear H fF
    ·intro jv a H
     try have p59:=dT jv
     refine bL (fun _ kX=>?_);have hbad:l.any (yQ l)=true:=J8 hk4 (by unfold yQ;simp_all);refine oQ ?_;refine bJ jE 1 (vs:=[_]) H wn M ?_;clear H;intro w H;refine aD ?_;refine kX _ _ ?_;clear kX;exact Na
    exact adH
   intro h47 a H
   try have p47:=dF h47
   refine kH H (aU h47 M (aU h47 M (Ku M (Ku M (Ku M (Ku M (Ku M (Ks h47 M (PF h43 h47 M (Pf h43 M (Kz fF (Cf M M (Kc eO (SC (Rd M (Rm M ?_))))))))))))))));clear H fF eO;intro a H;refine aD ?_;refine dQ ((k+1,g2)) (by exact (H.eD (Pl:=[_,_,_]) (dK:=[_,_]) [1,2] Z M).sub ⟨M,M,M,M,M,aC⟩) ?_
   (try dsimp only);exact Vh
  intro gN a H
  try have p34:=dF gN
  refine kH H (bH gN M (aU gN M (aU gN M (Pf gN M (Rm M ?_)))));clear H;intro a H;refine Ms Rh H (wg H M M M) M M ?_;clear H;intro a H;refine sF aF H (wg H M M M) M (H.hp.uN 0 M M) M ?_;clear H;intro a H;refine Jv H (wg H M M M) M M M M ?_;clear H;intro a H;refine Jy H (wg H M M M) M M ?_;clear H;intro a H;refine aat H 47 M ?_ ?_
  ·intro h47
   try have p47:=dT h47
   refine kH H (YF Ae h47 M (YO aF 0 h47 M (YC h47 M (YM h47 M (Sp 51 M ?_ ?_))))) <;> clear H
   ·intro mG a H
    try have p51:=dT mG
    refine kH H (bH mG M (aU mG M (PT h47 mG M ?_)));clear H;intro a H;refine O4 H (wg H M M M) M h47 M M ?_;clear H;intro a H;refine kH H (Pf M M (Kz fF (Ct M M (SQ fun _ kQ=>?_))));clear H fF;intro a H;have hbad:l.any (yQ l)=true:=J8 hk4 (by unfold yQ;simp_all);refine oQ ?_;refine bJ jE 1 (vs:=[_]) H wn M ?_;clear H;intro w H;refine aD ?_;refine kQ _ _ ?_;clear kQ;exact Na
   intro mG a H
   try have p51:=dF mG
   refine kH H (YO uf 2 mG M (YF Rh mG M (YO aF 0 mG M ?_)));clear H;intro a H;refine s_call WM H (wg H M M mG) M (Ze _ _ H.ro l 1 l[k].next _ Bw) M ?_;clear H;rintro v55 g2 a w rfl Br H;replace jW:=fun b o (h:g b=some o)=>Br b o (jW b o h);replace Bw:=Bw.mono Br;refine kH H (YN mG M (PF h47 mG M ?_));clear H;intro a H;refine O4 H (wg H M M M) M h47 M M ?_;clear H;intro a H;refine kH H (Pf M M (Kz fF (Cd M ?_ ?_))) <;> clear H fF
   ·intro jv a H
    try have p59:=dT jv
    refine bL (fun _ jP=>?_);have hbad:l.any (yQ l)=true:=J8 hk4 (by unfold yQ;simp_all);refine oQ ?_;refine bJ jE 1 (vs:=[_]) H wn M ?_;clear H;intro w H;refine aD ?_;refine jP _ _ ?_;clear jP;exact Na
   exact adH
  intro h47
  try have p47:=dF h47
  refine kH H (aU h47 M (aU h47 M (Ku M (Ku M (Ku M (Ku M (Ku M (Ks h47 M ?_))))))));clear H;intro a H;refine TP H (wg H M M M) M h47 M M ?_;clear H;intro a H;refine kH H (Pf M M (Kz fF (Cf M M (Kc eO (SC (Rd M (Rm M ?_)))))));clear H fF eO;intro a H;refine aD ?_;refine dQ ((k+1,g2)) (by exact (H.eD (Pl:=[_,_,_]) (dK:=[_,_]) [1,2] Z M).sub ⟨M,M,M,M,M,aC⟩) ?_
  (try dsimp only);exact Vh
 intro gG a H
 try have p28:=dF gG
 have hbad:=abD O hno;refine dY ?_;refine dB _ _ ?_;clear dB;refine kP H (SQ fun _ mE=>SR fun _ mF=>Ro uf 1 M (Rl nE M (Rm M (Kz mF (SB ?_)))));clear H mF;intro a H;skip;refine aou (ι:=Nat × GH × List Nat) (Tc:=[(1,_),(2,_),(61,_),(62,_)]) (Lc:=[(_,_),(_,_)]) (fun gh=>ZL gh.2.2) (fun gh=>[(63,vi gh.1)]) (fun gh=>[]++(Ji gh.2.2++[])) (fun gh=>gh.2.1) (fun gh=>gh.1<=l.length∧(l.take gh.1).any (Wv l)=false∧(∀ b o,g2 b=some o->gh.2.1 b=some o)) (fun gh=>l.length - gh.1) ((0,g2,[])) (by exact H.sub ⟨M,M,M,M,M,aC⟩) ?_ ?_
 ·exact Fa
 clear H;rintro ⟨j,g3,ds⟩ a w hI H;dsimp only at hI H;obtain ⟨hj,hnc,rC⟩:=hI;have Y6:=Bw.mono rC;dsimp only [lca,bM] at H;refine kP H (SR fun _ jQ=>Rc M (Kz jQ (SQ fun _ oM=>Cd M ?_ ?_))) <;> clear H jQ
 ·intro h64 a H
  try have p64:=dT h64
  have hj2:j < l.length:=by omega
  obtain ⟨b,o,pA,pc,rfl,hrow,hp,hrep⟩:=EC Y6 hj2;refine kP H (Kc oM (SQ fun _ pQ=>SB (SR fun _ oN=>Ri nE lM M M ?_)));clear H oM;intro a H;refine bQ lM (cs:=[_,_,_,_,_,_]) H wn M M (fun j v hj=>H.hp.aI (hrow j v hj)) M ?_;clear H;intro a H;refine dW lM H wn M ?_;clear H;intro b8 a w RN H;refine bJ lM 0 (vs:=[_,_,_,_,_,_]) H wn M ?_;clear H;intro w H;refine oN _ _ ?_;clear oN;refine cZ (fun _ qz=>?_);refine dW aF H wn M ?_;clear H;intro b9 a w CF H;refine bJ aF 0 (vs:=[_]) H wn M ?_;clear H;intro w H;refine qz _ _ ?_;clear qz;refine kP H (SR fun _ pW=>Ro uf 3 M (bC xX aF 1 M M ?_));clear H;intro a H;refine gW aru (Li:=[_,_,_,_]++Ji ds) (L:=[]) (St.un (A:=[_,_,_,_]) H) wn M (aoR (Hp.owns (Li:=[_,_,_,_]++Ji ds) (St.un (A:=[_,_,_,_]) H).hp) l l[j].id _ Y6) M ?_;clear H;rintro v70 g4 L70 a w ⟨bl,bi,rfl,rfl,hbl⟩ ahR H;have H:=(St.Jm (A:=[_,_,_,_,_]) (B:=Ji ds) (H.perm uU));dsimp only [lca,bM] at H;have hit:=aoQ (l:=l) (id:=l[j].id) (bi:=bi) hbl (Y6.mono ahR) (akb hok);refine pW _ _ ?_;clear pW;refine AY ?_;skip;refine aox (B:=[(_,_)]) (ι:=Unit) (κ:=Int) (Lc:=[(_,_),(_,_)]) (fun (k:Nat) (gh:Unit)=>[(b9,.cells #[vi k] 3 (0,0)),(b2,.cells #[vi 0] 49 (0,0))]) (fun (k:Nat) (gh:Unit)=>(Ji ds++[])) (fun (k:Nat) (gh:Unit) (g:GH)=>k<=l.length) (fun (gx:Int)=>Code.ret) (fun (gx:Int)=>[(b9,.cells #[vi gx] 3 (0,0)),(b2,.cells #[vi 16] 49 (0,0))]) (fun (gx:Int)=>(Ji ds++[])) (fun (gx:Int) (g:GH)=>Wv l l[j]=true) (()) (by exact H.eD (Pl:=[_,_,_,_,_]) (dK:=[_,_,_,_,_]) [0,2,4,1,3] Z M) M afK (hit) (fun _ _ h=>h) (fun e i g h=>absurd (of_decide_eq_false e) (by rw [bK] at h;omega)) rfl (fun k args g h=>by obtain ⟨_,_,rfl,_⟩:=alv h;rfl) (fun _ _ _ _ _ h=>h) (fun _ _ _ _ h=>h) (kY _) ?_ ?_ ?_
  ·clear H;intro l21 Da zY bk k args gh Uw w21 F21 B21 a ahI CK hI avC awR axG H;obtain ⟨ahI,aEC,rfl,aFr⟩:=alv ahI;dsimp only [yP,List.cons_append,List.nil_append] at H;refine iD ?_;refine avC _ _ _ _ _ _ (by exact H) ?_;clear H;intro w H;refine kP H (SB (SR fun _ qR=>Ro aF 3 M (Rd M ?_)));clear H;intro a H;refine bJ aF 3 (vs:=[_]) H wn M ?_;clear H;intro w H;refine qR _ _ ?_;clear qR;refine kP H (SR fun _ vU=>Ro aF 3 M (Ro uf 2 M (Rl nE M (Rc M (Kz vU (Cd M ?_ ?_)))))) <;> clear H vU
   ·intro Iw a H
    try have Mg:=dT Iw
    refine cZ (fun _ tC=>?_);refine bJ jE 4 (vs:=[_]) H wn M ?_;clear H;intro w H;refine tC _ _ ?_;clear tC;refine eP ?_;refine (axG ((k:Int)+1) _ _ _ _ _ (by exact H) ?_).1 M;exact mY O
   intro Iw a H
   try have Mg:=dF Iw
   refine iD ?_;refine awR (()) _ _ _ _ _ (by exact H) ?_
   omega
  ·clear H;intro abg gh abk a w CK hI H;dsimp only [lca,bM] at H;refine pQ _ _ ?_;clear pQ;refine kP H (SC (Rd M (Rm M ?_)));clear H;intro a H;refine aD ?_;refine aze ((j+1,abk,abg :: ds)) (by exact (H.eD (Pl:=[_,_,_,_,_]) (dK:=[_,_,_]) [4,2,0] Z M).sub ⟨M,M,M,M,M,aC⟩) ?_ ?_
   ·(try dsimp only);exact ⟨O,abE hj2 hnc (qE (by rw [bK] at hI;omega)),fun b o h=>CK b o (ahR b o (rC b o h))⟩
   first|omega|(dsimp only;omega)
  clear H;intro abg x abk a w CK hI H;dsimp only [lca,bM] at H;refine eP ?_;refine (Je H 0 M ?_).1;clear H;intro a w H;dsimp only [List.eraseIdx_cons_succ,List.eraseIdx_cons_zero] at H;refine (ZA (Lh:=[_,_,_,_]) _ H ?_).1;clear H;intro a w H;dsimp only [lca,bM] at H;refine (leave1 H results119 (.cons (Gn jE H M (H.hp.uN 3 M M)) .nil) ?_).1
  exact Qk
 intro h64 a H
 try have p64:=dF h64
 refine dY ?_;refine mE _ _ ?_;clear mE;refine cZ (fun _ xL=>?_);refine bJ jE 0 (vs:=[_]) H wn M ?_;clear H;intro w H;refine xL _ _ ?_;clear xL;refine eP ?_;refine (ZA (Lh:=[_,_]) _ H ?_).1;clear H;intro a w H;dsimp only [lca,bM] at H;refine (leave1 H results119 (.cons (Gn jE H M (H.hp.uN 0 M M)) .nil) ?_).1
 exact Qk
theorem zJ:Ty prog 34 1 24 [.slice none 0 0] false:=⟨V,V⟩
theorem xI:prog.underlying 34=some (.slice 110):=by kernel_rfl
theorem BP:Ty prog 110 2 32 [.string ⟨#[]⟩,.string ⟨#[]⟩] true:=⟨V,V⟩
theorem KG:dR prog 110 0 0:=⟨V⟩
theorem afF:aR 192:=aS func192 M
theorem agm:dR prog 110 1 1:=⟨V⟩
theorem KI:dR prog 36 0 0:=⟨V⟩
theorem aqz:aR 119:=aS func119 M
theorem KJ:dR prog 36 1 1:=⟨V⟩
theorem aqA:aR 120:=aS func120 M
theorem Xd:dR prog 36 2 2:=⟨V⟩
theorem aqB:aR 121:=aS func121 M
theorem Xe:dR prog 36 3 3:=⟨V⟩
theorem aqC:aR 122:=aS func122 M
theorem arD:aR 191:=aS func191 M
theorem amd {G:GH} {l:List nJ} {A:Option Addr} {n c k:Nat} (hv:av G (.sl 2 (l.map nJ.dat)) (.slice A n c)) (hk:k < l.length):∃ b o,A=some ⟨b,o,none⟩∧(∀ j u,l[k].cells[j]?=some u->aI G b (o+k*2+j)=some u):=by
 obtain ⟨A',c',he,_,_,hg⟩:=hv.slice
 injection he with e1 e2 e3
 subst e1;obtain ⟨b,o,cs,h1,h2,h3,h4⟩:=hg k l[k].dat (by simp [hk]);have:=aDN h4;subst this;exact Hu
def amc (k:Nat) (x:nJ) (pn:ByteArray):Int:=eG [dH (!xV x.name) 13,dH (decide (0 < (k:Int)) && (x.name.toList == pn.toList)) 7,dH (decide (0 < (k:Int)) && Op.bytesLess x.name.toList pn.toList) 6,EF x.value]
def MH (l:List nJ) (k:Nat):Int:=match l[k]? with|some x=>amc k x ((l[k - 1]?.map nJ.name).getD ⟨#[]⟩)|none=>0
theorem Ql {p:Prop} (h:p:=by
 exact fin H iJ (iP (by first|(rw [mY c0,E9];done)|(rw [qE c0,Hq];done)))):p:=h
theorem Nc {p:Prop} (h:p:=by
 clear H;intro a H;exact abU):p:=h
theorem adS {p:Prop} (h:p:=by
 refine iO 4 8 M M fun _ a w G1 hG HT H fin=>?_;refine s_call afF H wn M (aeW _ _ H.ro x.name hte.1) M ?_;clear H;rintro v9 G9 a w ⟨rfl,-⟩ auW H;exact fin H auW (rfl)):p:=h
theorem adT {p:Prop} (h:p:=by
 refine iO 48 52 M M fun _ a w G1 hG HT H fin=>?_;refine s_call afE H wn M (alD _ _ H.ro x.value hte.2) M ?_;clear H;rintro v53 G53 a w rfl XW H;exact fin H XW (rfl)):p:=h
theorem adU {p:Prop} (h:p:=by
 refine iO 24 28 M M fun _ a w G1 hG HT H fin=>?_;refine s_call mZ H wn M (nG _ _ H.ro _ 7) M ?_;clear H;rintro v29 G29 a w ⟨rfl,-⟩ auF H;exact fin H auF (rfl)):p:=h
theorem adV {p:Prop} (h:p:=by
 refine iO 42 46 M M fun _ a w G1 hG HT H fin=>?_;refine s_call mZ H wn M (nG _ _ H.ro _ 6) M ?_;clear H;rintro v47 G47 a w ⟨rfl,-⟩ auN H;exact fin H auN (rfl)):p:=h
theorem adX {p:Prop} (h:p:=by
 refine iO 6 10 M M fun _ a w G1 hG HT H fin=>?_;refine s_call mZ H wn M (nG _ _ H.ro _ 13) M ?_;clear H;rintro v11 yM a w ⟨rfl,-⟩ tQ H;exact acg):p:=h
set_option maxHeartbeats 2000000 in
theorem aDM {G:GH} {bl:Nat} {l:List nJ} {A:Option Addr} {n c:Nat} (hb:aI G bl 0=some (.slice A n c)) (hv:av G (.sl 2 (l.map nJ.dat)) (.slice A n c)) (hl:l.length<=4294967296) (ht:∀ x∈l,x.name.size < 4611686018427387904∧x.value.size < 4611686018427387904):vT (.func (.func 191) #[] #[(aH bl 0)]) G l.length (MH l):=by
 intro k hk G1 w0 hm hG;refine kD (caps:=[(aH bl 0)]) arD ?_;replace hb:=aG hm hb;replace hv:=hv.mono hm
 obtain rfl:n=l.length:=by have:=hv.len;simpa using this
 obtain ⟨b,o,rfl,hrow⟩:=amd hv hk
 have hk1:k - 1 < l.length:=by omega
 obtain ⟨b',o',he',hrow'⟩:=amd hv hk1
 injection he' with he'
 injection he' with e1 e2
 subst e1;subst e2;have hte:=ht _ (jS hk)
 have he:MH l k=amc k l[k] l[k - 1].name:=by unfold MH;rw [eB hk,eB hk1];rfl
 obtain ⟨x,hx⟩:∃ x,x=l[k]:=⟨_,M⟩;obtain ⟨y,hy⟩:∃ y,y=l[k - 1]:=⟨_,M⟩;rw [<- hx] at hrow hte he;rw [<- hy] at hrow' he;refine eN [(0,_),(1,_)] func191 M ntmps191 M M hG ?_;intro a H;refine kP H (SR fun _ K1=>aj K1 M (SQ fun _ K2=>?_));clear H K1;intro a H;have H:=H.sub (T':=[(0,_),(1,_)]) ⟨M,M,aC⟩
 by_cases c0:0 < (k:Int)
 ·skip;refine dI hmx [[],[],[0,1],[0,1,2],ra 0 4,ra 0 5,ra 0 6,ra 0 7,[],[8],ra 0 10,ra 0 11,ra 0 11,ra 0 13,ra 0 14,ra 0 15,ra 0 11,ra 0 11,(ra 0 11++[17]),(ra 0 11++[17,18]),(ra 0 11++ra 16 4),(ra 0 11++ra 16 5),(ra 0 11++ra 16 6),ra 0 23,ra 0 24,ra 0 25,[],[26],ra 0 28,ra 0 29,ra 0 29,ra 0 31,ra 0 32,ra 0 33,ra 0 29,ra 0 29,(ra 0 29++[35]),(ra 0 29++[35,36]),(ra 0 29++ra 34 4),(ra 0 29++ra 34 5),(ra 0 29++ra 34 6),ra 0 41,ra 0 42,ra 0 43,[],[],[44,45],[44,45,46],ra 44 4,ra 0 49,ra 0 50,ra 0 51,ra 0 52] [50,51,52] V [_,_,_,_,_,.bool (xV x.name),_,vi (dH (!xV x.name) 13),_,_,_,_,_,_,_,_,_,_,vi ((max k 1:Nat):Int),vi ((k - 1:Nat):Int),_,_,_,.bool (x.name.toList == y.name.toList),.bool (decide (0 < (k:Int)) && (x.name.toList == y.name.toList)),vi (dH (decide (0 < (k:Int)) && (x.name.toList == y.name.toList)) 7),_,_,_,_,_,_,_,_,_,_,vi ((max k 1:Nat):Int),vi ((k - 1:Nat):Int),_,_,_,.bool (Op.bytesLess x.name.toList y.name.toList),.bool (decide (0 < (k:Int)) && Op.bytesLess x.name.toList y.name.toList),vi (dH (decide (0 < (k:Int)) && Op.bytesLess x.name.toList y.name.toList) 6),_,_,_,_,_,vi (EF x.value)] H (aB (X0 M fun hG=>Rg zJ M (aG hG hb)) (Z0 M (Rm M)) (Z2 0 4 1 5 M (Ri xI BP M M)) (Z1 2 6 M (Rf KG M)) (aB (X1 3 7 M fun hG=>Rg jf M (aG hG (hrow 0 _ M))) ?_ (Z1 5 9 M (Rn M)) ?_ (aB (Z0 M (Rm M)) (Z1 8 12 M (Rc M)) (Z1 9 13 M (Rm M)) (X1 10 14 M fun hG=>YR zJ (aJ c0) M (aG hG hb)) (aB (Z1 10 14 M (YM (aJ c0) M)) (Z3 11 15 12 16 10 14 M (YI xI BP (aJ c0) M M)) (Z2 13 17 10 14 M (YF KG (aJ c0) M)) (X2 14 18 10 14 M fun hG=>YR jf (aJ c0) M (aG hG (hrow 0 _ M))) (aB (X1 10 14 M fun hG=>YR zJ (aJ c0) M (aG hG hb)) (Z1 10 14 M (YM (aJ c0) M)) ?_ ?_ (aB (Z3 16 20 19 23 10 14 M (YI xI BP (aJ c0) M M)) (Z2 20 24 10 14 M (YF KG (aJ c0) M)) (X2 21 25 10 14 M fun hG=>YR jf (aJ c0) M (aG hG (hrow' 0 _ M))) ?_ (aB ?_ ?_ (Z0 M (Rm M)) (Z1 26 30 M (Rc M)) (aB (Z1 27 31 M (Rm M)) (X1 28 32 M fun hG=>YR zJ (aJ c0) M (aG hG hb)) (Z1 28 32 M (YM (aJ c0) M)) (Z3 29 33 30 34 28 32 M (YI xI BP (aJ c0) M M)) (aB (Z2 31 35 28 32 M (YF KG (aJ c0) M)) (X2 32 36 28 32 M fun hG=>YR jf (aJ c0) M (aG hG (hrow 0 _ M))) (X1 28 32 M fun hG=>YR zJ (aJ c0) M (aG hG hb)) (Z1 28 32 M (YM (aJ c0) M)) (aB ?_ ?_ (Z3 34 38 37 41 28 32 M (YI xI BP (aJ c0) M M)) (Z2 38 42 28 32 M (YF KG (aJ c0) M)) (aB (X2 39 43 28 32 M fun hG=>YR jf (aJ c0) M (aG hG (hrow' 0 _ M))) ?_ ?_ ?_ (aB (X0 M fun hG=>Rg zJ M (aG hG hb)) (Z0 M (Rm M)) (Z2 44 48 45 49 M (Ri xI BP M M)) (Z1 46 50 M (Rf agm M)) (aB (X1 47 51 M fun hG=>Rg jf M (aG hG (hrow 1 _ M))) ?_ (bS M) (bS M) (bN (bS M) dz)))))))))))))) ?_
  ·exact adS
  ·exact adX
  ·refine eT 17 21 10 14 M M fun _ a w G1 hG HT H fin=>?_;refine TN H (wg H M M (aJ c0)) M M M ?_;exact Nc
  ·refine eT 18 22 10 14 M M fun _ a w G1 hG HT H fin=>?_;exact zX
  ·refine zS 15 19 22 26 10 14 M M fun _ a w G1 hG HT H fin=>?_;refine Gp H (wg H M M (aJ c0)) M M M ?_;exact jH
  ·refine eT 10 14 23 27 M M fun _ a w G1 hG HT H fin=>?_;refine kH H (Pt (aJ c0) M ?_);clear H;intro a H;exact Ql
  ·exact adU
  ·refine eT 35 39 28 32 M M fun _ a w G1 hG HT H fin=>?_;refine TN H (wg H M M (aJ c0)) M M M ?_;exact Nc
  ·refine eT 36 40 28 32 M M fun _ a w G1 hG HT H fin=>?_;exact zX
  ·refine zS 33 37 40 44 28 32 M M fun _ a w G1 hG HT H fin=>?_;refine aBV H (wg H M M (aJ c0)) M M M ?_;exact jH
  ·refine eT 28 32 41 45 M M fun _ a w G1 hG HT H fin=>?_;refine kH H (Pt (aJ c0) M ?_);clear H;intro a H;exact Ql
  ·exact adV
  ·exact adT
  clear H;intro a w G nO H hv;have H:=H.aM (hv 7 11 M M) M;have H:=H.aM (hv 25 29 M M) M;have H:=H.aM (hv 43 47 M M) M;have H:=H.aM (hv 49 53 M M) M;clear hv;refine iV sH jE [_,_,_,_] [_,_,_,_] H wn M M M M M (by intro i q h;match i,h with|0,h=>exact h|1,h=>exact h|2,h=>exact h|3,h=>exact h|n+4,h=>simp at h) M M ?_;clear H;intro Cn a w ahw H;obtain ⟨G54,awH,X5,H⟩:=H.fU;refine s_call tK H wn M (tN _ _ H.ro _ _ (Ja [dH (!xV x.name) 13,dH (decide (0 < (k:Int)) && (x.name.toList == y.name.toList)) 7,dH (decide (0 < (k:Int)) && Op.bytesLess x.name.toList y.name.toList) 6,EF x.value] X5 (show 4<=maxLen by decide))) rfl ?_;clear H;rintro v55 _ a w ⟨rfl,rfl⟩ - H;refine kH H (Ra M ?_);clear H;intro a H;refine aD ⟨M,?_⟩;refine K2 _ _ ?_;clear K2;refine lr H results191 M ?_;exact H.rt (by rw [he];rfl)
 skip;refine dI hmx [[],[],[0,1],[0,1,2],ra 0 4,ra 0 5,ra 0 6,ra 0 7,[],[8],ra 0 10,ra 0 11,ra 0 11,ra 0 13,ra 0 14,ra 0 15,ra 0 11,ra 0 11,(ra 0 11++[17]),(ra 0 11++[17,18]),(ra 0 11++ra 16 4),(ra 0 11++ra 16 5),(ra 0 11++ra 16 6),ra 0 23,ra 0 24,ra 0 25,[],[26],ra 0 28,ra 0 29,ra 0 29,ra 0 31,ra 0 32,ra 0 33,ra 0 29,ra 0 29,(ra 0 29++[35]),(ra 0 29++[35,36]),(ra 0 29++ra 34 4),(ra 0 29++ra 34 5),(ra 0 29++ra 34 6),ra 0 41,ra 0 42,ra 0 43,[],[],[44,45],[44,45,46],ra 44 4,ra 0 49,ra 0 50,ra 0 51,ra 0 52] [50,51,52] V [_,_,_,_,_,.bool (xV x.name),_,vi (dH (!xV x.name) 13),_,_,_,undef,undef,undef,undef,undef,undef,undef,undef,undef,undef,undef,undef,undef,.bool (decide (0 < (k:Int)) && (x.name.toList == y.name.toList)),vi (dH (decide (0 < (k:Int)) && (x.name.toList == y.name.toList)) 7),_,_,_,undef,undef,undef,undef,undef,undef,undef,undef,undef,undef,undef,undef,undef,.bool (decide (0 < (k:Int)) && Op.bytesLess x.name.toList y.name.toList),vi (dH (decide (0 < (k:Int)) && Op.bytesLess x.name.toList y.name.toList) 6),_,_,_,_,_,vi (EF x.value)] H (aB (X0 M fun hG=>Rg zJ M (aG hG hb)) (Z0 M (Rm M)) (Z2 0 4 1 5 M (Ri xI BP M M)) (Z1 2 6 M (Rf KG M)) (aB (X1 3 7 M fun hG=>Rg jf M (aG hG (hrow 0 _ M))) ?_ (Z1 5 9 M (Rn M)) ?_ (aB (Z0 M (Rm M)) (Z1 8 12 M (Rc M)) (Z1 9 13 M (Rm M)) (aZ 10 (aY c0) M M) (aB (aZ 10 (aY c0) M M) (aZ 10 (aY c0) M M) (aZ 10 (aY c0) M M) (aZ 10 (aY c0) M M) (aB (aZ 10 (aY c0) M M) (aZ 10 (aY c0) M M) (aZ 10 (aY c0) M M) (aZ 10 (aY c0) M M) (aB (aZ 10 (aY c0) M M) (aZ 10 (aY c0) M M) (aZ 10 (aY c0) M M) (aZ 10 (aY c0) M M) (aB ?_ ?_ (Z0 M (Rm M)) (Z1 26 30 M (Rc M)) (aB (Z1 27 31 M (Rm M)) (aZ 28 (aY c0) M M) (aZ 28 (aY c0) M M) (aZ 28 (aY c0) M M) (aB (aZ 28 (aY c0) M M) (aZ 28 (aY c0) M M) (aZ 28 (aY c0) M M) (aZ 28 (aY c0) M M) (aB (aZ 28 (aY c0) M M) (aZ 28 (aY c0) M M) (aZ 28 (aY c0) M M) (aZ 28 (aY c0) M M) (aB (aZ 28 (aY c0) M M) (aZ 28 (aY c0) M M) ?_ ?_ (aB (X0 M fun hG=>Rg zJ M (aG hG hb)) (Z0 M (Rm M)) (Z2 44 48 45 49 M (Ri xI BP M M)) (Z1 46 50 M (Rf agm M)) (aB (X1 47 51 M fun hG=>Rg jf M (aG hG (hrow 1 _ M))) ?_ (bS M) (bS M) (bN (bS M) dz)))))))))))))) ?_
 ·exact adS
 ·exact adX
 ·refine eT 10 14 23 27 M M fun _ a w G1 hG HT H fin=>?_;refine kH H (Pf (aY c0) M ?_);clear H;intro a H;exact Ql
 ·exact adU
 ·refine eT 28 32 41 45 M M fun _ a w G1 hG HT H fin=>?_;refine kH H (Pf (aY c0) M ?_);clear H;intro a H;exact Ql
 ·exact adV
 ·exact adT
 clear H;intro a w G nO H hv;have H:=H.aM (hv 7 11 M M) M;have H:=H.aM (hv 25 29 M M) M;have H:=H.aM (hv 43 47 M M) M;have H:=H.aM (hv 49 53 M M) M;clear hv;refine iV sH jE [_,_,_,_] [_,_,_,_] H wn M M M M M (by intro i q h;match i,h with|0,h=>exact h|1,h=>exact h|2,h=>exact h|3,h=>exact h|n+4,h=>simp at h) M M ?_;clear H;intro Cn a w ahw H;obtain ⟨G54,awH,X5,H⟩:=H.fU;refine s_call tK H wn M (tN _ _ H.ro _ _ (Ja [dH (!xV x.name) 13,dH (decide (0 < (k:Int)) && (x.name.toList == y.name.toList)) 7,dH (decide (0 < (k:Int)) && Op.bytesLess x.name.toList y.name.toList) 6,EF x.value] X5 (show 4<=maxLen by decide))) rfl ?_;clear H;rintro v55 _ a w ⟨rfl,rfl⟩ - H;refine kH H (Ra M ?_);clear H;intro a H;refine aD ⟨M,?_⟩;refine K2 _ _ ?_;clear K2;refine lr H results191 M ?_;exact H.rt (by rw [he];rfl)
def QH (l:List nJ):Int:=eG [dH (decide (128 < (l.length:Int))) 9,lF (MH l) (min l.length 128)]
theorem aoY (G:GH) (w0:World) (hG:Hold G w0) (l:List nJ) (v:ah) (hv:av G (.sl 2 (l.map nJ.dat)) v) (hl:l.length<=4294967296) (ht:∀ x∈l,x.name.size < 4611686018427387904∧x.value.size < 4611686018427387904) :
  Calls prog 122 #[v] w0 (bE w0 G fun u G'=>u=vi (QH l)):=by
 obtain ⟨A,c,rfl,hc1,hc2,-⟩:=hv.slice;rw [bK] at *;refine eN [(0,_)] func122 M ntmps122 M M hG ?_;intro a H;refine cZ (fun _ K1=>?_);refine dZ (cs:=[_]) H wn M M M ?_;clear H;intro b1 a w hb1 H;refine kH H (aj K1 M (SQ fun _ K2=>?_));clear H K1;intro a H;have H:=H.sub (T':=[(1,_)]) ⟨M,aC⟩;obtain ⟨Ga,hma,hb1',H⟩:=H.fU
 have hbl:aI Ga b1 0=some (.slice A l.length c):=by unfold aI;rw [hb1'];rfl
 have hcb:=aDM hbl (hv.mono hma) hl ht;refine dI hmx [[],[0],[0,1],[0,1,2],[],[4],[4,5],[],ra 0 8,ra 0 9,ra 0 10,ra 0 11] [9,10,11] V [_,_,_,vi (dH (decide (128 < (l.length:Int))) 9),_,_,vi ((min l.length 128:Nat):Int),.func (.func 191) #[] #[(aH b1 0)],vi (lF (MH l) (min l.length 128))] H (aB (X0 M fun hG=>Rg zJ M (aG hG hbl)) (Z1 0 3 M (Rl xI M)) (Z1 1 4 M (Rc M)) ?_ (aB (X0 M fun hG=>Rg zJ M (aG hG hbl)) (Z1 4 7 M (Rl xI M)) ?_ ?_ (aB ?_ (bS M) (bS M) (bS M) dz))) ?_
 ·exact Qt
 ·exact Qw
 ·exact Hz
 ·refine eT 6 9 7 10 M M fun _ a w G1 hG HT H fin=>?_;refine s_call KF H wn M (MX _ _ H.ro (min l.length 128) (MH l) _ O ((hcb.mono hG).le (Nat.min_le_left _ _))) M ?_;exact Nh
 clear H;intro a w G nO H hv;have H:=H.aM (hv 3 6 M M) M;have H:=H.aM (hv 8 11 M M) M;clear hv;refine iV sH jE [_,_] [_,_] H wn M M M M M (by intro i q h;match i,h with|0,h=>exact h|1,h=>exact h|n+2,h=>simp at h) M M ?_;clear H;intro b12 a w IC H;obtain ⟨EM,Eh,IE,H⟩:=H.fU;refine s_call tK H wn M (tN _ _ H.ro _ _ (Aq IE)) M ?_;clear H;rintro v13 _ a w ⟨rfl,rfl⟩ - H;refine kH H (Ra M ?_);clear H;intro a H;refine aD ⟨M,?_⟩;refine K2 _ _ ?_;clear K2;refine lr H results122 M ?_;exact yR
structure Ch where
 styles:List cK
 lists:List fT
 comments:List jq
 vars:List nJ
structure AO (G:GH) (s:Ch) (a b c d:ah):Prop where
 st:av G (.sl 6 (s.styles.map cK.dat)) a
 li:av G (.sl 2 (s.lists.map fT.dat)) b
 cm:av G (.sl 6 (s.comments.map jq.dat)) c
 va:av G (.sl 2 (s.vars.map nJ.dat)) d
structure U0 (s:Ch):Prop where
 sn:∀ x∈s.styles,x.name.size<=4611686018427387904
 ln:s.lists.length<=4294967296
 lt:∀ x∈s.lists,∀ y∈x.levels,y.BN.size < 4611686018427387904
 cn:s.comments.length<=4294967296
 ct:∀ x∈s.comments,x.author.size < 4611686018427387904∧x.text.size < 4611686018427387904
 vn:s.vars.length<=4294967296
 vt:∀ x∈s.vars,x.name.size < 4611686018427387904∧x.value.size < 4611686018427387904
 pl:∀ x∈s.styles,x.props.length<=4294967296
 ll:∀ x∈s.lists,x.levels.length<=4294967296
def Nj (s:Ch):Int:=eG [A9 s.styles,Ni s.lists,QG s.comments,QH s.vars]
theorem aoX (G:GH) (w0:World) (hG:Hold G w0) (s:Ch) (a b c d:ah) (hR:AO G s a b c d) (hz:U0 s) :
  Calls prog 67 #[.agg #[a,b,c,d]] w0 (bE w0 G fun u G'=>u=vi (Nj s)):=by
 obtain ⟨sA,sn,sc,rfl⟩:=hR.st.form;obtain ⟨lA,ln,lc,rfl⟩:=hR.li.form;obtain ⟨cA,cn,cc,rfl⟩:=hR.cm.form;obtain ⟨vA,vn,vc,rfl⟩:=hR.va.form;refine eN [(0,_)] func67 M ntmps67 M M hG ?_;intro a H;refine cZ (fun _ K1=>?_);refine dZ (cs:=[_,_,_,_]) H wn M M M ?_;clear H;intro b1 a w hb1 H;refine kH H (aj K1 M (SQ fun _ K2=>?_));clear H K1;intro a H;have H:=H.sub (T':=[(1,_)]) ⟨M,aC⟩;obtain ⟨Ga,hma,hb1',H⟩:=H.fU
 have hc0:aI Ga b1 0=some (.slice sA sn sc):=by unfold aI;rw [hb1'];rfl
 have hc1:aI Ga b1 1=some (.slice lA ln lc):=by unfold aI;rw [hb1'];rfl
 have hc2:aI Ga b1 2=some (.slice cA cn cc):=by unfold aI;rw [hb1'];rfl
 have hc3:aI Ga b1 3=some (.slice vA vn vc):=by unfold aI;rw [hb1'];rfl
 refine dI hmx [[],[0],[0,1],[],[3],ra 0 5,[],[6],ra 0 8,[],[9],ra 0 11,ra 0 12,ra 0 13,ra 0 14] [12,13,14] V [_,_,vi (A9 s.styles),_,_,vi (Ni s.lists),_,_,vi (QG s.comments),_,_,vi (QH s.vars)] H (aB (Z0 M (Rf KI M)) (X1 0 3 M fun hG=>Rg uf M (aG hG hc0)) ?_ (Z0 M (Rf KJ M)) (aB (X1 3 6 M fun hG=>Rg Dr M (aG hG hc1)) ?_ (Z0 M (Rf Xd M)) (X1 6 9 M fun hG=>Rg GA M (aG hG hc2)) (aB ?_ (Z0 M (Rf Xe M)) (X1 9 12 M fun hG=>Rg zJ M (aG hG hc3)) ?_ (bN (bS M) (bN (bS M) (bN (bS M) dz)))))) ?_
 ·refine iO 1 4 M M fun _ a w G1 hG HT H fin=>?_;refine s_call aqz H wn M (apa _ _ H.ro s.styles _ ((hR.st.mono hma).mono hG) hz.sn) M ?_;clear H;rintro v5 G5 a w rfl rz H;exact fin H rz (rfl)
 ·refine iO 4 7 M M fun _ a w G1 hG HT H fin=>?_;refine s_call aqA H wn M (aoV _ _ H.ro s.lists _ ((hR.li.mono hma).mono hG) hz.ln hz.lt) M ?_;clear H;rintro v8 G8 a w rfl wz H;exact fin H wz (rfl)
 ·refine iO 7 10 M M fun _ a w G1 hG HT H fin=>?_;refine s_call aqB H wn M (aoT _ _ H.ro s.comments _ ((hR.cm.mono hma).mono hG) hz.cn hz.ct) M ?_;exact Nh
 ·refine iO 10 13 M M fun _ a w G1 hG HT H fin=>?_;refine s_call aqC H wn M (aoY _ _ H.ro s.vars _ ((hR.va.mono hma).mono hG) hz.vn hz.vt) M ?_;clear H;rintro v14 EN a w rfl Bo H;exact fin H Bo (rfl)
 clear H;intro a w G nO H hv;have H:=H.aM (hv 2 5 M M) M;have H:=H.aM (hv 5 8 M M) M;have H:=H.aM (hv 8 11 M M) M;have H:=H.aM (hv 11 14 M M) M;clear hv;refine iV sH jE [_,_,_,_] [_,_,_,_] H wn M M M M M (by intro i q h;match i,h with|0,h=>exact h|1,h=>exact h|2,h=>exact h|3,h=>exact h|n+4,h=>simp at h) M M ?_;clear H;intro b15 a w avn H;obtain ⟨GN,Ej,avo,H⟩:=H.fU;refine s_call tK H wn M (tN _ _ H.ro _ _ (Ja [A9 s.styles,Ni s.lists,QG s.comments,QH s.vars] avo (show 4<=maxLen by decide))) rfl ?_;clear H;rintro v16 _ a w ⟨rfl,rfl⟩ - H;refine kH H (Ra M ?_);clear H;intro a H;refine aD ⟨M,?_⟩;refine K2 _ _ ?_;clear K2;refine lr H results67 M ?_;exact yR
section
def jw:Nat->List (Int × ah)->List MapEntry
 | _,[]=>[]
 | i,(k,v) :: r=>⟨.int .i64 k,v,i⟩ :: jw (i+1) r
theorem ajw (x:Int × ah):∀ (i:Nat) (l:List (Int × ah)),jw i (l++[x])=jw i l++[⟨.int .i64 x.1,x.2,i+l.length⟩]
 | _,[]=>rfl
 | i,k :: r=>by
  rw [pR,jw,ajw x (i+1) r,jw,pR,kR,show i+1+r.length=i+(r.length+1) by omega]
def wG (x:Int):List (Int × ah)->Option ah
 | []=>none
 | (k,v) :: r=>if k=x then some v else wG x r
theorem OO {x:Int}:∀ {l:List (Int × ah)},x∉l.map (·.1)->wG x l=none
 | [],_=>rfl
 | (k,v) :: r,h=>by
  rw [wG,au (fun e=>h (by simp [e])),OO (fun hm=>h (gI _ hm))]
theorem Xh (x:Int):∀ (i j:Nat) (l:List (Int × ah)),∃ an,Instr.findNow (.int .i64) (.int .i64 x) (jw i l) j=some an∧an.map (·.2)=wG x l
 | _,_,[]=>⟨none,M,M⟩
 | i,j,(k,v) :: r=>by
  obtain ⟨an,h1,h2⟩:=Xh x (i+1) (j+1) r
  by_cases e:k=x
  ·subst e
   exact ⟨some (j,v),by simp only [jw,Instr.findNow,Instr.sameNow,ay,beq_self_eq_true],by rw [wG,ay M];rfl⟩
  ·have hb:(x == k)=false:=by simp;exact fun h=>e h.symm
   exact ⟨an,by simpa only [jw,Instr.findNow,Instr.sameNow,ay,hb] using h1,by rw [wG,au e];exact h2⟩
abbrev fJ (l:List (Int × ah)):Obj:=.map (jw 0 l).toArray l.length
section
variable {N:Nat} {D:List Deferred} {w0:World} {F:Nat->Prop} {G0 G:GH} {L:OL} {T:List (Nat × ah)}
variable {r:Option Nat} {P:Program} {ops:Array Oper} {Q:Exit->Act->World->Prop} {rest:List Oper} {a:Act} {w:World}
variable {d:Nat} {ty:TypeId} {pos:String} {aL:Array Edge} {g:Option (Nat × Bool)}
theorem Dh {t kt et:TypeId} {x y:Operand} {b:Nat} {l:List (Int × ah)} {ky:Int} {zv:ah} (hm:P.underlying t=some (.map kt et)) (hk:P.underlying kt=some (.int .i64)) (hz:(P.info? et).map (fun i=>i.zero)=some (some zv)) (H:St N D w0 F G0 G L T a w)
  (hw:Region.wanted ⟨some d,.lookup t x y false,ty,pos,aL,g⟩ (yielded ops a.tmps)=true) (hx:ev T x=some (.map (some b))) (hy:ev T y=some (.int .i64 ky)) (hb:w.heap[b]?=some (fJ l)) (hd:Nat.blt d N=true)
  (k:∀ a',St N D w0 F G0 G L ((d,(wG ky l).getD zv) :: T) a' w->WL r P ops Q rest a' w):WL r P ops Q (⟨some d,.lookup t x y false,ty,pos,aL,g⟩ :: rest) a w:=by
 obtain ⟨an,hf,han⟩:=Xh ky 0 0 l
 obtain ⟨inf,hi1,hi2⟩:=oO.1 hz
 refine fI (v:=(wG ky l).getD zv) (w':=w) hw M ?_ (k _ (H.put hd _ H.hp))
 have hkey:MapKept.IsKey (.int .i64) (.int .i64 ky):=by trivial
 have hf2:Instr.findNow (.int .i64) (.int .i64 ky) (jw 0 l).toArray.toList 0=some an:=by simpa using hf
 replace hb:w.heap[b]?=some (.map (jw 0 l).toArray l.length):=hb
 generalize (jw 0 l).toArray=es at hb hf2
 have h1:=MapKept.run_checkKey (P:=P) (w:=w) hk hkey es.isEmpty 9999
 have h2:=MapKept.run_findKey (P:=P) (w:=w) hk hf2
 rw [<- han]
 cases an with
 | none=>simp [execOp,Instr.lookup,H.ev hx,H.ev hy,dP,nu hm,MapKept.run_getObj_map hb,h1,h2,Result.andThen,zeroValue,Gm hi1,hi2]
 | some q=>simp [execOp,Instr.lookup,H.ev hx,H.ev hy,dP,nu hm,MapKept.run_getObj_map hb,h1,h2,Result.andThen]
theorem O5 {t kt et:TypeId} {x y z:Operand} {b i:Nat} {l:List (Int × ah)} {ky:Int} {v:ah} (hm:P.underlying t=some (.map kt et)) (hk:P.underlying kt=some (.int .i64)) (H:St N D w0 F G0 G L T a w)
  (hw:Region.wanted ⟨none,.mapUpdate t x y z,ty,pos,aL,g⟩ (yielded ops a.tmps)=true) (hx:ev T x=some (.map (some b))) (hy:ev T y=some (.int .i64 ky)) (hzv:ev T z=some v) (hi:L[i]?=some (b,fJ l)) (hn:wG ky l=none)
  (k:∀ w',St N D w0 F G0 G (L.set i (b,fJ (l++[(ky,v)]))) T a w'->WL r P ops Q rest a w'):WL r P ops Q (⟨none,.mapUpdate t x y z,ty,pos,aL,g⟩ :: rest) a w:=by
 obtain ⟨an,hf,han⟩:=Xh ky 0 0 l
 have hnone:an=none:=by
  rw [hn] at han
  cases an with
  | none=>rfl
  | some q=>cases han
 subst hnone
 refine akT (i:=i) hm hk H hw hx hy hzv hi (by trivial) (by simpa using hf) ?_
 intro w' H'
 have e:(jw 0 l).toArray.push ⟨.int .i64 ky,v,l.length⟩=(jw 0 (l++[(ky,v)])).toArray:=by
  rw [ajw,List.push_toArray,gZ]
 refine k w' ?_
 rw [e] at H'
 rw [fJ,gF]
 exact H'
end
end
theorem zK:prog.underlying 131=some (.map 3 4):=by kernel_rfl
theorem qp:Ty prog 102 3 32 [.int .i64 0,.string ⟨#[]⟩,.int .i64 0] true:=⟨V,V⟩
theorem aCZ:qV prog 133 [(0,1),(1,1),(2,1),(3,1),(4,1),(5,1)] [.map none,.map none,.map none,.map none,.map none,.int .i64 0]:=⟨V,V⟩
theorem NJ:dR prog 38 3 7:=⟨V⟩
theorem ND:dR prog 133 0 0:=⟨V⟩
theorem Pg:Ty prog 130 1 8 [.map none] false:=⟨V,V⟩
theorem agn:dR prog 133 1 1:=⟨V⟩
theorem vJ:Ty prog 131 1 8 [.map none] false:=⟨V,V⟩
theorem Fq:dR prog 38 2 6:=⟨V⟩
theorem zI:Ty prog 30 1 24 [.slice none 0 0] false:=⟨V,V⟩
theorem qP:prog.underlying 30=some (.slice 102):=by kernel_rfl
theorem NG:dR prog 133 2 2:=⟨V⟩
theorem Xa:dR prog 102 0 0:=⟨V⟩
structure cB where
 id:Int
 author:ByteArray
 time:Int
def cB.dat (x:cB):List Dat:=[li x.id,.lf (.string x.author),li x.time]
abbrev cB.cells (x:cB):List ah:=[vi x.id,.string x.author,vi x.time]
theorem aap {G:GH} {x:cB} {cs:List ah} (h:aX G x.dat cs):cs=x.cells:=by
 simp only [cB.dat,aX,av] at h
 exact acY
theorem aao {G:GH} {l:List cB} {A:Option Addr} {n c k:Nat} (hv:av G (.sl 3 (l.map cB.dat)) (.slice A n c)) (hk:k < l.length):∃ b o,A=some ⟨b,o,none⟩∧(∀ j u,l[k].cells[j]?=some u->aI G b (o+k*3+j)=some u):=by
 obtain ⟨A',c',he,_,_,hg⟩:=hv.slice
 injection he with e1 e2 e3
 subst e1;obtain ⟨b,o,cs,h1,h2,h3,h4⟩:=hg k l[k].dat (by simp [hk]);have:=aap h4;subst this;exact Hu
abbrev iy (b ms ml mr mb mu:Nat) (n:Int):Nat × Obj:=(b,.cells #[.map (some ms),.map (some ml),.map (some mr),.map (some mb),.map (some mu),vi n] 133 (0,0))
def BD (l:List cK):List (Int × ah):=l.map fun s=>(s.id,vi s.kind)
def gJ (l:List Int):List (Int × ah):=l.map fun k=>(k,.bool true)
structure xK (us:List Int) (G:GH) (st:List cK) (li:List fT) (rv:List cB) (ms ml mr mu:Nat):Prop where
 sty:G ms=some (fJ (BD st))
 nP:G ml=some (fJ (gJ (li.map fT.id)))
 rev:G mr=some (fJ (gJ (rv.map cB.id)))
 use:G mu=some (fJ (gJ us))
theorem xK.mono {us:List Int} {G G':GH} {st:List cK} {li:List fT} {rv:List cB} {ms ml mr mu:Nat} (h:xK us G st li rv ms ml mr mu) (hm:∀ b o,G b=some o->G' b=some o):xK us G' st li rv ms ml mr mu:=⟨hm _ _ h.sty,hm _ _ h.nP,hm _ _ h.rev,hm _ _ h.use⟩
structure Uu (G:GH) (st:List cK) (li:List fT) (rv:List cB) (ms ml mr:Nat):Prop where
 sty:G ms=some (fJ (BD st))
 nP:G ml=some (fJ (gJ (li.map fT.id)))
 rev:G mr=some (fJ (gJ (rv.map cB.id)))
theorem Uu.with {us:List Int} {G G':GH} {st:List cK} {li:List fT} {rv:List cB} {ms ml mr mu:Nat} (h:Uu G st li rv ms ml mr) (hm:∀ b o,G b=some o->G' b=some o) (hu:G' mu=some (fJ (gJ us))):xK us G' st li rv ms ml mr mu:=⟨hm _ _ h.sty,hm _ _ h.nP,hm _ _ h.rev,hu⟩
def Dz (l:List Int):Prop:=∀ (k:Nat) (h:k < l.length),l[k]∉l.take k
theorem azm {l:List cK} {k:Nat} (h:k < l.length):BD (l.take (k+1))=BD (l.take k)++[(l[k].id,vi l[k].kind)]:=by rw [BD,jK h,ji];rfl
theorem ajt {l:List Int} {k:Nat} (h:k < l.length):gJ (l.take (k+1))=gJ (l.take k)++[(l[k],.bool true)]:=by rw [gJ,jK h,ji];rfl
theorem azl {l:List cK} {k:Nat} (f:Dz (l.map cK.id)) (h:k < l.length):wG l[k].id (BD (l.take k))=none:=by
 refine OO ?_;have:=f k (by simpa using h)
 simpa [BD,List.map_take,List.map_map,Function.comp_def] using this
theorem ajs {l:List Int} {k:Nat} (f:Dz l) (h:k < l.length):wG l[k] (gJ (l.take k))=none:=by
 refine OO ?_;have:=f k h
 simpa [gJ,List.map_map,Function.comp_def] using this
theorem Qm {p:Prop} (h:p:=by
 exact ⟨kY _,fun _ _ h=>h⟩):p:=h
theorem azJ (G:GH) (w0:World) (hO:gq G [] w0) (D:kN) (st:List cK) (li:List fT) (rv:List cB) (hst:av G (.sl 6 (st.map cK.dat)) (dh D.s1)) (Ob:av G (.sl 2 (li.map fT.dat)) (dh D.s2)) (rF:av G (.sl 3 (rv.map cB.dat)) (dh D.r))
  (f1:Dz (st.map cK.id)) (f2:Dz (li.map fT.id)) (f3:Dz (rv.map cB.id)) (z1:st.length<=4294967296) (z2:li.length<=4294967296) (z3:rv.length<=4294967296) :
  Calls prog 69 #[D.val] w0 (fM w0 G [] fun u G' L'=>∃ b ms ml mr mb mu,u=(aH b 0)∧L'=[iy b ms ml mr mb mu 0,(mb,fJ []),(mu,fJ [])]∧Uu G' st li rv ms ml mr):=by
 obtain ⟨df,dp,dd,dy,⟨rA,rn,rc⟩,⟨sA,sn,sc⟩,⟨lA,ln,lc⟩,d3,d4,ins,mv⟩:=D;dsimp only at hst Ob rF
 obtain rfl:sn=st.length:=by have:=hst.len;simpa using this
 obtain rfl:ln=li.length:=by have:=Ob.len;simpa using this
 obtain rfl:rn=rv.length:=by have:=rF.len;simpa using this
 have hml:maxLen=9223372036854775807:=rfl;refine jc (N:=64) (T:=[(0,_)]) func69 M ntmps69 M M hO ?_;intro a H;refine cZ (fun _ K1=>?_);refine dZ (cs:=[_,_,_,_,_,_,_,_,_,_,_]) H wn M M M ?_;clear H;intro b1 a w hb1 H;refine kH H (aj K1 M (SQ fun _ K2=>?_));clear H K1;intro a H;obtain ⟨Ga,hma,hb1',H⟩:=H.fU
 have hc7:aI Ga b1 7=some (.slice sA st.length sc):=by unfold aI;rw [hb1'];rfl
 have hc8:aI Ga b1 8=some (.slice lA li.length lc):=by unfold aI;rw [hb1'];rfl
 have hc6:aI Ga b1 6=some (.slice rA rv.length rc):=by unfold aI;rw [hb1'];rfl
 replace hst:=hst.mono hma;replace Ob:=Ob.mono hma;replace rF:=rF.mono hma;refine oQ ?_;refine Jw H wn M ?_;clear H;intro b10 a w aht H;refine Jw H wn M ?_;clear H;intro b11 a w KV H;refine Jw H wn M ?_;clear H;intro b12 a w IC H;refine Jw H wn M ?_;clear H;intro b13 a w RJ H;refine Jw H wn M ?_;clear H;intro b14 a w XZ H;refine jM aCZ [_,_,_,_,_,_] H wn M M M M ?_;clear H;intro a H;refine dZ (cs:=[_,_,_,_,_,_]) H wn M M M ?_;clear H;intro b16 a w avp H;refine kH H (bF K2 M (SQ fun _ K3=>SR fun _ K4=>Rf NJ M (Rf KI M (Rg uf M (by assumption) ?_))));clear H K2;intro a H;refine kH H (Rl nE M (Rm M (Kz K4 (SB ?_))));clear H K4;intro a H;skip;refine fD (ι:=Nat × GH) (Tc:=[(1,_),(3,_),(19,_),(20,_)]) (Lc:=[(_,_),(_,_),(_,_),(_,_),(_,_)]) (fun gh=>[(21,vi gh.1)]) (fun gh=>[(b10,fJ (BD (st.take gh.1)))]) (fun gh=>gh.2) (fun gh=>gh.1<=st.length∧(∀ b o,Ga b=some o->gh.2 b=some o)) (fun gh=>st.length - gh.1) ((0,Ga)) (by exact H.sub ⟨M,M,M,M,M,aC⟩) ?_ ?_
 ·exact Qm
 clear H;rintro ⟨k,g1⟩ a w hI H;dsimp only at hI H;obtain ⟨hk,Ll⟩:=hI;dsimp only [lca,bM] at H;refine kP H (SR fun _ K5=>Rc M (Kz K5 (SQ fun _ K6=>Cd M ?_ ?_))) <;> clear H K5
 ·intro h22 a H
  try have nk:=dT h22
  have hk2:k < st.length:=by omega
  obtain ⟨xb,xo,pA,pc,rfl,hrow,-,-⟩:=EC (hst.mono Ll) hk2;have hnew:=azl f1 hk2;refine kP H (Kc K6 (SQ fun _ K7=>SB (SR fun _ K8=>Ri nE lM M M ?_)));clear H K6;intro a H;refine bQ lM (cs:=_) H wn M M (fun j v hj=>H.hp.aI (hrow j v hj)) M ?_;clear H;intro a H;refine dW lM H wn M ?_;clear H;intro b5 a w hb5 H;refine bJ lM 0 (vs:=[_,_,_,_,_,_]) H wn M ?_;clear H;intro w H;refine K8 _ _ ?_;clear K8;refine dI hmx [[],[0],[0,1],[0,1,2],[],[4],[],[6],ra 0 8] [8] V [_,_,_,.map (some b10),_,vi st[k].id,_,vi st[k].kind] H (aB (Z0 M (Rm M)) (Z1 0 25 M (Rk M)) (Z1 1 26 M (Rf ND M)) (Z1 2 27 M (Ro Pg 1 M)) (aB (Z0 M (Rf xX M)) (Z1 4 29 M (Ro aF 0 M)) (Z0 M (Rf Ae M)) (Z1 6 31 M (Ro aF 0 M)) (bN (bS M) dz))) ?_
  clear H;intro a w G rz H hv;have H:=H.aM (hv 3 28 M M) M;have H:=H.aM (hv 5 30 M M) M;have H:=H.aM (hv 7 32 M M) M;clear hv;refine O5 (i:=6) JE mX H wn M M M M hnew ?_;clear H;intro w H;dsimp only [List.set,List.append,lca,bM] at H;rw [<- azm hk2] at H;refine aD ⟨M,?_⟩;refine K7 _ _ ?_;clear K7;refine kP H (SC (Rd M (Rm M ?_)));clear H;intro a H;refine aD ?_;refine dQ ((k+1,G)) (by exact (H.eD (Pl:=[_,_,_,_,_,_,_]) (dK:=[_,_,_,_,_,_]) [1,2,3,4,5,6] Z M).sub ⟨M,M,M,M,M,aC⟩) ?_
  (try dsimp only);exact ⟨O,fun b o h=>rz b o (Ll b o h)⟩
 intro h22 a H
 try have nk:=dF h22
 obtain rfl:k=st.length:=by omega
 rw [uV] at H;have aE2:=aG Ll hc8;refine dY ?_;refine K3 _ _ ?_;clear K3;refine kP H (SQ fun _ K9=>SR fun _ aT=>Rf NJ M (Rf KJ M (Rg Dr M (by assumption) ?_)));clear H;intro a H;refine kH H (Rl yK M (Rm M (Kz aT (SB ?_))));clear H aT;intro a H;skip;refine fD (ι:=Nat × GH) (Tc:=[(1,_),(3,_),(36,_),(37,_)]) (Lc:=[(_,_),(_,_),(_,_),(_,_),(_,_)]) (fun gh=>[(38,vi gh.1)]) (fun gh=>[(b11,fJ (gJ ((li.map fT.id).take gh.1)))]) (fun gh=>gh.2) (fun gh=>gh.1<=li.length∧(∀ b o,g1 b=some o->gh.2 b=some o)) (fun gh=>li.length - gh.1) ((0,g1)) (by exact (H.eD (Pl:=[_,_,_,_,_,_]) (dK:=[_,_,_,_,_,_]) [0,1,2,3,5,4] Z M).sub ⟨M,M,M,M,M,aC⟩) ?_ ?_
 ·exact Qm
 clear H;rintro ⟨k,g2⟩ a w hI H;dsimp only at hI H;obtain ⟨hk,R6⟩:=hI;dsimp only [lca,bM] at H;refine kP H (SR fun _ bR=>Rc M (Kz bR (SQ fun _ cu=>Cd M ?_ ?_))) <;> clear H bR
 ·intro jU a H
  try have p39:=dT jU
  have hk2:k < li.length:=by omega
  obtain ⟨xb,xo,B,d,rfl,hrow,-⟩:=ZE ((Ob.mono Ll).mono R6) hk2
  have hk3:k < (li.map fT.id).length:=by simpa using hk2
  have hnew:=ajs f2 hk3
  have sU:(li.map fT.id)[k]=li[k].id:=by simp
  rw [sU] at hnew;refine kP H (Kc cu (SQ fun _ dw=>SB (SR fun _ dB=>Ri yK BS M M ?_)));clear H cu;intro a H;refine bQ BS (cs:=_) H wn M M (fun j v hj=>H.hp.aI (hrow j v hj)) M ?_;clear H;intro a H;refine dW BS H wn M ?_;clear H;intro b7 a w CB H;refine bJ BS 0 (vs:=[_,_]) H wn M ?_;clear H;intro w H;refine dB _ _ ?_;clear dB;refine dI hmx [[],[0],[0,1],[0,1,2],[],[4],ra 0 6] [6] V [_,_,_,.map (some b11),_,vi li[k].id] H (aB (Z0 M (Rm M)) (Z1 0 42 M (Rk M)) (Z1 1 43 M (Rf agn M)) (Z1 2 44 M (Ro vJ 1 M)) (bN (Z0 M (Rf agt M)) (bN (Z1 4 46 M (Ro aF 0 M)) (bN (bS M) dz)))) ?_
  clear H;intro a w G uD H hv;have H:=H.aM (hv 3 45 M M) M;have H:=H.aM (hv 5 47 M M) M;clear hv;refine O5 (i:=6) zK mX H wn M M M M hnew ?_;clear H;intro w H;dsimp only [List.set,List.append,lca,bM] at H;rw [<- sU,<- ajt hk3] at H;refine aD ⟨M,?_⟩;refine dw _ _ ?_;clear dw;refine kP H (SC (Rd M (Rm M ?_)));clear H;intro a H;refine aD ?_;refine dQ ((k+1,G)) (by exact (H.eD (Pl:=[_,_,_,_,_,_,_]) (dK:=[_,_,_,_,_,_]) [1,2,3,4,5,6] Z M).sub ⟨M,M,M,M,M,aC⟩) ?_
  (try dsimp only);exact ⟨O,fun b o h=>uD b o (R6 b o h)⟩
 intro jU a H
 try have p39:=dF jU
 obtain rfl:k=li.length:=by omega
 rw [nZ (by simp)] at H;have aE1:=aG R6 (aG Ll hc6);refine dY ?_;refine K9 _ _ ?_;clear K9;refine kP H (SQ fun _ dX=>SR fun _ eu=>Rf Fq M (Rg zI M (by assumption) ?_));clear H;intro a H;refine kH H (Rl qP M (Rm M (Kz eu (SB ?_))));clear H eu;intro a H;skip;refine fD (ι:=Nat × GH) (Tc:=[(3,_),(50,_),(51,_)]) (Lc:=[(_,_),(_,_),(_,_),(_,_),(_,_)]) (fun gh=>[(52,vi gh.1)]) (fun gh=>[(b12,fJ (gJ ((rv.map cB.id).take gh.1)))]) (fun gh=>gh.2) (fun gh=>gh.1<=rv.length∧(∀ b o,g2 b=some o->gh.2 b=some o)) (fun gh=>rv.length - gh.1) ((0,g2)) (by exact (H.eD (Pl:=[_,_,_,_,_,_]) (dK:=[_,_,_,_,_,_]) [0,1,2,4,5,3] Z M).sub ⟨M,M,M,M,aC⟩) ?_ ?_
 ·exact Qm
 clear H;rintro ⟨k,g3⟩ a w hI H;dsimp only at hI H;obtain ⟨hk,ahT⟩:=hI;dsimp only [lca,bM] at H;refine kP H (SR fun _ dN=>Rc M (Kz dN (SQ fun _ eO=>Cd M ?_ ?_))) <;> clear H dN
 ·intro Iq a H
  try have p53:=dT Iq
  have hk2:k < rv.length:=by omega
  obtain ⟨xb,xo,rfl,hrow⟩:=aao (((rF.mono Ll).mono R6).mono ahT) hk2
  have hk3:k < (rv.map cB.id).length:=by simpa using hk2
  have hnew:=ajs f3 hk3
  have sU:(rv.map cB.id)[k]=rv[k].id:=by simp
  rw [sU] at hnew;refine kP H (Kc eO (SQ fun _ gD=>SB (SR fun _ fF=>Ri qP qp M M ?_)));clear H eO;intro a H;refine bQ qp (cs:=_) H wn M M (fun j v hj=>H.hp.aI (hrow j v hj)) M ?_;clear H;intro a H;refine dW qp H wn M ?_;clear H;intro b9 a w CF H;refine bJ qp 0 (vs:=[_,_,_]) H wn M ?_;clear H;intro w H;refine fF _ _ ?_;clear fF;refine dI hmx [[],[0],[0,1],[0,1,2],[],[4],ra 0 6] [6] V [_,_,_,.map (some b12),_,vi rv[k].id] H (aB (Z0 M (Rm M)) (Z1 0 56 M (Rk M)) (Z1 1 57 M (Rf NG M)) (Z1 2 58 M (Ro vJ 1 M)) (bN (Z0 M (Rf Xa M)) (bN (Z1 4 60 M (Ro aF 0 M)) (bN (bS M) dz)))) ?_
  clear H;intro a w G Eb H hv;have H:=H.aM (hv 3 59 M M) M;have H:=H.aM (hv 5 61 M M) M;clear hv;refine O5 (i:=6) zK mX H wn M M M M hnew ?_;clear H;intro w H;dsimp only [List.set,List.append,lca,bM] at H;rw [<- sU,<- ajt hk3] at H;refine aD ⟨M,?_⟩;refine gD _ _ ?_;clear gD;refine kP H (SC (Rd M (Rm M ?_)));clear H;intro a H;refine aD ?_;refine dQ ((k+1,G)) (by exact (H.eD (Pl:=[_,_,_,_,_,_,_]) (dK:=[_,_,_,_,_,_]) [1,2,3,4,5,6] Z M).sub ⟨M,M,M,M,aC⟩) ?_
  (try dsimp only);exact ⟨O,fun b o h=>Eb b o (ahT b o h)⟩
 intro Iq a H
 try have p53:=dF Iq
 obtain rfl:k=rv.length:=by omega
 rw [nZ (by simp)] at H;refine dY ?_;refine dX _ _ ?_;clear dX;refine kP H (SR fun _ gK=>Rm M (aj gK M ?_));clear H gK;intro a H;refine eP ?_;have H:=H.eD (Pl:=[_,_,_,_,_,_]) (dK:=[_,_,_,_,_,_]) [3,4,5,0,2,1] Z M;obtain ⟨Gs,hms,hs,H⟩:=H.fU;obtain ⟨Gl,Yt,hl,H⟩:=H.fU;obtain ⟨Gr,hmr,hr,H⟩:=H.fU;refine lv H results69 M ?_;exact H.hp.gQ ⟨b16,b10,b11,b12,b13,b14,M,M,⟨hmr _ _ (Yt _ _ hs),hmr _ _ hl,hr⟩⟩
section
theorem atz:dR prog 133 4 4:=⟨V⟩
theorem agp:dR prog 133 3 3:=⟨V⟩
variable {us:List Int}
theorem Jg (x:Int):∀ l:List Int,(wG x (gJ l)).getD (.bool false)=.bool (decide (x∈l))
 | []=>rfl
 | k :: r=>by
  have ih:=Jg x r;rw [gJ,dO,wG]
  by_cases e:k=x
  ·subst e;simp
  rw [au e,show (r.map fun k=>(k,Value.bool true))=gJ r from rfl,ih]
  simp [show x≠k from fun h=>e h.symm]
def TS (st:List cK) (v:Int):Int:=((st.find? fun s=>decide (s.id=v)).map cK.kind).getD 0
theorem OP (x:Int):∀ l:List cK,(wG x (BD l)).getD (vi 0)=vi (TS l x)
 | []=>rfl
 | s :: r=>by
  have ih:=OP x r;rw [BD,dO,wG]
  by_cases e:s.id=x
  ·subst e;simp [TS]
  rw [au e,show (r.map fun s=>(s.id,vi s.kind))=BD r from rfl,ih]
  simp [TS,e]
def sj (us bO:List Int) (x:Int):Int:=if ¬ (1<=x∧x<=1073741824)∨x∈us then 18 else if x∈bO then 7 else 0
def oq (us bO:List Int) (x:Int):List Int:=if sj us bO x=0 then bO++[x] else bO
theorem azk (l:List Int) (x:Int):gJ (l++[x])=gJ l++[(x,.bool true)]:=by simp [gJ]
theorem acj {p:Prop} (h:p:=by
 first
  | exact H.hp.gQ ⟨by rw [e],by rw [oq,ay e],M⟩
  | exact H.hp.gQ ⟨by rw [e],by rw [oq,au (by rw [e];decide)],rfl⟩):p:=h
theorem Vs {p:Prop} (h:p:=by
 intro a H;refine lr H results198 M ?_
 exact acj):p:=h
theorem Wo (G:GH) (L:OL) (w0:World) (st:List cK) (li:List fT) (rv:List cB) (b ms ml mr mb mu:Nat) (n:Int) (bO:List Int) (x:Int) (hck:xK us G st li rv ms ml mr mu) (hO:gq G (iy b ms ml mr mb mu n :: (mb,fJ (gJ bO)) :: L) w0) :
  Calls prog 198 #[(aH b 0),vi x] w0 (fM w0 G (iy b ms ml mr mb mu n :: (mb,fJ (gJ bO)) :: L) fun u G' L'=>u=vi (sj us bO x)∧L'=iy b ms ml mr mb mu n :: (mb,fJ (gJ (oq us bO x))) :: L∧G=G'):=by
 refine jc (N:=29) (T:=[(0,_),(1,_)]) func198 M ntmps198 M M hO ?_;intro a H;refine kP H (SR fun _ K1=>aj K1 M (SQ fun _ K2=>SB (SR fun _ K3=>Rm M ?_)));clear H K1;intro a H;refine s_call za H wn M (zy _ _ H.ro x 1 1073741824) M ?_;clear H;rintro v7 _ a w ⟨rfl,rfl⟩ - H;refine kH H (Rn M (Rm M (Sp 9 M ?_ ?_))) <;> clear H
 ·intro h9 a H
  try have p9:=dT h9
  refine kH H (bH h9 M (bH h9 M (Pt h9 M (aj K3 M (Ct M M (SQ fun _ K4=>?_))))));clear H K3;intro a H
  have e:sj us bO x=18:=by rw [sj,ay (by first|(simp_all;done)|(simp_all;omega))]
  refine kP H (SC (bF K4 M ?_));clear H K4;exact Vs
 intro h9 a H
 try have p9:=dF h9
 refine kH H (YM h9 M ?_);clear H;intro a H;refine zH H (wg H M M h9) M M ?_;clear H;intro a H;refine kH H (YF atz h9 M (YO vJ 0 h9 M (YM h9 M ?_)));clear H;intro a H;refine Dh (zv:=.bool false) zK mX V H (wg H M M h9) M M (H.ro _ _ hck.use) M ?_;clear H;intro a H;rw [Jg] at H;refine kH H (Pf h9 M (aj K3 M (Cd M ?_ ?_))) <;> clear H K3
 ·intro h5 a H
  try have p5:=dT h5
  refine bL (fun _ K5=>?_)
  have e:sj us bO x=18:=by rw [sj,ay (by first|(simp_all;done)|(simp_all;omega))]
  refine kP H (SC (bF K5 M ?_));clear H K5;exact Vs
 intro h5 a H
 try have p5:=dF h5
 have hin:¬ (¬ (1<=x∧x<=1073741824)∨x∈us):=by first|(simp_all;done)|(simp_all;omega)
 refine kP H (SR fun _ K6=>Rm M (Rk M (bC agp vJ 0 M M (Rm M ?_))));clear H;intro a H;refine Dh (zv:=.bool false) zK mX V H wn M M (H.hp.own _ (gI _ dV)) M ?_;clear H;intro a H;rw [Jg] at H;refine kH H (aj K6 M (Cd M ?_ ?_)) <;> clear H K6
 ·intro fH a H
  refine bL (fun _ K7=>?_)
  have e:sj us bO x=7:=by rw [sj,au hin,ay (rT fH)]
  refine kP H (SC (bF K7 M ?_));clear H K7;exact Vs
 intro fH a H
 have hx:x∉bO:=of_decide_eq_false fH;have hnew:wG x (gJ bO)=none:=OO (by simpa [gJ,List.map_map,Function.comp_def] using hx)
 have e:sj us bO x=0:=by rw [sj,au hin,au hx]
 refine kP H (Kc K2 (SR fun _ K8=>Rm M (Rk M (bC agp vJ 0 M M (Rm M ?_)))));clear H K2;intro a H;refine O5 (i:=1) zK mX H wn M M M M hnew ?_;clear H;intro w H;dsimp only [List.set] at H;rw [<- azk] at H;refine K8 _ _ ?_;clear K8;refine kP H (SR fun _ K9=>aj K9 M ?_);clear H K9;intro a H;refine lr H results198 M ?_
 exact acj
def yF (st:List cK) (nP:List Int) (key v:Int):Int :=
 if key=20∨key=1 then dH (decide (v≠0∧TS st v≠(if key=1 then 2 else 1))) 25 else if key=33 then dH (decide (v≠0∧v∉nP)) 26 else 0
theorem M5 {p:Prop} (h:p:=by
 exact H.rt ⟨cO vi (by unfold yF;(repeat' split) <;> first|rfl|(simp_all;done)|(exfalso;simp_all;done)|(congr 1;rw [Ck];simp only [Bool.not_eq_true',uW,lD];exact ⟨fun h=>⟨p31,h⟩,fun h=>h.2⟩)),M⟩):p:=h
theorem VH {p:Prop} (h:p:=by
 intro a H;refine lr H results130 M ?_
 exact M5):p:=h
theorem Nf {p:Prop} (h:p:=by
 refine lr H results130 M ?_
 exact M5):p:=h
theorem aeE (G:GH) (w0:World) (hG:Hold G w0) (st:List cK) (li:List fT) (rv:List cB) (b ms ml mr mb mu:Nat) (n:Int) (key v:Int) (hck:xK us G st li rv ms ml mr mu) (hb:G b=some (iy b ms ml mr mb mu n).2) :
  Calls prog 130 #[(aH b 0),vi key,vi v] w0 (bE w0 G fun u G'=>u=vi (yF st (li.map fT.id) key v)∧G=G'):=by
 have hc0:aI G b 0=some (.map (some ms)):=by unfold aI;rw [hb];rfl
 have hc1:aI G b 1=some (.map (some ml)):=by unfold aI;rw [hb];rfl
 refine eN [(0,_),(1,_),(2,_)] func130 M ntmps130 M M hG ?_;intro a H;refine kP H (SR fun _ K1=>aj K1 M (SQ fun _ K2=>SR fun _ K3=>Rm M (Kz K3 (SB (SQ fun _ K4=>SR fun _ K5=>Rc M (aj K5 M (Cd M ?_ ?_))))))) <;> clear H K1 K3 K5
 ·intro h9 a H
  try have p9:=dT h9
  refine kP H (Kc K4 (Ct M h9 (SR fun _ K6=>aj K6 M (SQ fun _ K7=>SR fun _ K8=>Rm M (Rc M (Kz K8 (Cd M ?_ ?_))))))) <;> clear H K4 K6 K8
  ·intro ig a H
   try have sZ:=dT ig
   refine kP H (SC (bF K7 M (SR fun _ K9=>Rm M (Rc M (Rm M (Sp 16 M ?_ ?_)))))) <;> clear H K7
   ·intro h16 a H
    try have p16:=dT h16
    refine kH H (YM h16 M ?_);clear H;intro a H;refine zH H (wg H M M h16) M M ?_;clear H;intro a H;refine kH H (YF ND h16 M (YR Pg h16 M (by assumption) ?_));clear H;intro a H;refine kH H (YM h16 M ?_);clear H;intro a H;refine Dh (zv:=vi 0) JE mX V H (wg H M M h16) M M (H.ro _ _ hck.sty) M ?_;clear H;intro a H;rw [OP] at H;refine kH H (YM h16 M (YC h16 M (Pt h16 M ?_)));clear H;intro a H;refine s_call mZ H wn M (nG _ _ H.ro _ 25) M ?_;clear H;rintro v26 _ a w ⟨rfl,rfl⟩ - H;refine kH H (aj K9 M ?_);clear H K9;intro a H;refine lr H results130 M ?_
    exact M5
   intro h16 a H
   try have p16:=dF h16
   refine kH H (bH h16 M (bH h16 M (aU h16 M (Pf h16 M ?_))));clear H;intro a H;refine s_call mZ H wn M (nG _ _ H.ro _ 25) M ?_;clear H;rintro v26 _ a w ⟨rfl,rfl⟩ - H;refine kH H (aj K9 M ?_);clear H K9;intro a H;exact Nf
  intro ig a H
  try have sZ:=dF ig
  refine kP H (Kc K7 (SR fun _ aT=>Rm M (Rc M (Rm M (Sp 16 M ?_ ?_))))) <;> clear H K7
  ·intro h16 a H
   try have p16:=dT h16
   refine kH H (YM h16 M ?_);clear H;intro a H;refine zH H (wg H M M h16) M M ?_;clear H;intro a H;refine kH H (YF ND h16 M (YR Pg h16 M (by assumption) ?_));clear H;intro a H;refine kH H (YM h16 M ?_);clear H;intro a H;refine Dh (zv:=vi 0) JE mX V H (wg H M M h16) M M (H.ro _ _ hck.sty) M ?_;clear H;intro a H;rw [OP] at H;refine kH H (YM h16 M (YC h16 M (Pt h16 M ?_)));clear H;intro a H;refine s_call mZ H wn M (nG _ _ H.ro _ 25) M ?_;clear H;rintro v26 _ a w ⟨rfl,rfl⟩ - H;refine kH H (aj aT M ?_);clear H aT;intro a H;exact Nf
  intro h16 a H
  try have p16:=dF h16
  refine kH H (bH h16 M (bH h16 M (aU h16 M (Pf h16 M ?_))));clear H;intro a H;refine s_call mZ H wn M (nG _ _ H.ro _ 25) M ?_;clear H;rintro v26 _ a w ⟨rfl,rfl⟩ - H;refine kH H (aj aT M ?_);clear H aT;exact VH
 intro h9 a H
 try have p9:=dF h9
 refine kP H (SC (Rc M (bF K4 M (Cd M ?_ ?_)))) <;> clear H K4
 ·intro h9 a H
  try have p9:=dT h9
  refine kP H (SR fun _ bR=>aj bR M (SQ fun _ cu=>SR fun _ dw=>Rm M (Rc M (Kz dw (Cd M ?_ ?_))))) <;> clear H bR dw
  ·intro ig a H
   try have sZ:=dT ig
   refine kP H (SC (bF cu M (SR fun _ dB=>Rm M (Rc M (Rm M (Sp 16 M ?_ ?_)))))) <;> clear H cu
   ·intro h16 a H
    try have p16:=dT h16
    refine kH H (YM h16 M ?_);clear H;intro a H;refine zH H (wg H M M h16) M M ?_;clear H;intro a H;refine kH H (YF ND h16 M (YR Pg h16 M (by assumption) ?_));clear H;intro a H;refine kH H (YM h16 M ?_);clear H;intro a H;refine Dh (zv:=vi 0) JE mX V H (wg H M M h16) M M (H.ro _ _ hck.sty) M ?_;clear H;intro a H;rw [OP] at H;refine kH H (YM h16 M (YC h16 M (Pt h16 M ?_)));clear H;intro a H;refine s_call mZ H wn M (nG _ _ H.ro _ 25) M ?_;clear H;rintro v26 _ a w ⟨rfl,rfl⟩ - H;refine kH H (aj dB M ?_);clear H dB;intro a H;refine lr H results130 M ?_
    exact M5
   intro h16 a H
   try have p16:=dF h16
   refine kH H (bH h16 M (bH h16 M (aU h16 M (Pf h16 M ?_))));clear H;intro a H;refine s_call mZ H wn M (nG _ _ H.ro _ 25) M ?_;clear H;rintro v26 _ a w ⟨rfl,rfl⟩ - H;refine kH H (aj dB M ?_);clear H dB;intro a H;exact Nf
  intro ig a H
  try have sZ:=dF ig
  refine kP H (Kc cu (SR fun _ dX=>Rm M (Rc M (Rm M (Sp 16 M ?_ ?_))))) <;> clear H cu
  ·intro h16 a H
   try have p16:=dT h16
   refine kH H (YM h16 M ?_);clear H;intro a H;refine zH H (wg H M M h16) M M ?_;clear H;intro a H;refine kH H (YF ND h16 M (YR Pg h16 M (by assumption) ?_));clear H;intro a H;refine kH H (YM h16 M ?_);clear H;intro a H;refine Dh (zv:=vi 0) JE mX V H (wg H M M h16) M M (H.ro _ _ hck.sty) M ?_;clear H;intro a H;rw [OP] at H;refine kH H (YM h16 M (YC h16 M (Pt h16 M ?_)));clear H;intro a H;refine s_call mZ H wn M (nG _ _ H.ro _ 25) M ?_;clear H;rintro v26 _ a w ⟨rfl,rfl⟩ - H;refine kH H (aj dX M ?_);clear H dX;intro a H;exact Nf
  intro h16 a H
  try have p16:=dF h16
  refine kH H (bH h16 M (bH h16 M (aU h16 M (Pf h16 M ?_))));clear H;intro a H;refine s_call mZ H wn M (nG _ _ H.ro _ 25) M ?_;clear H;rintro v26 _ a w ⟨rfl,rfl⟩ - H;refine kH H (aj dX M ?_);clear H dX;exact VH
 intro h9 a H
 try have p9:=dF h9
 refine kP H (SR fun _ eu=>Rc M (aj eu M (Cd M ?_ ?_))) <;> clear H eu
 ·intro h27 a H
  try have p27:=dT h27
  refine kP H (SR fun _ dN=>Rm M (Rc M (Rm M (Sp 31 M ?_ ?_)))) <;> clear H
  ·intro h31 a H
   try have p31:=dT h31
   refine kH H (YM h31 M ?_);clear H;intro a H;refine zH H (wg H M M h31) M M ?_;clear H;intro a H;refine kH H (YF agn h31 M (YR vJ h31 M (by assumption) ?_));clear H;intro a H;refine kH H (YM h31 M ?_);clear H;intro a H;refine Dh (zv:=.bool false) zK mX V H (wg H M M h31) M M (H.ro _ _ hck.nP) M ?_;clear H;intro a H;rw [Jg] at H;refine kH H (YN h31 M (Pt h31 M ?_));clear H;intro a H;refine s_call mZ H wn M (nG _ _ H.ro _ 26) M ?_;clear H;rintro v40 _ a w ⟨rfl,rfl⟩ - H;refine kH H (aj dN M ?_);clear H dN;intro a H;exact Nf
  intro h31 a H
  try have p31:=dF h31
  refine kH H (bH h31 M (aU h31 M (aU h31 M (Pf h31 M ?_))));clear H;intro a H;refine s_call mZ H wn M (nG _ _ H.ro _ 26) M ?_;clear H;rintro v40 _ a w ⟨rfl,rfl⟩ - H;refine kH H (aj dN M ?_);clear H dN;exact VH
 intro h27 a H
 try have p27:=dF h27
 refine kP H (Kc K2 (SR fun _ eO=>aj eO M ?_));clear H K2 eO;intro a H;refine lr H results130 M ?_
 exact M5
end
section
section
variable {N:Nat} {D:List Deferred} {w0:World} {F:Nat->Prop} {G0 G G':GH} {L L':OL} {T:List (Nat × ah)}
variable {r:Option Nat} {P:Program} {ops:Array Oper} {Q:Exit->Act->World->Prop} {rest:List Oper} {a:Act} {w w':World}
theorem EI {ι:Type} {Tc:List (Nat × ah)} {l:List Oper} (k:Nat) (Tv:ι->List (Nat × ah)) (Pr:ι->Prop) (_:St N D w0 F G0 G L Tc a w)
  (h1:(∀ i a w,Pr i->St N D w0 F G0 G L (Tv i++Tc) a w->WL r P ops Q (l.drop k) a w)->WL r P ops Q l a w)
  (h2:∀ i a w,Pr i->St N D w0 F G0 G L (Tv i++Tc) a w->WL r P ops Q (l.drop k) a w):WL r P ops Q l a w:=h1 h2
theorem Change.back (h:Change w w' G G' L L'):Change w w' G G L L' :=
 ⟨h.os,h.tape,h.output,h.size,h.fr,fun _ _ h=>h,fun _ _ h=>.inl h,⟨fun k o hk=>h.owns.ro k o (h.gm k o hk),h.owns.own,fun p hp=>(by
  have hs:=h.owns.sep p hp
  cases hg:G p.1 with
  | none=>rfl
  | some o=>have:=h.gm _ _ hg;rw [hs] at this;cases this),h.owns.nd⟩,h.lx⟩
theorem fM.back {R:ah->GH->OL->Prop} {R':ah->OL->Prop} (hR:∀ v G' L',R v G' L'->R' v L') {e:Ending} (h:fM w G L R e w'):fM w G L (fun v G' L'=>G=G'∧R' v L') e w':=by
 obtain ⟨v,G',L',rfl,hc,hr⟩:=h
 exact ⟨v,G,L',M,hc.back,M,hR _ _ _ hr⟩
theorem Calls.anz {f:FuncId} {args:Array ah} {R:ah->GH->OL->Prop} {R':ah->OL->Prop} (h:Calls P f args w (fM w G L R)) (hR:∀ v G' L',R v G' L'->R' v L'):Calls P f args w (fM w G L fun v G' L'=>G=G'∧R' v L') :=
 h.mono fun _ _=>fM.back hR
theorem bE.back {R:ah->GH->Prop} {e:Ending} (h:bE w G R e w'):bE w G (fun v G'=>(∃ g,R v g)∧G=G') e w':=by
 obtain ⟨v,G',rfl,hb,hX,hr⟩:=h
 exact ⟨v,G,M,hb,⟨fun _ _ h=>h,fun _ _ h=>.inl h,fun k o hk=>hX.2.2 k o (hX.1 k o hk)⟩,⟨G',hr⟩,M⟩
theorem abI {f:FuncId} {args:Array ah} {R:ah->GH->Prop} (h:Calls P f args w (bE w G R)):Calls P f args w (bE w G fun v G'=>(∃ g,R v g)∧G=G'):=h.mono fun _ _=>bE.back
theorem gq.add {b:Nat} {o:Obj} (h:gq G ((b,o) :: L) w):Hold (G.add b o) w:=fun k o' hk=>by
 unfold GH.add at hk
 split at hk
 ·next e=>cases hk;subst e;exact h.own _ dV
 ·exact h.ro k o' hk
theorem aA5 {b:Nat} {o:Obj} {R:ah->GH->Prop} {R':ah->Prop} (hO:gq G ((b,o) :: L) w) (hR:∀ v G',R v G'->R' v) {e:Ending} (h:bE w (G.add b o) R e w'):fM w G ((b,o) :: L) (fun v G' L'=>G=G'∧L'=(b,o) :: L∧R' v) e w':=by
 obtain ⟨v,G',rfl,hb,hX,hr⟩:=h
 exact ⟨v,G,_,M,(hO.hp.below hb).alF,M,M,hR _ _ hr⟩
end
end
theorem ath:PI prog 187 [(0,false),(1,false)]:=⟨V,V,V,V,V⟩
theorem atf:PI prog 159 [(0,false),(1,false)]:=⟨V,V,V,V,V⟩
theorem atg:PI prog 161 [(0,false),(1,false),(2,false),(3,true)]:=⟨V,V,V,V,V⟩
theorem aqo:aR 102:=aS func102 M
theorem tL:dR prog 27 0 0:=⟨V⟩
theorem Cu:dR prog 27 1 1:=⟨V⟩
theorem aqp:aR 103:=aS func103 M
theorem aqr:aR 104:=aS func104 M
abbrev gT.cells (x:gT):List ah:=[vi x.rev,vi x.move]
abbrev bW.cells (x:bW):List ah:=[vi x.rev,vi x.key,vi x.before,.bool x.had]
theorem Ny {G:GH} {x:gT} {cs:List ah} (h:aX G x.dat cs):cs=x.cells:=by
 simp only [gT.dat,aX,av] at h
 obtain ⟨_,_,rfl,⟨rfl,_⟩,_,_,rfl,⟨rfl,_⟩,rfl⟩:=h
 rfl
theorem Zz {G:GH} {x:bW} {cs:List ah} (h:aX G x.dat cs):cs=x.cells:=by
 simp only [bW.dat,aX,av] at h
 exact acQ
theorem aN.eq_iff (a b:aN):(a.key=b.key∧a.value=b.value)↔a=b:=by cases a;cases b;simp
theorem gT.eq_iff (a b:gT):(a.rev=b.rev∧a.move=b.move)↔a=b:=by cases a;cases b;simp
theorem bW.eq_iff (a b:bW):(a.rev=b.rev∧a.key=b.key∧a.before=b.before∧a.had=b.had)↔a=b:=by cases a;cases b;simp
instance:DecidableEq aN:=fun a b=>decidable_of_iff _ (aN.eq_iff a b)
instance:DecidableEq gT:=fun a b=>decidable_of_iff _ (gT.eq_iff a b)
instance:DecidableEq bW:=fun a b=>decidable_of_iff _ (bW.eq_iff a b)
theorem VU {p:Prop} (h:p:=by
 rw [Ck]
 simp only [Bool.not_eq_true',uW]
 rw [<- h]
 simp [nM]):p:=h
theorem azF (a b:aN):(!([(0,false),(1,false)].all fun o=>nM #[vi a.key,vi a.value] o == nM #[vi b.key,vi b.value] o))=!decide (a=b):=by
 have h:=aN.eq_iff a b;exact VU
theorem azD (a b:gT):(!([(0,false),(1,false)].all fun o=>nM #[vi a.rev,vi a.move] o == nM #[vi b.rev,vi b.move] o))=!decide (a=b):=by
 have h:=gT.eq_iff a b;exact VU
theorem azE (a b:bW):(!([(0,false),(1,false),(2,false),(3,true)].all fun o=>nM #[vi a.rev,vi a.key,vi a.before,.bool a.had] o == nM #[vi b.rev,vi b.key,vi b.before,.bool b.had] o))=!decide (a=b):=by
 have h:=bW.eq_iff a b;exact VU
theorem anN {p:Prop} (h:p:=by
 exact ⟨O,by rw [jK hk2,jK hk3,hsame,hsm],fun b o h=>mW b o (hgm b o h)⟩):p:=h
theorem VG {p:Prop} (h:p:=by
 intro fV
 try have pJ:=dF fV
 have hsm:A[k]=B[k]:=by simpa using fV
 refine kP H (Kc K9 (SC (Rd M (Rm M ?_))));clear H K9;intro a H;refine aD ?_;refine dQ ((k+1,G)) (by exact H.sub ⟨M,M,M,M,aC⟩) ?_
 (try dsimp only);exact anN):p:=h
theorem ate (G:GH) (w0:World) (hG:Hold G w0) (A B:List aN) (v u:ah) (hv:av G (.sl 2 (A.map aN.dat)) v) (hu:av G (.sl 2 (B.map aN.dat)) u) :
  Calls prog 102 #[v,u] w0 (bE w0 G fun r G'=>r=.bool (decide (A=B))):=by
 obtain ⟨vA,vc,rfl,hc1,hc2,hg⟩:=hv.slice;obtain ⟨uA,uc,rfl,hd1,hd2,hh⟩:=hu.slice;have hml:maxLen=9223372036854775807:=rfl;(iterate 2 rw [bK] at *);refine eN [(0,_),(1,_)] func102 M ntmps102 M M hG ?_;intro a H;refine kP H (SR fun _ K1=>aj K1 M (SQ fun _ K2=>SR fun _ K3=>Rm M (Rl iw M (Rm M (Rl iw M (Rc M (Kz K3 (Cd M ?_ ?_)))))))) <;> clear H K1 K3
 ·intro h10 a H
  try have ni:=dT h10
  exact kP H (SR fun _ K4=>aj K4 M (LR results102 M fun H=>H.rt (iP (qE fun e=>absurd (cO List.length e) O).symm)))
 intro h10 a H
 try have ni:=dF h10
 refine kP H (Kc K2 (SQ fun _ K5=>SR fun _ K6=>Rm M (Rl iw M (Rm M (Kz K6 (SB ?_))))));clear H K2 K6;intro a H;skip;refine fD (ι:=Nat × GH) (Tc:=[(0,_),(1,_),(12,_)]) (Lc:=[]) (fun gh=>[(13,vi gh.1)]) (fun gh=>[]) (fun gh=>gh.2) (fun gh=>gh.1<=A.length∧A.take gh.1=B.take gh.1∧(∀ b o,G b=some o->gh.2 b=some o)) (fun gh=>A.length - gh.1) ((0,G)) (by exact H.sub ⟨M,M,M,M,aC⟩) ?_ ?_
 ·exact zV
 clear H;rintro ⟨k,g⟩ a w hI H;dsimp only at hI H;obtain ⟨hk,hsame,hgm⟩:=hI;dsimp only [lca,bM] at H;refine kP H (SR fun _ K7=>Rc M (Kz K7 (SQ fun _ K8=>Cd M ?_ ?_))) <;> clear H K7
 ·intro iq a H
  try have qL:=dT iq
  have hk2:k < A.length:=by omega
  have hk3:k < B.length:=by omega
  obtain ⟨b1,o1,cs1,rfl,ahy,Ox,hr1⟩:=hg k A[k].dat (by simp [hk2]);obtain rfl:=Tg hr1;obtain ⟨b2,o2,cs2,rfl,Ye,hrow2,hr2⟩:=hh k B[k].dat (by simp [hk3]);obtain rfl:=Tg hr2;refine kP H (Kc K8 (SQ fun _ K9=>SB (SR fun _ aT=>Rm M (aj aT M (SQ fun _ bR=>?_)))));clear H K8 aT;intro a H;refine dI hmx [[],[],[0,1],[0,1,2],[],[],[4,5],[4,5,6],ra 0 8] [] V [_,_,_,.agg A[k].cells.toArray,_,_,_,.agg B[k].cells.toArray,.bool (!decide (A[k]=B[k]))] H (aB (Z0 M (Rm M)) (Z0 M (Rm M)) (Z2 0 16 1 17 M (Ri iw iK M M)) ?_ (aB (Z0 M (Rm M)) (Z0 M (Rm M)) (Z2 4 20 5 21 M (Ri iw iK M M)) ?_ (bN ?_ dz))) ?_
  ·refine iO 2 18 M M fun _ a w G1 hG HT H fin=>?_;refine bQ iK (cs:=A[k].cells) H wn M M (fun j v hj=>H.hp.aI (aG hG (aG hgm (Ox j v hj)))) M ?_;exact jH
  ·refine iO 6 22 M M fun _ a w G1 hG HT H fin=>?_;refine bQ iK (cs:=B[k].cells) H wn M M (fun j v hj=>H.hp.aI (aG hG (aG hgm (hrow2 j v hj)))) M ?_;exact jH
  ·refine eT 3 19 7 23 M M fun _ a w G1 hG HT H fin=>?_;refine aar (.inr M) ath H wn M M M M ?_;clear H;intro a H;exact fin H iJ (iP (azF A[k] B[k]))
  clear H;intro a w G mW H hv;have H:=H.aM (hv 8 24 M M) M;clear hv;refine aD ⟨M,?_⟩;refine bR _ _ ?_;clear bR;refine jL H M ?_ ?_
  ·intro fV
   exact kP H (SR fun _ cu=>aj cu M (LR results102 M fun H=>H.rt (iP (qE fun e=>absurd fV (by subst e;simp)).symm)))
  exact VG
 intro iq a H
 try have qL:=dF iq
 refine dY ?_;refine K5 _ _ ?_;clear K5;exact kP H (SR fun _ dw=>aj dw M (LR results102 M fun H=>H.rt (iP (mY (by rw [nZ O,nZ O] at hsame;exact hsame)).symm)))
theorem atc (G:GH) (w0:World) (hG:Hold G w0) (A B:List gT) (v u:ah) (hv:av G (.sl 2 (A.map gT.dat)) v) (hu:av G (.sl 2 (B.map gT.dat)) u) :
  Calls prog 103 #[v,u] w0 (bE w0 G fun r G'=>r=.bool (decide (A=B))):=by
 obtain ⟨vA,vc,rfl,hc1,hc2,hg⟩:=hv.slice;obtain ⟨uA,uc,rfl,hd1,hd2,hh⟩:=hu.slice;have hml:maxLen=9223372036854775807:=rfl;(iterate 2 rw [bK] at *);refine eN [(0,_),(1,_)] func103 M ntmps103 M M hG ?_;intro a H;refine kP H (SR fun _ K1=>aj K1 M (SQ fun _ K2=>SR fun _ K3=>Rm M (Rl mQ M (Rm M (Rl mQ M (Rc M (Kz K3 (Cd M ?_ ?_)))))))) <;> clear H K1 K3
 ·intro h10 a H
  try have ni:=dT h10
  exact kP H (SR fun _ K4=>aj K4 M (LR results103 M fun H=>H.rt (iP (qE fun e=>absurd (cO List.length e) O).symm)))
 intro h10 a H
 try have ni:=dF h10
 refine kP H (Kc K2 (SQ fun _ K5=>SR fun _ K6=>Rm M (Rl mQ M (Rm M (Kz K6 (SB ?_))))));clear H K2 K6;intro a H;skip;refine fD (ι:=Nat × GH) (Tc:=[(0,_),(1,_),(12,_)]) (Lc:=[]) (fun gh=>[(13,vi gh.1)]) (fun gh=>[]) (fun gh=>gh.2) (fun gh=>gh.1<=A.length∧A.take gh.1=B.take gh.1∧(∀ b o,G b=some o->gh.2 b=some o)) (fun gh=>A.length - gh.1) ((0,G)) (by exact H.sub ⟨M,M,M,M,aC⟩) ?_ ?_
 ·exact zV
 clear H;rintro ⟨k,g⟩ a w hI H;dsimp only at hI H;obtain ⟨hk,hsame,hgm⟩:=hI;dsimp only [lca,bM] at H;refine kP H (SR fun _ K7=>Rc M (Kz K7 (SQ fun _ K8=>Cd M ?_ ?_))) <;> clear H K7
 ·intro iq a H
  try have qL:=dT iq
  have hk2:k < A.length:=by omega
  have hk3:k < B.length:=by omega
  obtain ⟨b1,o1,cs1,rfl,ahy,Ox,hr1⟩:=hg k A[k].dat (by simp [hk2]);obtain rfl:=Ny hr1;obtain ⟨b2,o2,cs2,rfl,Ye,hrow2,hr2⟩:=hh k B[k].dat (by simp [hk3]);obtain rfl:=Ny hr2;refine kP H (Kc K8 (SQ fun _ K9=>SB (SR fun _ aT=>Rm M (aj aT M (SQ fun _ bR=>?_)))));clear H K8 aT;intro a H;refine dI hmx [[],[],[0,1],[0,1,2],[],[],[4,5],[4,5,6],ra 0 8] [] V [_,_,_,.agg A[k].cells.toArray,_,_,_,.agg B[k].cells.toArray,.bool (!decide (A[k]=B[k]))] H (aB (Z0 M (Rm M)) (Z0 M (Rm M)) (Z2 0 16 1 17 M (Ri mQ oJ M M)) ?_ (aB (Z0 M (Rm M)) (Z0 M (Rm M)) (Z2 4 20 5 21 M (Ri mQ oJ M M)) ?_ (bN ?_ dz))) ?_
  ·refine iO 2 18 M M fun _ a w G1 hG HT H fin=>?_;refine bQ oJ (cs:=A[k].cells) H wn M M (fun j v hj=>H.hp.aI (aG hG (aG hgm (Ox j v hj)))) M ?_;exact jH
  ·refine iO 6 22 M M fun _ a w G1 hG HT H fin=>?_;refine bQ oJ (cs:=B[k].cells) H wn M M (fun j v hj=>H.hp.aI (aG hG (aG hgm (hrow2 j v hj)))) M ?_;exact jH
  ·refine eT 3 19 7 23 M M fun _ a w G1 hG HT H fin=>?_;refine aar (.inr M) atf H wn M M M M ?_;clear H;intro a H;exact fin H iJ (iP (azD A[k] B[k]))
  clear H;intro a w G mW H hv;have H:=H.aM (hv 8 24 M M) M;clear hv;refine aD ⟨M,?_⟩;refine bR _ _ ?_;clear bR;refine jL H M ?_ ?_
  ·intro fV
   exact kP H (SR fun _ cu=>aj cu M (LR results103 M fun H=>H.rt (iP (qE fun e=>absurd fV (by subst e;simp)).symm)))
  exact VG
 intro iq a H
 try have qL:=dF iq
 refine dY ?_;refine K5 _ _ ?_;clear K5;exact kP H (SR fun _ dw=>aj dw M (LR results103 M fun H=>H.rt (iP (mY (by rw [nZ O,nZ O] at hsame;exact hsame)).symm)))
theorem atd (G:GH) (w0:World) (hG:Hold G w0) (A B:List bW) (v u:ah) (hv:av G (.sl 4 (A.map bW.dat)) v) (hu:av G (.sl 4 (B.map bW.dat)) u) :
  Calls prog 104 #[v,u] w0 (bE w0 G fun r G'=>r=.bool (decide (A=B))):=by
 obtain ⟨vA,vc,rfl,hc1,hc2,hg⟩:=hv.slice;obtain ⟨uA,uc,rfl,hd1,hd2,hh⟩:=hu.slice;have hml:maxLen=9223372036854775807:=rfl;(iterate 2 rw [bK] at *);refine eN [(0,_),(1,_)] func104 M ntmps104 M M hG ?_;intro a H;refine kP H (SR fun _ K1=>aj K1 M (SQ fun _ K2=>SR fun _ K3=>Rm M (Rl mq M (Rm M (Rl mq M (Rc M (Kz K3 (Cd M ?_ ?_)))))))) <;> clear H K1 K3
 ·intro h10 a H
  try have ni:=dT h10
  exact kP H (SR fun _ K4=>aj K4 M (LR results104 M fun H=>H.rt (iP (qE fun e=>absurd (cO List.length e) O).symm)))
 intro h10 a H
 try have ni:=dF h10
 refine kP H (Kc K2 (SQ fun _ K5=>SR fun _ K6=>Rm M (Rl mq M (Rm M (Kz K6 (SB ?_))))));clear H K2 K6;intro a H;skip;refine fD (ι:=Nat × GH) (Tc:=[(0,_),(1,_),(12,_)]) (Lc:=[]) (fun gh=>[(13,vi gh.1)]) (fun gh=>[]) (fun gh=>gh.2) (fun gh=>gh.1<=A.length∧A.take gh.1=B.take gh.1∧(∀ b o,G b=some o->gh.2 b=some o)) (fun gh=>A.length - gh.1) ((0,G)) (by exact H.sub ⟨M,M,M,M,aC⟩) ?_ ?_
 ·exact zV
 clear H;rintro ⟨k,g⟩ a w hI H;dsimp only at hI H;obtain ⟨hk,hsame,hgm⟩:=hI;dsimp only [lca,bM] at H;refine kP H (SR fun _ K7=>Rc M (Kz K7 (SQ fun _ K8=>Cd M ?_ ?_))) <;> clear H K7
 ·intro iq a H
  try have qL:=dT iq
  have hk2:k < A.length:=by omega
  have hk3:k < B.length:=by omega
  obtain ⟨b1,o1,cs1,rfl,ahy,Ox,hr1⟩:=hg k A[k].dat (by simp [hk2]);obtain rfl:=Zz hr1;obtain ⟨b2,o2,cs2,rfl,Ye,hrow2,hr2⟩:=hh k B[k].dat (by simp [hk3]);obtain rfl:=Zz hr2;refine kP H (Kc K8 (SQ fun _ K9=>SB (SR fun _ aT=>Rm M (aj aT M (SQ fun _ bR=>?_)))));clear H K8 aT;intro a H;refine dI hmx [[],[],[0,1],[0,1,2],[],[],[4,5],[4,5,6],ra 0 8] [] V [_,_,_,.agg A[k].cells.toArray,_,_,_,.agg B[k].cells.toArray,.bool (!decide (A[k]=B[k]))] H (aB (Z0 M (Rm M)) (Z0 M (Rm M)) (Z2 0 16 1 17 M (Ri mq jY M M)) ?_ (aB (Z0 M (Rm M)) (Z0 M (Rm M)) (Z2 4 20 5 21 M (Ri mq jY M M)) ?_ (bN ?_ dz))) ?_
  ·refine iO 2 18 M M fun _ a w G1 hG HT H fin=>?_;refine bQ jY (cs:=A[k].cells) H wn M M (fun j v hj=>H.hp.aI (aG hG (aG hgm (Ox j v hj)))) M ?_;exact jH
  ·refine iO 6 22 M M fun _ a w G1 hG HT H fin=>?_;refine bQ jY (cs:=B[k].cells) H wn M M (fun j v hj=>H.hp.aI (aG hG (aG hgm (hrow2 j v hj)))) M ?_;exact jH
  ·refine eT 3 19 7 23 M M fun _ a w G1 hG HT H fin=>?_;refine aar (.inr M) atg H wn M M M M ?_;clear H;intro a H;exact fin H iJ (iP (azE A[k] B[k]))
  clear H;intro a w G mW H hv;have H:=H.aM (hv 8 24 M M) M;clear hv;refine aD ⟨M,?_⟩;refine bR _ _ ?_;clear bR;refine jL H M ?_ ?_
  ·intro fV
   exact kP H (SR fun _ cu=>aj cu M (LR results104 M fun H=>H.rt (iP (qE fun e=>absurd fV (by subst e;simp)).symm)))
  exact VG
 intro iq a H
 try have qL:=dF iq
 refine dY ?_;refine K5 _ _ ?_;clear K5;exact kP H (SR fun _ dw=>aj dw M (LR results104 M fun H=>H.rt (iP (mY (by rw [nZ O,nZ O] at hsame;exact hsame)).symm)))
theorem dD.eq_iff (a b:dD):(((a.props=b.props∧a.marks.ins=b.marks.ins)∧a.marks.move=b.marks.move)∧a.marks.bD=b.marks.bD)∧a.marks.layers=b.marks.layers↔a=b:=by
 obtain ⟨p,i,m,d,l⟩:=a;obtain ⟨p2,i2,m2,d2,l2⟩:=b
 simp [and_assoc]
instance:DecidableEq dD:=fun a b=>decidable_of_iff _ (dD.eq_iff a b)
abbrev sQ (h:dD) (p d l:ah):ah:=.agg #[p,vi h.marks.ins,vi h.marks.move,d,l]
theorem ati (G:GH) (w0:World) (hG:Hold G w0) (x y:dD) (p d l p2 d2 l2:ah) (hx:jG G x p d l) (hy:jG G y p2 d2 l2) :
  Calls prog 52 #[sQ x p d l,sQ y p2 d2 l2] w0 (bE w0 G fun r G'=>r=.bool (decide (x=y))):=by
 obtain ⟨pA,pc,rfl,-,-,-⟩:=hx.props.slice;obtain ⟨dA,dc,rfl,-,-,-⟩:=hx.bD.slice;obtain ⟨lA,lc,rfl,-,-,-⟩:=hx.layers.slice;obtain ⟨pA2,pc2,rfl,-,-,-⟩:=hy.props.slice;obtain ⟨dA2,dc2,rfl,-,-,-⟩:=hy.bD.slice;obtain ⟨lA2,lc2,rfl,-,-,-⟩:=hy.layers.slice;have he:=dD.eq_iff x y;refine eN [(0,_),(1,_)] func52 M ntmps52 M M hG ?_;intro a H;refine cZ (fun _ K1=>?_);refine dZ (cs:=[_,_,_,_,_]) H wn M M M ?_;clear H;intro b2 a w hb2 H;refine dZ (cs:=[_,_,_,_,_]) H wn M M M ?_;clear H;intro b3 a w hb3 H;refine kH H (aj K1 M (SR fun _ K2=>bC zk vK 1 M M (bC zk vK 0 M M ?_)));clear H K1;intro a H;refine s_call aqo H wn M (ate _ _ H.ro x.props y.props _ _ hx.props hy.props) M ?_;clear H;rintro v9 G9 a w rfl yj H;refine kH H (Rm M (Sp 10 M ?_ ?_)) <;> clear H
 ·intro h10 a H
  try have ni:=dT h10
  refine kH H (YF oh h10 M (YF tL h10 M (YO aF 1 h10 M (YF oh h10 M (YF tL h10 M (YO aF 0 h10 M (YC h10 M (Pt h10 M (Rm M (Sp 19 M ?_ ?_)))))))))) <;> clear H
  ·intro h19 a H
   try have tX:=dT h19
   refine kH H (YF oh h19 M (YF Cu h19 M (YO aF 1 h19 M (YF oh h19 M (YF Cu h19 M (YO aF 0 h19 M (YC h19 M (Pt h19 M (Rm M (Sp 28 M ?_ ?_)))))))))) <;> clear H
   ·intro gG a H
    try have p28:=dT gG
    refine kH H (YF oh gG M (YF qH gG M (YO qO 1 gG M (YF oh gG M (YF qH gG M (YO qO 0 gG M ?_))))));clear H;intro a H;refine s_call aqp H (wg H M M gG) M (atc _ _ H.ro x.marks.bD y.marks.bD _ _ (hx.bD.mono yj) (hy.bD.mono yj)) M ?_;clear H;rintro v35 G35 a w rfl ahO H;refine kH H (Pt gG M (Rm M (Sp 37 M ?_ ?_))) <;> clear H
    ·intro h37 a H
     try have p37:=dT h37
     refine kH H (YF oh h37 M (YF Bd h37 M (YO BQ 1 h37 M (YF oh h37 M (YF Bd h37 M (YO BQ 0 h37 M ?_))))));clear H;intro a H;refine s_call aqr H (wg H M M h37) M (atd _ _ H.ro x.marks.layers y.marks.layers _ _ ((hx.layers.mono yj).mono ahO) ((hy.layers.mono yj).mono ahO)) M ?_;clear H;rintro v44 G44 a w rfl aFh H;exact kH H (Pt h37 M (aj K2 M (LR results52 M fun H=>H.rt (iP (by simp_all)))))
    intro h37 a H
    try have p37:=dF h37
    exact kH H (bH h37 M (aU h37 M (aU h37 M (Pf h37 M (aj K2 M (LR results52 M fun H=>H.rt (iP (by simp_all))))))))
   intro gG a H
   try have p28:=dF gG
   exact kH H (bH gG M (aU gG M (aU gG M (Pf gG M (Rm M (bH M M (aU M M (aU M M (Pf M M (aj K2 M (LR results52 M fun H=>H.rt (iP (by simp_all)))))))))))))
  intro h19 a H
  try have tX:=dF h19
  exact kH H (bH h19 M (aU h19 M (aU h19 M (Pf h19 M (Rm M (bH M M (aU M M (aU M M (Pf M M (Rm M (bH M M (aU M M (aU M M (Pf M M (aj K2 M (LR results52 M fun H=>H.rt (iP (by simp_all))))))))))))))))))
 intro h10 a H
 try have ni:=dF h10
 exact kH H (bH h10 M (aU h10 M (aU h10 M (Pf h10 M (Rm M (bH M M (aU M M (aU M M (Pf M M (Rm M (bH M M (aU M M (aU M M (Pf M M (Rm M (bH M M (aU M M (aU M M (Pf M M (aj K2 M (LR results52 M fun H=>H.rt (iP (by simp_all)))))))))))))))))))))))
section
theorem Q8:dR prog 161 0 0:=⟨V⟩
theorem zi:dR prog 161 1 1:=⟨V⟩
theorem Q9:dR prog 161 3 3:=⟨V⟩
theorem Fh:dR prog 161 2 2:=⟨V⟩
theorem afx:aR 130:=aS func130 M
variable {us:List Int}
structure aV where
 st:List cK
 nP:List Int
 lq:List Int
 us:List Int
abbrev bG (us:List Int) (st:List cK) (li:List fT) (rv:List cB):aV:=⟨st,li.map fT.id,rv.map cB.id,us⟩
theorem F4 {G:GH} {l:List bW} {A:Option Addr} {n c k:Nat} (hv:av G (.sl 4 (l.map bW.dat)) (.slice A n c)) (hk:k < l.length):∃ b o,A=some ⟨b,o,none⟩∧(∀ j u,l[k].cells[j]?=some u->aI G b (o+k*4+j)=some u):=by
 obtain ⟨A',c',he,_,_,hg⟩:=hv.slice
 injection he with e1 e2 e3
 subst e1;obtain ⟨b,o,cs,h1,h2,h3,h4⟩:=hg k l[k].dat (by simp [hk]);have:=Zz h4;subst this;exact Hu
theorem QW {G:GH} {l:List gT} {A:Option Addr} {n c k:Nat} (hv:av G (.sl 2 (l.map gT.dat)) (.slice A n c)) (hk:k < l.length):∃ b o,A=some ⟨b,o,none⟩∧(∀ j u,l[k].cells[j]?=some u->aI G b (o+k*2+j)=some u):=by
 obtain ⟨A',c',he,_,_,hg⟩:=hv.slice
 injection he with e1 e2 e3
 subst e1;obtain ⟨b,o,cs,h1,h2,h3,h4⟩:=hg k l[k].dat (by simp [hk]);have:=Ny h4;subst this;exact Hu
def BA (C:aV) (e:Int) (k:Nat) (x:bW) (pk:Int):Int :=
 if x.rev∉C.lq then 22 else if wV e x.key=false then 4 else if 0 < k∧x.key < pk then 6 else if x.had=false then dH (decide (x.before≠0)) 21 else eG [uY x.key x.before,yF C.st C.nP x.key x.before]
def yx (C:aV) (e:Int) (l:List bW) (k:Nat):Int:=match l[k]? with|some x=>BA C e k x ((l[k - 1]?.map bW.key).getD 0)|none=>0
theorem QA {p:Prop} (h:p:=by
 refine lr H results132 M ?_
 exact H.rt (by rw [he];refine cO vi ?_;clear he hrow hrow' hq hx hy;unfold BA;(repeat' split) <;> first|rfl|(simp_all;done)|(exfalso;simp_all;done))):p:=h
theorem adk {p:Prop} (h:p:=by
 intro a H;refine lr H results132 M ?_
 exact H.rt (by rw [he];refine cO vi ?_;clear he hrow hrow' hq hx hy;unfold BA;(repeat' split) <;> first|rfl|(simp_all;done)|(exfalso;simp_all;done))):p:=h
theorem adI {p:Prop} (h:p:=by
 refine zS 5 56 7 58 9 60 M M fun _ a w G1 hG HT H fin=>?_;refine s_call afx H wn M (aeE _ _ H.ro st li rv b ms ml mr mb mu n x.key x.before (hck.mono hG) (hG _ _ hb)) M ?_;clear H;rintro v61 G61 a w ⟨rfl,-⟩ auQ H;exact fin H auQ (rfl)):p:=h
theorem adQ {p:Prop} (h:p:=by
 refine eT 1 52 3 54 M M fun _ a w G1 hG HT H fin=>?_;refine s_call afH H wn M (aeD _ _ H.ro x.key x.before) M ?_;clear H;rintro v55 PS a w rfl auP H;exact fin H auP (rfl)):p:=h
theorem ayS (G:GH) (w0:World) (hG:Hold G w0) (st:List cK) (li:List fT) (rv:List cB) (b ms ml mr mb mu:Nat) (n:Int) (hck:xK us G st li rv ms ml mr mu) (hb:G b=some (iy b ms ml mr mb mu n).2)
  (e:Int) (l:List bW) (v:ah) (hv:av G (.sl 4 (l.map bW.dat)) v) (k:Nat) (hk:k < l.length) :
  Calls prog 132 #[(aH b 0),vi e,v,vi k] w0 (bE w0 G fun u G'=>u=vi (yx (bG us st li rv) e l k)):=by
 have hc2:aI G b 2=some (.map (some mr)):=by unfold aI;rw [hb];rfl
 obtain ⟨A,c,rfl,hl1,hl2,-⟩:=hv.slice;have hml:maxLen=9223372036854775807:=rfl;rw [bK] at *;obtain ⟨xb,xo,rfl,hrow⟩:=F4 hv hk
 have hk1:k - 1 < l.length:=by omega
 obtain ⟨b',o',he',hrow'⟩:=F4 hv hk1
 injection he' with he'
 injection he' with e1 e2
 subst e1;subst e2
 have he:yx (bG us st li rv) e l k=BA (bG us st li rv) e k l[k] l[k - 1].key:=by unfold yx;rw [eB hk,eB hk1];rfl
 obtain ⟨x,hx⟩:∃ x,x=l[k]:=⟨_,M⟩;obtain ⟨y,hy⟩:∃ y,y=l[k - 1]:=⟨_,M⟩;rw [<- hx] at hrow he;rw [<- hy] at hrow' he;have hq:=hrow' 1 _ M;refine eN [(0,_),(1,_),(2,_),(3,_)] func132 M ntmps132 M M hG ?_;intro a H;refine kP H (SR fun _ K1=>aj K1 M (SR fun _ K2=>Rm M (Rm M (Ri mq jY M M ?_))));clear H K1;intro a H;refine bQ jY (cs:=x.cells) H wn M M (fun j v hj=>H.hp.aI (hrow j v hj)) M ?_;clear H;intro a H;refine dW jY H wn M ?_;clear H;intro b9 a w CF H;refine bJ jY 0 (vs:=[_,_,_,_]) H wn M ?_;clear H;intro w H;refine K2 _ _ ?_;clear K2;refine kP H (SQ fun _ K3=>SB (SQ fun _ K4=>?_));clear H;intro a H;refine dI hmx [[],[0],[0,1],[0,1,2],[],[4],ra 0 6,ra 0 7,ra 0 8] [8] V [_,_,_,_,_,vi x.rev,.bool (decide (x.rev∈rv.map cB.id)),_] H (aB (Z0 M (Rm M)) (Z1 0 15 M (Rk M)) (Z1 1 16 M (Rf NG M)) (X1 2 17 M fun hG=>Rg vJ M (aG hG hc2)) (aB (Z0 M (Rf Q8 M)) (Z1 4 19 M (Ro aF 0 M)) ?_ (Z1 6 21 M (Rn M)) (bN (bS M) dz))) ?_
 ·refine eT 3 18 5 20 M M fun _ a w G1 hG HT H fin=>?_;refine Dh (zv:=.bool false) zK mX V H wn M M (H.ro _ _ (hG _ _ hck.rev)) M ?_;clear H;intro a H;rw [Jg] at H;exact Kg
 clear H;intro a w G Ec H hv;have H:=H.aM (hv 7 22 M M) M;clear hv;refine kH H (Ra M ?_);clear H;intro a H;refine aD ⟨M,?_⟩;refine K4 _ _ ?_;clear K4;refine jL H M ?_ ?_
 ·intro iq
  try have qL:=dT iq
  refine kP H (SR fun _ K5=>aj K5 M ?_);clear H K5;intro a H;exact QA
 intro iq
 try have qL:=dF iq
 refine kP H (SR fun _ K6=>Rm M (bC zi aF 0 M M ?_));clear H;intro a H;refine s_call afG H wn M (abI (agB _ _ H.ro e x.key)) M ?_;clear H;rintro v27 _ a w ⟨⟨_,rfl⟩,rfl⟩ - H;refine kH H (Rn M (aj K6 M (Cd M ?_ ?_))) <;> clear H K6
 ·intro h23 a H
  try have C9:=dT h23
  refine kP H (SR fun _ K7=>aj K7 M ?_);clear H K7;intro a H;exact QA
 intro h23 a H
 try have C9:=dF h23
 refine bL (fun _ K8=>?_);replace hq:=aG Ec hq
 by_cases c0:0 < (k:Int)
 ·skip
  by_cases c1:x.key < y.key
  ·skip;refine dI hmx [[],[0],[0,1],[0,1,2],ra 0 4,[0,1,2],[0,1,2],[0,1,2,6],[0,1,2,5,6,7],[0,1,2,5,6,7,8],[0,1,2,5,6,7,8,9],ra 0 11,ra 0 12,ra 0 13] [13] V [_,_,_,_,vi x.key,_,_,vi ((k - 1:Nat):Int),_,_,_,_,_] H (aB (Z0 M (Rm M)) (Z1 0 30 M (Rc M)) (Z1 1 31 M (Rm M)) (Z1 2 32 M (YF zi (aJ c0) M)) (aB (Z2 3 33 2 32 M (YO aF 0 (aJ c0) M)) (Z1 2 32 M (YM (aJ c0) M)) (Z1 2 32 M (YM (aJ c0) M)) ?_ (aB (Z3 5 35 7 37 2 32 M (YI mq jY (aJ c0) M M)) (Z2 8 38 2 32 M (YF zi (aJ c0) M)) (X2 9 39 2 32 M fun hG=>YR aF (aJ c0) M (aG hG hq)) (Z3 4 34 10 40 2 32 M (YC (aJ c0) M)) (bN (Z2 2 32 11 41 M (Pt (aJ c0) M)) (bN (bS M) dz))))) ?_
   ·refine eT 6 36 2 32 M M fun _ a w G1 hG HT H fin=>?_;exact zX
   clear H;intro a w G mW H hv;have H:=H.aM (hv 12 42 M M) M;clear hv;refine kH H (Ra M ?_);clear H;intro a H;refine aD ⟨M,?_⟩;refine K8 _ _ ?_;clear K8;refine Cq H M (aJ c1) ?_;refine bL (fun _ K9=>?_);have hz:0 < k∧x.key < y.key:=⟨O,c1⟩;refine kP H (SC (bF K9 M ?_));clear H K9;exact adk
  skip;refine dI hmx [[],[0],[0,1],[0,1,2],ra 0 4,[0,1,2],[0,1,2],[0,1,2,6],[0,1,2,5,6,7],[0,1,2,5,6,7,8],[0,1,2,5,6,7,8,9],ra 0 11,ra 0 12,ra 0 13] [13] V [_,_,_,_,vi x.key,_,_,vi ((k - 1:Nat):Int),_,_,_,_,_] H (aB (Z0 M (Rm M)) (Z1 0 30 M (Rc M)) (Z1 1 31 M (Rm M)) (Z1 2 32 M (YF zi (aJ c0) M)) (aB (Z2 3 33 2 32 M (YO aF 0 (aJ c0) M)) (Z1 2 32 M (YM (aJ c0) M)) (Z1 2 32 M (YM (aJ c0) M)) ?_ (aB (Z3 5 35 7 37 2 32 M (YI mq jY (aJ c0) M M)) (Z2 8 38 2 32 M (YF zi (aJ c0) M)) (X2 9 39 2 32 M fun hG=>YR aF (aJ c0) M (aG hG hq)) (Z3 4 34 10 40 2 32 M (YC (aJ c0) M)) (bN (Z2 2 32 11 41 M (Pt (aJ c0) M)) (bN (bS M) dz))))) ?_
  ·refine eT 6 36 2 32 M M fun _ a w G1 hG HT H fin=>?_;exact zX
  clear H;intro a w G mW H hv;have H:=H.aM (hv 12 42 M M) M;clear hv;refine kH H (Ra M ?_);clear H;intro a H;refine aD ⟨M,?_⟩;refine K8 _ _ ?_;clear K8;refine sM H M (aY c1) ?_;refine bL (fun _ aT=>?_)
  have hz:¬ (0 < k∧x.key < y.key):=by first|exact fun h=>c1 h.2|exact fun h=>c0 O
  refine kP H (SC (bC Q9 ug 0 M M (Rn M (bF aT M (Cd M ?_ ?_))))) <;> clear H aT
  ·intro h43 a H
   try have p43:=dT h43
   refine kP H (SR fun _ bR=>bC Fh aF 0 M M (Rc M ?_));clear H;intro a H;refine s_call mZ H wn M (nG _ _ H.ro _ 21) M ?_;clear H;rintro v50 _ a w ⟨rfl,rfl⟩ - H;refine kH H (aj bR M ?_);clear H bR;exact adk
  intro h43 a H
  try have p43:=dF h43
  refine iD ?_;refine K3 _ _ ?_;clear K3;refine bL (fun _ cu=>?_);replace hck:=(hck.mono Ec).mono mW;replace hb:=mW _ _ (Ec _ _ hb);refine dI hmx [[],[0],[],[2],ra 0 4,[],[],[6],[],[8],ra 0 10,ra 0 11,ra 0 12,ra 0 13] [11,12,13] V [_,vi x.key,_,vi x.before,vi (uY x.key x.before),_,_,vi x.key,_,vi x.before,vi (yF st (li.map fT.id) x.key x.before)] H (aB (Z0 M (Rf zi M)) (Z1 0 51 M (Ro aF 0 M)) (Z0 M (Rf Fh M)) (Z1 2 53 M (Ro aF 0 M)) (aB ?_ (Z0 M (Rm M)) (Z0 M (Rf zi M)) (Z1 6 57 M (Ro aF 0 M)) (aB (Z0 M (Rf Fh M)) (Z1 8 59 M (Ro aF 0 M)) ?_ (bS M) (bN (bS M) (bN (bS M) dz))))) ?_
  ·exact adQ
  ·exact adI
  clear H;intro a w G uD H hv;have H:=H.aM (hv 4 55 M M) M;have H:=H.aM (hv 10 61 M M) M;clear hv;refine iV sH jE [_,_] [_,_] H wn M M M M M (by intro i q h;match i,h with|0,h=>exact h|1,h=>exact h|n+2,h=>simp at h) M M ?_;clear H;intro b62 a w avy H;obtain ⟨G62,awJ,X7,H⟩:=H.fU;refine s_call tK H wn M (tN _ _ H.ro _ _ (Aq X7)) M ?_;clear H;rintro v63 _ a w ⟨rfl,rfl⟩ - H;refine kH H (Ra M ?_);clear H;intro a H;refine aD ⟨M,?_⟩;refine cu _ _ ?_;clear cu;exact QA
 skip;refine dI hmx [[],[0],[0,1],[0,1,2],ra 0 4,[0,1,2],[0,1,2],[0,1,2,6],[0,1,2,5,6,7],[0,1,2,5,6,7,8],[0,1,2,5,6,7,8,9],ra 0 11,ra 0 12,ra 0 13] [13] V [_,_,_,undef,undef,undef,undef,undef,undef,undef,undef,undef,_] H (aB (Z0 M (Rm M)) (Z1 0 30 M (Rc M)) (Z1 1 31 M (Rm M)) (aZ 2 (aY c0) M M) (aB (aZ 2 (aY c0) M M) (aZ 2 (aY c0) M M) (aZ 2 (aY c0) M M) (aZ 2 (aY c0) M M) (aB (aZ 2 (aY c0) M M) (aZ 2 (aY c0) M M) (aZ 2 (aY c0) M M) (aZ 2 (aY c0) M M) (bN (Z2 2 32 11 41 M (Pf (aY c0) M)) (bN (bS M) dz))))) ?_
 clear H;intro a w G mW H hv;have H:=H.aM (hv 12 42 M M) M;clear hv;refine kH H (Ra M ?_);clear H;intro a H;refine aD ⟨M,?_⟩;refine K8 _ _ ?_;clear K8;refine sM H M M ?_;refine bL (fun _ dw=>?_)
 have hz:¬ (0 < k∧x.key < y.key):=by first|exact fun h=>c1 h.2|exact fun h=>c0 O
 refine kP H (SC (bC Q9 ug 0 M M (Rn M (bF dw M (Cd M ?_ ?_))))) <;> clear H dw
 ·intro h43 a H
  try have p43:=dT h43
  refine kP H (SR fun _ dB=>bC Fh aF 0 M M (Rc M ?_));clear H;intro a H;refine s_call mZ H wn M (nG _ _ H.ro _ 21) M ?_;clear H;rintro v50 _ a w ⟨rfl,rfl⟩ - H;refine kH H (aj dB M ?_);clear H dB;intro a H;exact QA
 intro h43 a H
 try have p43:=dF h43
 refine iD ?_;refine K3 _ _ ?_;clear K3;refine bL (fun _ dX=>?_);replace hck:=(hck.mono Ec).mono mW;replace hb:=mW _ _ (Ec _ _ hb);refine dI hmx [[],[0],[],[2],ra 0 4,[],[],[6],[],[8],ra 0 10,ra 0 11,ra 0 12,ra 0 13] [11,12,13] V [_,vi x.key,_,vi x.before,vi (uY x.key x.before),_,_,vi x.key,_,vi x.before,vi (yF st (li.map fT.id) x.key x.before)] H (aB (Z0 M (Rf zi M)) (Z1 0 51 M (Ro aF 0 M)) (Z0 M (Rf Fh M)) (Z1 2 53 M (Ro aF 0 M)) (aB ?_ (Z0 M (Rm M)) (Z0 M (Rf zi M)) (Z1 6 57 M (Ro aF 0 M)) (aB (Z0 M (Rf Fh M)) (Z1 8 59 M (Ro aF 0 M)) ?_ (bS M) (bN (bS M) (bN (bS M) dz))))) ?_
 ·exact adQ
 ·exact adI
 clear H;intro a w G uD H hv;have H:=H.aM (hv 4 55 M M) M;have H:=H.aM (hv 10 61 M M) M;clear hv;refine iV sH jE [_,_] [_,_] H wn M M M M M (by intro i q h;match i,h with|0,h=>exact h|1,h=>exact h|n+2,h=>simp at h) M M ?_;clear H;intro b62 a w avy H;obtain ⟨G62,awJ,X7,H⟩:=H.fU;refine s_call tK H wn M (tN _ _ H.ro _ _ (Aq X7)) M ?_;clear H;rintro v63 _ a w ⟨rfl,rfl⟩ - H;refine kH H (Ra M ?_);clear H;intro a H;refine aD ⟨M,?_⟩;refine dX _ _ ?_;clear dX;refine lr H results132 M ?_
 exact H.rt (by rw [he];refine cO vi ?_;clear he hrow hrow' hq hx hy;unfold BA;(repeat' split) <;> first|rfl|(simp_all;done)|(exfalso;simp_all;done))
end
end Go.Proofs.YtdiflmikikiedaaGreat
