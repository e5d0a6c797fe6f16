/-
  What the claim stands on, part 3: Nam Pn Lsc Dm Dl Lfl Dv Lpc Scn By Lps Lcl Dst Sty Stz Dsc Mi Ro Ri Chn Chk Dsv Mq Nck.
-/
import Derived.Test.YtggpjlchglgodaaGreatWab
import Derived.Lib.ConvBytes
namespace Go.Proofs.YtggpjlchglgodaaGreat
set_option linter.all false
open Go.Proofs.Tryz
open Go.RowKit
theorem lX:aW 56:=aY func56 O
theorem sj:aW 51:=aY func51 O
def xw (s:ByteArray):Bool:=decide (1<=s.size∧s.size<=40) && ny s
theorem aaY (G:GH) (w0:World) (hG:Hold G w0) (s:ByteArray) (hs:s.size < 4611686018427387904):Calls prog 132 #[.string s] w0 (bG w0 G fun u G'=>u=.bool (xw s)∧G=G'):=by
 refine eN [(0,_)] func132 O ntmps132 O O hG ?_;intro a H;refine kP H (SR fun _ K1=>au K1 O (SR fun _ K2=>Rm O (Rv iI O (Rc O (Rm O (Sp 6 O ?_ ?_)))))) <;> clear H K1
 ·intro h6 a H
  try have p6:=dT h6
  refine kH H (YM h6 O ?_);clear H;intro a H;refine FE iI H (wg H O O h6) O O ?_;clear H;intro a H;refine kH H (YC h6 O (Pt h6 O (Rm O (Sp 11 O ?_ ?_)))) <;> clear H
  ·intro h11 a H
   try have qp:=dT h11
   refine kH H (YM h11 O ?_);clear H;intro a H;refine s_call MX H (wg H O O h11) O (OJ _ _ H.ro s hs) O ?_;clear H;rintro v13 _ a w ⟨rfl,rfl⟩ - H;exact kH H (Pt h11 O (au K2 O (LR results132 O fun H=>H.rt ⟨iq (by unfold xw;first|(simp_all;done)|(simp_all;omega)),rfl⟩)))
  intro h11 a H
  try have qp:=dF h11
  exact kH H (aR h11 O (Pf h11 O (au K2 O (LR results132 O fun H=>H.rt ⟨iq (by unfold xw;first|(simp_all;done)|(simp_all;omega)),rfl⟩))))
 intro h6 a H
 try have p6:=dF h6
 exact kH H (bg h6 O (Pf h6 O (Rm O (aR O O (Pf O O (au K2 O (LR results132 O fun H=>H.rt ⟨iq (by unfold xw;first|(simp_all;done)|(simp_all;omega)),rfl⟩)))))))
def Ev (s:ByteArray):Int:=eu [dN (!ny s) 12,dN (decide (1024 < (s.size:Int))) 10]
theorem Al {G:GH} {b:Nat} {x y:Int} (h:G b=some (.cells #[vi x,vi y] 41 (0,0))):av G (.sl 1 ([x,y].map fun k=>[li k])) (.slice (some ⟨b,0,none⟩) 2 2) :=
 av.vU (n:=2) (cap:=2) h O (fD _) (show 2<=maxLen by decide) (lU (fD _)) (Fz G [x,y])
theorem alc (G:GH) (w0:World) (hG:Hold G w0) (s:ByteArray) (hs:s.size < 4611686018427387904):Calls prog 204 #[.string s] w0 (bG w0 G fun u G'=>u=vi (Ev s)):=by
 refine eN [(0,_)] func204 O ntmps204 O O hG ?_;intro a H;refine kP H (SR fun _ K1=>au K1 O (SR fun _ K2=>Rm O ?_));clear H K1;intro a H;refine s_call MX H wn O (OJ _ _ H.ro s hs) O ?_;clear H;rintro v4 _ a w ⟨rfl,rfl⟩ - H;refine kH H (Rn O ?_);clear H;intro a H;refine s_call lX H wn O (mD _ _ H.ro _ 12) O ?_;clear H;rintro v6 _ a w ⟨rfl,rfl⟩ - H;refine kH H (Rm O (Rv iI O (Rc O ?_)));clear H;intro a H;refine s_call lX H wn O (mD _ _ H.ro _ 10) O ?_;clear H;rintro v10 _ a w ⟨rfl,rfl⟩ - H;refine iG qO jm [_,_] [_,_] H wn O O O O O (by intro i q h;match i,h with|0,h=>exact h|1,h=>exact h|n+2,h=>simp at h) O O ?_;clear H;intro b11 a w Nn H;obtain ⟨Dl,Rh,Ke,H⟩:=H.fJ;refine s_call sj H wn O (sw _ _ H.ro _ _ (Al Ke)) O ?_;clear H;rintro v12 _ a w ⟨rfl,rfl⟩ - H;exact kH H (au K2 O (LR results204 O fun H=>H.rt O))
def RU (c:Int):Bool:=decide (97<=vo .or .u8 c 32) && decide (vo .or .u8 c 32<=122)
def KT (c:Int):Bool:=(decide (48<=c) && decide (c<=57)) || decide (c=45) || decide (c=95)
def Ol (s:ByteArray) (k:Nat):Bool:=RU (gN s k) || (decide (k≠0) && KT (gN s k))
def wC (s:ByteArray):Bool:=decide (1<=s.size∧s.size<=40) && (List.range s.size).all (Ol s)
theorem Jt {p:Prop} (h:p:=by
 first|(simp_all;done)|(simp_all;omega)):p:=h
theorem UM {p:Prop} (h:p:=by
 first
  | exact H.rt ⟨iq (by
    unfold wC
    rw [show k=s.size by omega] at hall
    rw [hall,lT V];rfl),rfl⟩
  | exact H.rt ⟨iq (by
    unfold wC
    rw [show (List.range s.size).all (Ol s)=false from List.all_eq_false.2 ⟨k,by simpa using hk2,by unfold Ol;simp_all⟩,Bool.and_false]),O⟩):p:=h
theorem abq {p:Prop} (h:p:=by
 exact ⟨V,by rw [List.range_succ,List.all_append,hall];simp [Ol];simp_all⟩):p:=h
theorem acU {p:Prop} (h:p:=by
 intro h46 a H
 try have p46:=dT h46
 refine kH H (aR h46 O (aR h46 O (Pt h46 O (Ra O ?_))));clear H;intro a H;refine aF ?_;refine ⟨_,by exact H.sub ⟨O,O,O,O,O,O,aB⟩,?_⟩
 unfold KT;exact Jt):p:=h
theorem aeh (G:GH) (w0:World) (hG:Hold G w0) (s:ByteArray) (hs:s.size < 4611686018427387904):Calls prog 80 #[.string s] w0 (bG w0 G fun u G'=>u=.bool (wC s)∧G=G'):=by
 refine eN [(0,_)] func80 O ntmps80 O O hG ?_;intro a H;refine kP H (SR fun _ K1=>au K1 O (SQ fun _ K2=>SR fun _ K3=>Rm O (Rv iI O (Rc O (Rm O (Sp 10 O ?_ ?_)))))) <;> clear H K1
 ·intro h10 a H
  try have kN:=dT h10
  exact kH H (bg h10 O (Pt h10 O (Kz K3 (Ct O O (SR fun _ K4=>au K4 O (LR results80 O fun H=>H.rt ⟨iq (by unfold wC;rw [oP V];rfl),rfl⟩))))))
 intro h10 a H
 try have kN:=dF h10
 refine kH H (YM h10 O ?_);clear H;intro a H;refine FE iI H (wg H O O h10) O O ?_;clear H;intro a H;refine kH H (YC h10 O (Pf h10 O (Kz K3 (Cd O ?_ ?_)))) <;> clear H K3
 ·intro eD a H
  try have lJ:=dT eD
  exact kP H (SR fun _ K5=>au K5 O (LR results80 O fun H=>H.rt ⟨iq (by unfold wC;rw [oP V];rfl),rfl⟩))
 intro eD a H
 try have lJ:=dF eD
 refine kP H (Kc K2 (SQ fun _ K6=>SR fun _ K7=>Rm O (Rv iI O (Rm O (Kz K7 (SB ?_))))));clear H K2 K7;intro a H;skip;refine eO (ι:=Nat) (Tc:=[(0,_),(16,_)]) (Lc:=[]) (fun gh=>[(17,vi gh)]) (fun gh=>[]) (fun gh=>G) (fun gh=>gh<=s.size∧(List.range gh).all (Ol s)=true) (fun gh=>s.size - gh) (0) (by exact H.sub ⟨O,O,O,aB⟩) ?_ ?_
 ·exact Js
 clear H;intro k a w hI H;obtain ⟨hk,hall⟩:=hI;dsimp only [lca,bD] at H;refine kP H (SR fun _ K8=>Rc O (Kz K8 (SQ fun _ K9=>Cd O ?_ ?_))) <;> clear H K8
 ·intro h18 a H
  try have qw:=dT h18
  have hk2:k < s.size:=by omega
  refine kP H (Kc K9 (SQ fun _ aT=>SB (SR fun _ bJ=>Rm O (au bJ O (SR fun _ bO=>Rm O (Rm O ?_))))));clear H K9 bJ;intro a H;refine qy k iI H wn O O O V O ?_;clear H;intro a H;rw [<- nJ] at H;refine SS O H wn O O O ?_;clear H;intro a H;refine kH H (au bO O ?_);clear H bO;intro a H;refine rX (ι:=Bool) (Tc:=[(0,_),(3,_),(16,_),(17,_)]) (Lc:=[]) (fun gh=>[(5,.bool gh)]) (fun gh=>[]) (fun gh=>G) (fun gh=>gh=RU (gN s k)) (by exact H.sub ⟨O,O,O,O,aB⟩) ?_ ?_
  ·skip;refine kP H (SC (Rm O (Rc O (Rm O (Sp 26 O ?_ ?_))))) <;> clear H
   ·intro iY a H
    try have p26:=dT iY
    refine kH H (YM iY O (YC iY O (Pt iY O (Ra O ?_))));clear H;intro a H;refine aF ?_;refine ⟨_,by exact H.sub ⟨O,O,O,O,O,aB⟩,?_⟩
    unfold RU;exact Jt
   intro iY a H
   try have p26:=dF iY
   refine kH H (aR iY O (Pf iY O (Ra O ?_)));clear H;intro a H;refine aF ?_;refine ⟨_,by exact H.sub ⟨O,O,O,O,O,aB⟩,?_⟩
   unfold RU;exact Jt
  clear H;intro lt a w hI H;have hlt:=hI;dsimp only [lca,bD] at H;refine rX (ι:=Bool) (Tc:=[(0,_),(3,_),(5,_),(16,_),(17,_)]) (Lc:=[]) (fun gh=>[(6,.bool gh)]) (fun gh=>[]) (fun gh=>G) (fun gh=>gh=KT (gN s k)) (by exact H.sub ⟨O,O,O,O,O,aB⟩) ?_ ?_
  ·skip;refine kP H (SC (Rm O (Rm O ?_)));clear H;intro a H;refine qy k iI H wn O O O V O ?_;clear H;intro a H;rw [<- nJ] at H;refine kH H (Rc O (Rm O (Sp 34 O ?_ ?_))) <;> clear H
   ·intro gP a H
    try have p34:=dT gP
    refine kH H (YM gP O (YM gP O ?_));clear H;intro a H;refine qy k iI H (wg H O O gP) O O O V O ?_;clear H;intro a H;rw [<- nJ] at H;refine kH H (YC gP O (Pt gP O (Rm O (Sp 40 O ?_ ?_)))) <;> clear H
    ·intro nK a H
     try have p40:=dT nK
     refine kH H (aR nK O (aR nK O (Pt nK O (Rm O (aR O O (aR O O (Pt O O (Ra O ?_))))))));clear H;intro a H;refine aF ?_;refine ⟨_,by exact H.sub ⟨O,O,O,O,O,O,aB⟩,?_⟩
     unfold KT;exact Jt
    intro nK a H
    try have p40:=dF nK
    refine kH H (YM nK O (YM nK O ?_));clear H;intro a H;refine qy k iI H (wg H O O nK) O O O V O ?_;clear H;intro a H;rw [<- nJ] at H;refine kH H (YC nK O (Pf nK O (Rm O (Sp 46 O ?_ ?_)))) <;> clear H
    ·exact acU
    intro h46 a H
    try have p46:=dF h46
    refine kH H (YM h46 O (YM h46 O ?_));clear H;intro a H;refine qy k iI H (wg H O O h46) O O O V O ?_;clear H;intro a H;rw [<- nJ] at H;refine kH H (YC h46 O (Pf h46 O (Ra O ?_)));clear H;intro a H;refine aF ?_;refine ⟨_,by exact H.sub ⟨O,O,O,O,O,O,aB⟩,?_⟩
    unfold KT;exact Jt
   intro gP a H
   try have p34:=dF gP
   refine kH H (aR gP O (aR gP O (Pf gP O (Rm O ?_))));clear H;intro a H;(iterate 2 refine FI H (wg H O O O) O O ?_;clear H;intro a H);refine qy k iI H (wg H O O O) O O O V O ?_;clear H;intro a H;rw [<- nJ] at H;refine IE H (wg H O O O) O O O O ?_;clear H;intro a H;refine kH H (Pf O O (Rm O (Sp 46 O ?_ ?_))) <;> clear H
   ·exact acU
   intro h46 a H
   try have p46:=dF h46
   refine kH H (YM h46 O (YM h46 O ?_));clear H;intro a H;refine qy k iI H (wg H O O h46) O O O V O ?_;clear H;intro a H;rw [<- nJ] at H;refine kH H (YC h46 O (Pf h46 O (Ra O ?_)));clear H;intro a H;refine aF ?_;refine ⟨_,by exact H.sub ⟨O,O,O,O,O,O,aB⟩,?_⟩
   unfold KT;exact Jt
  clear H;intro ot a w hI H;have hot:=hI;dsimp only [lca,bD] at H;refine kP H (SR fun _ bU=>Rm O (Rn O (Rm O (Sp 54 O ?_ ?_)))) <;> clear H
  ·intro iZ a H
   try have p54:=dT iZ
   refine kH H (YM iZ O (YC iZ O (YM iZ O (Sp 57 O ?_ ?_)))) <;> clear H
   ·intro h57 a H
    try have p57:=dT h57
    refine kH H (aR h57 O (PT iZ h57 O (Pt iZ O (Kz bU (Ct O O (SR fun _ bZ=>au bZ O ?_))))));clear H bU bZ;intro a H;refine lr H results80 O ?_
    exact UM
   intro h57 a H
   try have p57:=dF h57
   refine kH H (YM h57 O (YN h57 O (PF iZ h57 O (Pt iZ O (Kz bU (Cd O ?_ ?_)))))) <;> clear H bU
   ·intro Hl a H
    try have p61:=dT Hl
    refine kP H (SR fun _ dP=>au dP O ?_);clear H dP;intro a H;refine lr H results80 O ?_
    exact UM
   intro Hl a H
   try have p61:=dF Hl
   refine kP H (Kc aT (SC (Rd O (Rm O ?_))));clear H aT;intro a H;refine aF ?_;refine dS ((k+1)) (by exact H.sub ⟨O,O,O,aB⟩) ?_
   exact abq
  intro iZ a H
  try have p54:=dF iZ
  refine kH H (bg iZ O (Ku O (Ku O (Ks iZ O (Pf iZ O (Kz bU (Cf O O (Kc aT (SC (Rd O (Rm O ?_)))))))))));clear H bU aT;intro a H;refine aF ?_;refine dS ((k+1)) (by exact H.sub ⟨O,O,O,aB⟩) ?_
  exact abq
 intro h18 a H
 try have qw:=dF h18
 refine dX ?_;refine K6 _ _ ?_;clear K6;refine kP H (SR fun _ dY=>au dY O ?_);clear H dY;intro a H;refine lr H results80 O ?_
 exact UM
section
section
variable {N:Nat} {D:List Deferred} {w0:World} {F:Nat->Prop} {G0 G:GH} {L:OL} {T:List (Nat × ah)}
variable {r:Option Nat} {P:Program} {ops:Array Oper} {Q:Exit->Act->World->Prop} {rest:List Oper} {a:Act} {w:World}
variable {d:Nat} {ty:TypeId} {pos:String} {aL:Array Edge} {g:Option (Nat × Bool)}
end
end
theorem axV:liesAt prog prog.depth 341 (7 / prog.cellsOf 341) 2 167 1=true:=by kernel_rfl
theorem Tn:Ty prog 5 1 1 [.int .u8 0] false:=⟨Z,Z⟩
abbrev iH (b:Nat) (s:ByteArray) (i:Int) (p v q:ah) (pl e:Int):Nat × Obj:=(b,.cells #[.string s,vi i,p,v,q,vi pl,vi e] 341 (0,0))
theorem aBg (G:GH) (L:OL) (w0:World) (b:Nat) (s:ByteArray) (i:Int) (A:Option Addr) (n c:Nat) (B:Option Addr) (m d:Nat) (pl e:Int) (hO:fM G (iH b s i (.pointer none) (.slice A n c) (.slice B m d) pl e :: L) w0) :
  Calls prog 169 #[(aJ b 2)] w0 (fB w0 G (iH b s i (.pointer none) (.slice A n c) (.slice B m d) pl e :: L) fun u G' L'=>L'=iH b s i (aJ b 2) (.slice A n c) (.slice B m d) pl e :: L∧G'=G):=by
 refine iB (N:=20) (T:=[(0,_)]) func169 O ntmps169 O O hO ?_;intro a H;refine kP H (SR fun _ K1=>Rm O (Rk O (aU ES FK 0 O O ?_)));clear H;intro a H;refine SV Dg H wn O O ?_;clear H;intro a H;refine K1 _ _ ?_;clear K1;refine jX H O ?_ ?_
 ·intro h6
  refine kP H (SC (Rm O (Rm O ?_)));clear H;intro a H;refine akx Dg Tw Lm H wn O 0 O O O ?_;clear H;intro a H;refine akv (xs:=[.tmp 9]) (ajl _) H wn O O ?_;clear H;intro a H;refine akr Tw Dg Lm H wn O 0 O axV O ?_;exact acV
 intro h6
 exact absurd h6 Q1
theorem aBh (G:GH) (L:OL) (w0:World) (b:Nat) (s:ByteArray) (i:Int) (A:Option Addr) (n c:Nat) (B:Option Addr) (m d:Nat) (pl e:Int) (hO:fM G (iH b s i (aJ b 2) (.slice A n c) (.slice B m d) pl e :: L) w0) :
  Calls prog 169 #[(aJ b 2)] w0 (fB w0 G (iH b s i (aJ b 2) (.slice A n c) (.slice B m d) pl e :: L) fun u G' L'=>L'=iH b s i (aJ b 2) (.slice A n c) (.slice B m d) pl e :: L∧G'=G):=by
 refine iB (N:=20) (T:=[(0,_)]) func169 O ntmps169 O O hO ?_;intro a H;refine kP H (SR fun _ K1=>Rm O (Rk O (aU ES FK 0 O O ?_)));clear H;intro a H;refine SV Dg H wn O O ?_;clear H;intro a H;refine K1 _ _ ?_;clear K1;refine jX H O ?_ ?_
 ·intro h6
  exact absurd h6 (by simp)
 intro h6
 refine kP H (SR fun _ K2=>Rm O (Rk O (aU ES FK 0 O O (Rm O ?_))));clear H;intro a H;refine aku Dg Lm H wn O O O ?_;clear H;intro a H;refine K2 _ _ ?_;clear K2;refine jX H O ?_ ?_
 ·intro h19
  exact absurd h19 Q1
 intro h19
 refine gT ?_;refine (leave0 H results169 ?_).2;exact PS
theorem aBi (G:GH) (L:OL) (w0:World) (b:Nat) (s:ByteArray) (i:Int) (p:ah) (A:Option Addr) (n c:Nat) (B:Option Addr) (m d:Nat) (pl e:Int) (hp:p=.pointer none∨p=(aJ b 2)) (hO:fM G (iH b s i p (.slice A n c) (.slice B m d) pl e :: L) w0) :
  Calls prog 169 #[(aJ b 2)] w0 (fB w0 G (iH b s i p (.slice A n c) (.slice B m d) pl e :: L) fun u G' L'=>L'=iH b s i (aJ b 2) (.slice A n c) (.slice B m d) pl e :: L∧G'=G):=by
 rcases hp with rfl|rfl
 ·exact aBg G L w0 b s i A n c B m d pl e hO
 exact aBh G L w0 b s i A n c B m d pl e hO
theorem alO (G:GH) (Lp Lo:OL) (w0:World) (b:Nat) (s:ByteArray) (i:Int) (p v:ah) (B:Option Addr) (m d:Nat) (pl e:Int) (n:Nat) (xs:List ah) (c:Int) (hp:p=.pointer none∨p=(aJ b 2)) (hO:fM G (iH b s i p v (.slice B m d) pl e :: (Lp++Lo)) w0) (hrow:bV 5 1 v n xs Lo) (hn:n<=4294967296) :
  Calls prog 260 #[(aJ b 2),.int .u8 c] w0 (fB w0 G (iH b s i p v (.slice B m d) pl e :: (Lp++Lo)) fun u G' L'=>∃ v' gG,L'=iH b s i (aJ b 2) v' (.slice B m d) pl e :: (Lp++gG)∧bV 5 1 v' (n+1) (xs++[.int .u8 c]) gG∧G'=G):=by
 have hml:maxLen=9223372036854775807:=rfl;obtain ⟨A,c0,rfl,-,-⟩:=hrow.shape;obtain ⟨Lt,tF⟩:∃ x,x=Lp++Lo:=⟨_,O⟩;rw [<- tF] at hO |-;refine iB (N:=17) (T:=[(0,_),(1,_)]) func260 O ntmps260 O O hO ?_;intro a H;refine kP H (SR fun _ K1=>au K1 O (SR fun _ K2=>Rm O ?_));clear H K1;intro a H;refine gD aeQ (Li:=[]) (L:=iH b s i p _ (.slice B m d) pl e :: Lt) H wn O (aBi _ _ _ b s i p A n c0 B m d pl e hp (Hp.owns (Li:=[]) H.hp)) O ?_;clear H;rintro v6 _ L6 a w ⟨rfl,rfl⟩ H8 H;dsimp only [List.nil_append] at H;refine K2 _ _ ?_;clear K2;refine kP H (SR fun _ K3=>Rm O (Rm O (Rk O (aU Ck Db 0 O O (Rm O ?_)))));clear H;intro a H;refine iG Ew Tn [_] [_] H wn O O O O O (by intro i q h;match i,h with|0,h=>exact h|n+1,h=>simp at h) O O ?_;clear H;intro b13 a w Xr H;subst tF;have H:=St.un (A:=[_,_]) (B:=Lp) (C:=Lo) H;refine mh (Li:=[_,_]++Lp) (Lo:=Lo) (news:=[.int .u8 c]) Ew Tn O O H wn O O hrow O (H.hp.dD 0 O O) O V V O ?_;clear H;intro v14 aan a w Fw H;obtain ⟨TP,c14,rfl,-,-⟩:=Fw.shape;have H:=H.assoc;dsimp only [lca,bD] at H;refine kH H (Rk O (Rf Ck O ?_));clear H;intro a H;refine bM Db 1 (vs:=[_]) H wn O ?_;clear H;intro w H;refine K3 _ _ ?_;clear K3;exact kP H (SR fun _ K4=>au K4 O (LR results260 O fun H=>H.hp.kJ (L':=iH b s i _ _ _ pl e :: (Lp++aan)) (Dq _ _) ⟨_,_,O,Fw,O⟩))
theorem aBF (G:GH) (L:OL) (w0:World) (b:Nat) (s:ByteArray) (i:Int) (p:ah) (A:Option Addr) (n c:Nat) (B:Option Addr) (m d:Nat) (pl e:Int) (hO:fM G (iH b s i p (.slice A n c) (.slice B m d) pl e :: L) w0) :
  Calls prog 275 #[(aJ b 2)] w0 (fB w0 G (iH b s i p (.slice A n c) (.slice B m d) pl e :: L) fun u G' L'=>u=vi n∧L'=iH b s i p (.slice A n c) (.slice B m d) pl e :: L∧G'=G):=by
 refine iB (N:=8) (T:=[(0,_)]) func275 O ntmps275 O O hO ?_;intro a H;exact kP H (SR fun _ K1=>au K1 O (SR fun _ K2=>Rm O (Rk O (aU Ck Db 0 O O (Rl Ew O (au K2 O (LR results275 O fun H=>H.hp.gI ⟨O,O,O⟩)))))))
theorem aBZ (G:GH) (L:OL) (w0:World) (b:Nat) (s:ByteArray) (i:Int) (p:ah) (A:Option Addr) (n c:Nat) (B:Option Addr) (m d:Nat) (pl e:Int) (hO:fM G (iH b s i p (.slice A n c) (.slice B m d) pl e :: L) w0) :
  Calls prog 276 #[(aJ b 2)] w0 (fB w0 G (iH b s i p (.slice A n c) (.slice B m d) pl e :: L) fun u G' L'=>L'=iH b s i (.pointer none) (.slice none 0 0) (.slice B m d) pl e :: L∧G'=G):=by
 refine iB (N:=8) (T:=[(0,_)]) func276 O ntmps276 O O hO ?_;intro a H;refine kP H (SR fun _ K1=>Rm O (Rk O (Rf ES O ?_)));clear H;intro a H;refine bM FK 0 (vs:=[_]) H wn O ?_;clear H;intro w H;refine K1 _ _ ?_;clear K1;refine kP H (SC (Rm O (Rk O (Rf Ck O ?_))));clear H;intro a H;refine bM Db 0 (vs:=[_]) H wn O ?_;clear H;intro w H;refine aF ?_;refine (leave0 H results276 ?_).2;exact PS
theorem aB1 (G:GH) (Lp Lo:OL) (w0:World) (b:Nat) (s:ByteArray) (i:Int) (p v:ah) (B:Option Addr) (m d:Nat) (pl e:Int) (l:List UInt8) (hO:fM G (iH b s i p v (.slice B m d) pl e :: (Lp++Lo)) w0) (hrow:bV 5 1 v l.length (Lib.byteCells l) Lo) (h0:l≠[]) :
  Calls prog 90 #[(aJ b 2)] w0 (fB w0 G (iH b s i p v (.slice B m d) pl e :: (Lp++Lo)) fun u G' L'=>u=.string ⟨l.toArray⟩∧L'=iH b s i p v (.slice B m d) pl e :: Lp):=by
 rcases hrow.2 with ⟨-,h,-⟩|⟨b2,cap,cur,rfl,rfl,hc1,hc2,hc3,hc4⟩
 ·exact absurd (List.eq_nil_of_length_eq_zero h) h0
 have hl0:l.length≠0:=fun h=>h0 (List.eq_nil_of_length_eq_zero h);have hml:maxLen=9223372036854775807:=rfl;obtain ⟨Lt,tF⟩:∃ x,x=Lp++[(b2,Obj.cells cur 5 (0,0))]:=⟨_,O⟩;rw [<- tF] at hO |-;refine iB (N:=14) (T:=[(0,_)]) func90 O ntmps90 O O hO ?_;intro a H;refine kP H (SR fun _ K1=>au K1 O (SQ fun _ K2=>?_));clear H K1;intro a H;have H:=H.sub (T':=[(0,_)]) ⟨O,aB⟩;refine dI hmx [[],[0],[0,1],[0,1,2],ra 0 4,[],[5],[5,6],[5,6,7],ra 5 4,ra 0 10,ra 0 11] [10,11] Z [_,_,_,.slice (some ⟨b2,0,none⟩) l.length cap,(aJ b2 0),_,_,_,.slice (some ⟨b2,0,none⟩) l.length cap,_] H (aC (Z0 O (Rm O)) (Z1 0 3 O (Rk O)) (Z1 1 4 O (Rf Ck O)) (Z1 2 5 O (Ro Db 0 O)) (aC ?_ (Z0 O (Rm O)) (Z1 5 8 O (Rk O)) (Z1 6 9 O (Rf Ck O)) (aC (Z1 7 10 O (Ro Db 0 O)) (Z1 8 11 O (Rl Ew O)) (bQ O) (bQ O) dG))) ?_
 ·exact acB
 clear H;intro a w G jA H hv;have H:=H.aQ (hv 4 7 O O) O;have H:=H.aQ (hv 9 12 O O) O;clear hv;subst tF;have H:=H.perm (List.Perm.cons _ um);dsimp only [lca,bD] at H;refine aky (i:=1) l alm adN h0 V H wn O O O (by rw [<- hc4,Nat.mul_one]) O ?_;clear H;intro fz a w H;dsimp only [List.set] at H;refine kH H (Ra O ?_);clear H;intro a H;refine aF ⟨O,?_⟩;refine K2 _ _ ?_;clear K2;refine lr H results90 O ?_;exact H.hp.kJ (L':=iH b s i _ _ _ pl e :: Lp) (List.Sublist.cons_cons _ (Dq _ _)) ⟨O,O⟩
section
section
variable {N:Nat} {D:List Deferred} {w0:World} {F:Nat->Prop} {G0 G G1 G2:GH} {L L1 L2:OL} {T Xs:List (Nat × ah)}
variable {r:Option Nat} {P:Program} {Q:Exit->Act->World->Prop} {l:List Oper} {a a':Act} {w w':World}
theorem DX.perm {pr:Nat->ah->GH->Prop} {S:Nat->Bool} (h:DX N D w0 F G0 G L1 T l pr S a w) (hp:L1.Perm L2):DX N D w0 F G0 G L2 T l pr S a w:=by
 obtain ⟨G1,hG,HS,hv⟩:=h
 exact ⟨G1,hG,HS.perm hp,hv⟩
end
end
section
section
variable {N:Nat} {D:List Deferred} {w0:World} {F:Nat->Prop} {G0 G G1 G2:GH} {L L1 L2:OL} {T Xs:List (Nat × ah)}
variable {r:Option Nat} {P:Program} {Q:Exit->Act->World->Prop} {l:List Oper} {a a':Act} {w w':World}
theorem EO {pr:Nat->ah->GH->Prop} {S:Nat->Bool} {i d:Nat} {v:ah} (hok:oz l T i=true) (jr:∀ i v (G G':GH),(∀ k o,G k=some o->G' k=some o)->pr i v G->pr i v G') (hi:dZ l i=some d)
  (HT:St N D w0 F G0 G1 L T a w) (Hb:St N D w0 F G0 G1 L (Xs++full N a) a w) (hG:∀ k o,G k=some o->G1 k=some o) (hv:∀ j d,j≠i->S j=true->dZ l j=some d->∃ v,a.tmps[d]?=some v∧pr j v G1)
  (hG2:∀ k o,G1 k=some o->G2 k=some o) (hp:pr i v G2) (H:St N D w0 F G0 G2 L1 ((d,v) :: (Xs++full N a)) a' w'):DX N D w0 F G0 G L1 T l pr (dO S i) a' w':=by
 have hok1:=hok
 rw [oz,hi] at hok1
 simp only [mG,Option.isNone_iff_eq_none,lS,qD] at hok1
 have hsame:∀ t,t≠d->a'.tmps[t]?=a.tmps[t]?:=by
  intro t ht
  by_cases hlt:t < N
  ·have h1:∃ u,lk (Xs++full N a) t=some u:=by
    rw [Iq]
    cases lk Xs t with
    | some u=>exact ⟨u,O⟩
    | none=>exact ⟨_,RS a hlt⟩
   obtain ⟨u,hu⟩:=h1
   rw [Hb.get t u hu,H.get t u (by rw [gy (Ne.symm ht)];exact hu)]
  ·rw [Array.getElem?_eq_none (by rw [H.nH];omega),Array.getElem?_eq_none (by rw [Hb.nH];omega)]
 refine ⟨G2,fun k o hk=>hG2 k o (hG k o hk),⟨H.nH,fun t u ht=>?_,H.tu,H.hp⟩,fun j e hj he=>?_⟩
 ·rw [hsame t (fun e=>by rw [e,hok1.1] at ht;cases ht)]
  exact HT.get t u ht
 ·by_cases hji:j=i
  ·subst hji
   rw [hi] at he
   simp only [ou] at he
   subst he
   exact ⟨v,H.get d v (lI _ _ _),hp⟩
  ·have hSj:S j=true:=by unfold dO at hj;rwa [ay hji] at hj
   obtain ⟨u,hu1,hu2⟩:=hv j e hji hSj he
   have hne:e≠d:=by
    intro e'
    subst e'
    have h2:=hok1.2 j (wG he)
    rw [xB (fun h=>hji h.symm),he] at h2
    simp at h2
   exact ⟨u,by rw [hsame e hne];exact hu1,jr j u _ _ hG2 hu2⟩
theorem anW {id:Nat} {κ:Type} (k0:κ) (hm:P.follows .mixedOrders=true) (bS:List (List Nat)) (B:List Nat) (hk:yL l bS=true) (hB:zB l bS B=true) (m1 m2 m3:Nat) (aDS:B.contains m1=false) (aDT:B.contains m2=false) (avN:B.contains m3=false) (hne:Nat.beq m1 m2=false) (ahp:Nat.beq m2 m3=false) (hne1:Nat.beq m1 m3=false) (h12:(bS.getD m2 []).contains m1=true) (fT:(bS.getD m3 []).contains m1=true) (h23:(bS.getD m3 []).contains m2=true)
  (C L2:OL) (ob:Obj) (L3:Nat->κ->OL) (hC:∀ x,x∈C->x∈L) (hC2:∀ x,x∈C->x∈L2) (hC3:∀ b k x,x∈C->x∈L3 b k) (pr:Nat->κ->Nat->ah->GH->Prop)
  (awj:∀ b b' k i v G,Nat.beq i m2=false->(bS.getD i []).contains m2=false->pr b k i v G->pr b' k i v G)
  (awk:∀ b k k' i v G,Nat.beq i m3=false->(bS.getD i []).contains m3=false->pr b k i v G->pr b k' i v G)
  (H:St N D w0 F G0 G L T a w)
  (hstep:allI (fun i o=>∀ b k L' S a w G1,(∀ x,x∈C->x∈L')->B.contains i=false->Nat.beq i m1=false->Nat.beq i m2=false->Nat.beq i m3=false->S i=false->(∀ j∈bS.getD i [],S j=true)->(∀ k o,G k=some o->G1 k=some o)->St N D w0 F G0 G1 L' T a w->(∀ i d,S i=true->dZ l i=some d->∃ v,a.tmps[d]?=some v∧pr b k i v G1) ->
   WL r P l.toArray (fun e a' w'=>e=.normal∧DX N D w0 F G0 G L' T l (pr b k) (dO S i) a' w') [o] a w) 0 l)
  (avO:∀ o b k S a w G1,l[m1]?=some o->S m1=false->(∀ j∈bS.getD m1 [],S j=true)->(∀ k o,G k=some o->G1 k=some o)->St N D w0 F G0 G1 L T a w->(∀ i d,i≠m1->S i=true->dZ l i=some d->∃ v,a.tmps[d]?=some v∧pr b k i v G1) ->
   WL r P l.toArray (fun e a' w'=>e=.normal∧DX N D w0 F G0 G L2 T l (pr b k) (dO S m1) a' w') [o] a w)
  (avP:∀ o k S a w G1,l[m2]?=some o->S m2=false->(∀ j∈bS.getD m2 [],S j=true)->(∀ k o,G k=some o->G1 k=some o)->St N D w0 F G0 G1 L2 T a w->(∀ b i d,i≠m2->S i=true->dZ l i=some d->∃ v,a.tmps[d]?=some v∧pr b k i v G1) ->
   WL r P l.toArray (fun e a' w'=>e=.normal∧∃ b,DX N D w0 F G0 G ((b,ob) :: L2) T l (pr b k) (dO S m2) a' w') [o] a w)
  (avQ:∀ o b S a w G1,l[m3]?=some o->S m3=false->(∀ j∈bS.getD m3 [],S j=true)->(∀ k o,G k=some o->G1 k=some o)->St N D w0 F G0 G1 ((b,ob) :: L2) T a w->(∀ k i d,i≠m3->S i=true->dZ l i=some d->∃ v,a.tmps[d]?=some v∧pr b k i v G1) ->
   WL r P l.toArray (fun e a' w'=>e=.normal∧∃ k,DX N D w0 F G0 G (L3 b k) T l (pr b k) (dO S m3) a' w') [o] a w)
  (hend:∀ b k a w G1,(∀ k o,G k=some o->G1 k=some o)->St N D w0 F G0 G1 (L3 b k) T a w->(∀ i d,B.contains i=false->dZ l i=some d->∃ v,a.tmps[d]?=some v∧pr b k i v G1)->WL r P l.toArray (fun e a w=>e=.normal∧Q .normal a w) (qK l B) a w)
  (NH:Nat.blt m2 l.length=true) (XQ:Nat.blt m3 l.length=true):WP r P (.region id l.toArray true) Q a w:=by
 have aiY:m1≠m2:=fun e=>by subst e;rw [Nat.beq_refl] at hne;cases hne
 have aja:m2≠m3:=fun e=>by subst e;rw [Nat.beq_refl] at ahp;cases ahp
 have aiZ:m1≠m3:=fun e=>by subst e;rw [Nat.beq_refl] at hne1;cases hne1
 refine MH hm bS B hk hB (fun S a w=>(S m2=true->S m1=true)∧(S m3=true->S m2=true)∧∃ b k L',L'=(bif S m3 then L3 b k else bif S m2 then (b,ob) :: L2 else bif S m1 then L2 else L)∧DX N D w0 F G0 G L' T l (pr b k) S a w)
  ⟨fun h=>h,fun h=>h,0,k0,L,O,G,fun _ _ h=>h,H.move H.hp.drew,fun _ _ h=>absurd (show false=true from h) Q1⟩ ?_ ?_
 ·rintro i o S a w ho hb aV kM hdesc ⟨awd,awe,b,k,L',hL,G1,hG,HS,hv⟩
  have hsub:∀ x,x∈C->x∈L':=fun x hx=>by
   rw [hL]
   cases S m3 with
   | true=>exact hC3 b k x hx
   | false=>cases S m2 with
    | true=>exact gH _ (hC2 x hx)
    | false=>cases S m1 with
     | true=>exact hC2 x hx
     | false=>exact hC x hx
  have hno:∀ j,j < l.length->S j=true->(bS.getD j []).contains i=false:=fun j hjl hj=>by
   cases hc:(bS.getD j []).contains i with
   | false=>rfl
   | true =>
    have:=hdesc j hjl (by simpa using hc)
    rw [this] at hj;cases hj
  by_cases h1:i=m1
  ·subst h1
   have hS2:S m2=false:=hdesc m2 (Eq.mp Nat.blt_eq NH) (by simpa using h12)
   have J8:S m3=false:=hdesc m3 (Eq.mp Nat.blt_eq XQ) (by simpa using fT)
   rw [J8,hS2,aV] at hL
   subst hL
   have h:=avO o b k S a w G1 ho aV kM hG HS fun j d hj hSj hd=>hv j d hSj hd
   have e2:dO S i m2=S m2:=ay (fun e=>aiY e.symm)
   have e3:dO S i m3=S m3:=ay (fun e=>aiZ e.symm)
   refine pF (fun e a' w' ⟨he,hD⟩=>⟨he,fun _=>aH O,fun h=>(by rw [e3,J8] at h;cases h),b,k,_,?_,hD⟩) h
   rw [show dO S i i=true from aH O,e2,e3,hS2,J8]
   rfl
  ·by_cases h2:i=m2
   ·subst h2
    have hS1:S m1=true:=kM m1 (by simpa using h12)
    have J8:S m3=false:=hdesc m3 (Eq.mp Nat.blt_eq XQ) (by simpa using h23)
    rw [J8,aV,hS1] at hL
    subst hL
    have e1:dO S i m1=S m1:=ay aiY
    have e3:dO S i m3=S m3:=ay (fun e=>aja e.symm)
    have h:=avP o k S a w G1 ho aV kM hG HS fun b' j d hj hSj hd=>by
     obtain ⟨v,hv1,hv2⟩:=hv j d hSj hd
     exact ⟨v,hv1,awj b b' k j v _ (xB hj) (hno j (wG hd) hSj) hv2⟩
    refine pF (fun e a' w' ⟨he,b',hD⟩=>⟨he,fun _=>by rw [e1];exact hS1,fun _=>aH O,b',k,_,?_,hD⟩) h
    rw [show dO S i i=true from aH O,e3,J8];rfl
   ·by_cases h3:i=m3
    ·subst h3
     have hS1:S m1=true:=kM m1 (by simpa using fT)
     have hS2:S m2=true:=kM m2 (by simpa using h23)
     rw [aV,hS2] at hL
     subst hL
     have e1:dO S i m1=S m1:=ay aiZ
     have e2:dO S i m2=S m2:=ay aja
     have h:=avQ o b S a w G1 ho aV kM hG HS fun k' j d hj hSj hd=>by
      obtain ⟨v,hv1,hv2⟩:=hv j d hSj hd
      exact ⟨v,hv1,awk b k k' j v _ (xB hj) (hno j (wG hd) hSj) hv2⟩
     refine pF (fun e a' w' ⟨he,k',hD⟩=>⟨he,fun _=>by rw [e1];exact hS1,fun _=>by rw [e2];exact hS2,b,k',_,?_,hD⟩) h
     rw [show dO S i i=true from aH O];rfl
    ·have h:=zL hstep i o ho
     rw [fO] at h
     have e1:dO S i m1=S m1:=ay (fun e=>h1 e.symm)
     have e2:dO S i m2=S m2:=ay (fun e=>h2 e.symm)
     have e3:dO S i m3=S m3:=ay (fun e=>h3 e.symm)
     refine pF (fun e a' w' ⟨he,hD⟩=>⟨he,by rw [e1,e2];exact awd,by rw [e2,e3];exact awe,b,k,L',?_,hD⟩) (h b k L' S a w G1 hsub hb (xB h1) (xB h2) (xB h3) aV kM hG HS hv)
     rw [e1,e2,e3];exact hL
 ·rintro S a w hall Rw ⟨_,_,b,k,L',hL,G1,hG,HS,hv⟩
  have hs3:S m3=true:=hall m3 (Eq.mp Nat.blt_eq XQ) avN
  rw [hs3] at hL
  subst hL
  exact hend b k a w G1 hG HS fun j d hb hd=>hv j d (hall j (wG hd) hb) hd
end
theorem aCd {z:Int} (h1:0<=z) (h2:z < 256):IntKind.u8.wrap z=z:=by
 simp only [IntKind.wrap,IntKind.bits,IntKind.signed,Bool.false_and,yC,if_false]
 omega
section
variable {N:Nat} {D:List Deferred} {w0:World} {F:Nat->Prop} {G0 G:GH} {L:OL} {T:List (Nat × ah)}
variable {r:Option Nat} {P:Program} {ops:Array Oper} {Q:Exit->Act->World->Prop} {rest:List Oper} {a:Act} {w:World}
variable {d:Nat} {ty:TypeId} {pos:String} {aL:Array Edge} {g:Option (Nat × Bool)}
theorem aBb {x y:Operand} {t yt:TypeId} {p q:Int} (H:St N D w0 F G0 G L T a w) (hw:Region.wanted ⟨some d,.binOp .sub t x y yt,ty,pos,aL,g⟩ (yielded ops a.tmps)=true) (hx:ev T x=some (.int .u8 p)) (hy:ev T y=some (.int .u8 q)) (h1:0<=p - q) (h2:p - q < 256) (hd:Nat.blt d N=true)
  (k:∀ a',St N D w0 F G0 G L ((d,.int .u8 (p - q)) :: T) a' w->WL r P ops Q rest a' w):WL r P ops Q (⟨some d,.binOp .sub t x y yt,ty,pos,aL,g⟩ :: rest) a w :=
 fQ (v:=.int .u8 (p - q)) (w':=w) hw O (by simp [execOp,eqGuard,binOp,Op.intArith,H.ev hx,H.ev hy,dM,aCd h1 h2]) (k _ (H.put hd _ H.hp))
end
end
theorem arI:aW 275:=aY func275 O
theorem OC:Ty prog 313 1 24 [.slice none 0 0] false:=⟨Z,Z⟩
theorem afp:aW 90:=aY func90 O
theorem LH:prog.underlying 313=some (.slice 318):=by kernel_rfl
theorem LD:Ty prog 318 3 32 [.string ⟨#[]⟩,.int .i64 0,.bool false] true:=⟨Z,Z⟩
theorem arJ:aW 276:=aY func276 O
theorem Nb:dz prog 341 2 2:=⟨Z⟩
theorem Nc:dz prog 341 3 4:=⟨Z⟩
theorem akT:qW prog 318 [(0,1),(1,1),(2,1)] [.string ⟨#[]⟩,.int .i64 0,.bool false]:=⟨Z,Z⟩
theorem Wt:aW 261:=aY func261 O
theorem QB:dz prog 341 4 5:=⟨Z⟩
structure jE where
 lit:ByteArray
 level:Int
 plain:Bool
def jE.dat (x:jE):List Dat:=[.lf (.string x.lit),li x.level,.lf (.bool x.plain)]
abbrev jE.cells (x:jE):List ah:=[.string x.lit,vi x.level,.bool x.plain]
theorem abt {p:Prop} (h:p:=by
 exact ⟨_,_,O,by simp [av,Value.oneCell'],_,_,O,by simp [av,Value.oneCell'],_,_,O,by simp [av,Value.oneCell'],O⟩):p:=h
theorem aiL (G:GH) (x:jE):aX G x.dat x.cells:=by
 simp only [jE.dat,jE.cells,aX]
 exact abt
theorem acj {p:Prop} (h:p:=by
 obtain ⟨_,_,rfl,⟨rfl,_⟩,_,_,rfl,⟨rfl,_⟩,_,_,rfl,⟨rfl,_⟩,rfl⟩:=h
 rfl):p:=h
theorem aiK {G:GH} {x:jE} {cs:List ah} (h:aX G x.dat cs):cs=x.cells:=by
 simp only [jE.dat,aX,av] at h
 exact acj
def Iu (l:List jE):List ah:=(l.map jE.cells).flatten
theorem aiJ (l:List jE) (x:jE):Iu (l++[x])=Iu l++x.cells:=by simp [Iu]
structure Cg (b:Nat) (lit:List UInt8) (parts:List jE) (p v q:ah) (Lp Lo:OL):Prop where
 ptr:p=.pointer none∨p=(aJ b 2)
 buf:bV 5 1 v lit.length (Lib.byteCells lit) Lo
 prt:bV 318 3 q parts.length (Iu parts) Lp
def yT (lit:List UInt8) (parts:List jE):List jE:=if lit=[] then parts else parts++[⟨⟨lit.toArray⟩,0,false⟩]
theorem anA {p:Prop} (h:p:=by
 exact JJ HT Hb hG hv (gK dW iW) H O):p:=h
theorem abu {p:Prop} (h:p:=by
 first
  | exact H.hp.kJ (L':=iH b s i _ _ _ pl e :: iW.2) (Dq _ _) ⟨_,_,_,iW.2,[],by rw [jV],⟨.inl O,bV.nil,by rw [yT,ay hne];simpa using NV⟩⟩
  | exact H.hp.gI ⟨_,_,_,Lp,Lo,by rw [tF],by
    have h0:lit=[]:=by
     cases lit with
     | nil=>rfl
     | cons x r=>simp at p6
    subst h0;exact ⟨awl,hbuf,by rw [yT,aH O];exact X6⟩⟩):p:=h
theorem GL {p:Prop} (h:p:=by
 clear H;intro a H;refine aF ⟨O,?_⟩;exact anA):p:=h
theorem Jz {p:Prop} (h:p:=by
 intro _ _ _ _ _ _ _ _ hB;exact jW):p:=h
theorem Vb {p:Prop} (h:p:=by
 intro dW iW jU bC a w G1 kU _ _ _ _ aV hc hG HT hv;have H:=HT;clear aV;have Hb:=H.full;have H:=Hb;clear hc;refine kH H (Rm O ?_);exact GL):p:=h
set_option maxHeartbeats 1000000 in
theorem WS (G:GH) (Lp Lo:OL) (w0:World) (b:Nat) (s:ByteArray) (i:Int) (p v q:ah) (pl e:Int) (lit:List UInt8) (parts:List jE) (hR:Cg b lit parts p v q Lp Lo) (hO:fM G (iH b s i p v q pl e :: (Lp++Lo)) w0) (hl:lit.length<=4294967296) (hp:parts.length<=4294967296) :
  Calls prog 261 #[(aJ b 0)] w0 (fB w0 G (iH b s i p v q pl e :: (Lp++Lo)) fun u G' L'=>∃ p' v' q' rV gG,L'=iH b s i p' v' q' pl e :: (rV++gG)∧Cg b [] (yT lit parts) p' v' q' rV gG):=by
 obtain ⟨awl,hbuf,X6⟩:=hR;have hml:maxLen=9223372036854775807:=rfl;obtain ⟨A,c,rfl,ahW,ahX⟩:=hbuf.shape;obtain ⟨B,d,rfl,ahB,ahC⟩:=X6.shape;obtain ⟨Lt,tF⟩:∃ x,x=Lp++Lo:=⟨_,O⟩;rw [<- tF] at hO |-;refine iB (N:=25) (T:=[(0,_)]) func261 O ntmps261 O O hO ?_;intro a H;refine kP H (SR fun _ K1=>Rm O (Rk O (Rf Nb O ?_)));clear H;intro a H;refine gD arI (Li:=[]) (L:=iH b s i p (.slice A lit.length c) (.slice B parts.length d) pl e :: Lt) H wn O (aBF _ _ _ b s i p A lit.length c B parts.length d pl e (Hp.owns (Li:=[]) H.hp)) O ?_;clear H;rintro v5 _ L5 a w ⟨rfl,rfl,rfl⟩ XM H;dsimp only [List.nil_append] at H;refine kH H (Rc O (Kz K1 (Cd O ?_ ?_))) <;> clear H K1
 ·intro h6 a H
  try have p6:=dT h6
  have hne:lit≠[]:=fun e=>by rw [e] at p6;simp at p6
  subst tF;refine bP (fun _ K2=>?_)
  have gK:Mo2 (fun (dW:Nat) (iW:(Option Addr × Nat) × OL) (dK:Nat) (v:ah) (G:GH)=>match dK with|0=>v=(aJ b 0)|1=>v=(aJ b 0)|2=>v=(aJ b 0)|3=>v=(aJ b 4)|4=>v=.slice B parts.length d|5=>v=(aJ b 0)|6=>v=(aJ b 0)|7=>v=(aJ b 2)|8=>v=.string ⟨lit.toArray⟩|9=>v=.agg (jE.cells ⟨⟨lit.toArray⟩,0,false⟩).toArray|10=>v=.slice (some ⟨dW,0,none⟩) 1 1|11=>v=.slice iW.1.1 (parts.length+1) iW.1.2∧bV 318 3 v (parts.length+1) (Iu (parts++[⟨⟨lit.toArray⟩,0,false⟩])) iW.2|_=>True):=by intro dW iW dK v G G' hm h;(iterate 15 (rcases dK with _|dK;(first|exact h)));exact trivial
  refine anW (κ:=(Option Addr × Nat) × OL) (((none,0),[])) (hmx) [[],[],[1],[1,2],[1,2,3],[],[5],[5,6],[5,6,7],ra 5 4,ra 5 5,ra 1 10,ra 0 12,ra 0 13,ra 0 14] [12,13,14] Z Z 8 10 11 Q1 Q1 Q1 Q1 Q1 Q1 Q1 Q1 Q1 [iH b s i p (.slice A lit.length c) (.slice B parts.length d) pl e] (iH b s i p (.slice A lit.length c) (.slice B parts.length d) pl e :: Lp) (.cells (jE.cells ⟨⟨lit.toArray⟩,0,false⟩).toArray 318 (0,0)) (fun b_ k_=>(b_,.cells (jE.cells ⟨⟨lit.toArray⟩,0,false⟩).toArray 318 (0,0)) :: iH b s i p (.slice A lit.length c) (.slice B parts.length d) pl e :: k_.2) (fun x hx=>by rw [qX.1 hx];exact eT) (fun x hx=>by rw [qX.1 hx];exact eT) (fun _ _ x hx=>by rw [qX.1 hx];exact gH _ eT) (fun (dW:Nat) (iW:(Option Addr × Nat) × OL) (dK:Nat) (v:ah) (G:GH)=>match dK with|0=>v=(aJ b 0)|1=>v=(aJ b 0)|2=>v=(aJ b 0)|3=>v=(aJ b 4)|4=>v=.slice B parts.length d|5=>v=(aJ b 0)|6=>v=(aJ b 0)|7=>v=(aJ b 2)|8=>v=.string ⟨lit.toArray⟩|9=>v=.agg (jE.cells ⟨⟨lit.toArray⟩,0,false⟩).toArray|10=>v=.slice (some ⟨dW,0,none⟩) 1 1|11=>v=.slice iW.1.1 (parts.length+1) iW.1.2∧bV 318 3 v (parts.length+1) (Iu (parts++[⟨⟨lit.toArray⟩,0,false⟩])) iW.2|_=>True) (fun b b' k i v G hi hc h=>by (iterate 15 (rcases i with _|i;(first|exact h|exact absurd hi Q1|exact absurd hc Q1)));exact trivial) (fun b k k' i v G hi hc h=>by (iterate 15 (rcases i with _|i;(first|exact h|exact absurd hi Q1|exact absurd hc Q1)));exact trivial) H ?_ ?_ ?_ ?_ ?_ Z Z
  ·clear H;refine aC ?_ ?_ ?_ ?_ (aC ?_ ?_ ?_ ?_ (aC ?_ ?_ ?_ ?_ (bK ?_ (bK ?_ (bK ?_ dG)))))
   ·exact Vb
   ·exact Vb
   ·intro dW iW jU bC a w G1 kU _ _ _ _ aV hc hG HT hv;have H:=HT;clear aV;have H:=H.aQ (hv 1 8 (hc 1 Q1) O) O;have Hb:=H.full;have H:=Hb;clear hc;refine kH H (Rk O ?_);exact GL
   ·intro dW iW jU bC a w G1 kU _ _ _ _ aV hc hG HT hv;have H:=HT;clear aV;have H:=H.aQ (hv 2 9 (hc 2 Q1) O) O;have Hb:=H.full;have H:=Hb;clear hc;refine kH H (Rf Nc O ?_);exact GL
   ·intro dW iW jU bC a w G1 kU _ _ _ _ aV hc hG HT hv;have H:=HT;clear aV;have H:=H.aQ (hv 3 10 (hc 3 Q1) O) O;have Hb:=H.full;have H:=Hb;clear hc;refine tQ OC H wn O (H.hp.KQ (kU _ eT) O) O ?_;exact GL
   ·exact Vb
   ·intro dW iW jU bC a w G1 kU _ _ _ _ aV hc hG HT hv;have H:=HT;clear aV;have H:=H.aQ (hv 5 12 (hc 5 Q1) O) O;have Hb:=H.full;have H:=Hb;clear hc;refine kH H (Rk O ?_);exact GL
   ·intro dW iW jU bC a w G1 kU _ _ _ _ aV hc hG HT hv;have H:=HT;clear aV;have H:=H.aQ (hv 6 13 (hc 6 Q1) O) O;have Hb:=H.full;have H:=Hb;clear hc;refine kH H (Rf Nb O ?_);exact GL
   ·intro _ _ _ _ _ _ _ _ _ hB;exact jW
   ·intro dW iW jU bC a w G1 kU _ _ _ _ aV hc hG HT hv;have H:=HT;clear aV;have H:=H.aQ (hv 8 15 (hc 8 Q1) O) O;have Hb:=H.full;have H:=Hb;clear hc;refine kg akT [_,_,_] H wn O O O O ?_;exact GL
   ·intro _ _ _ _ _ _ _ _ _ _ hB;exact jW
   ·intro _ _ _ _ _ _ _ _ _ _ _ hB;exact jW
   ·intro _ _ _ _ _ _ _ _ hB;exact jW
   ·intro _ _ _ _ _ _ _ _ hB;exact jW
   exact Jz
  ·clear H;intro o_ dW iW bC a w G1 xM _ hc hG HT hv;obtain rfl:_=o_:=Option.some.inj xM;clear xM;have H:=HT;have H:=H.aQ (hv 7 14 Q1 (hc 7 Q1) O) O;have Hb:=H.full;have H:=Hb;clear hc;refine gD afp (Li:=[]) (L:=iH b s i p (.slice A lit.length c) (.slice B parts.length d) pl e :: (Lp++Lo)) H wn O (aB1 _ _ _ _ b s i p _ B parts.length d pl e lit (Hp.owns (Li:=[]) H.hp) hbuf hne) O ?_;clear H;rintro v15 EB L15 a w ⟨rfl,rfl⟩ Ht H;dsimp only [List.nil_append] at H;refine aF ⟨O,?_⟩;exact EO Z (gK dW iW) O HT Hb hG (fun j e h1 h2 h3=>hv j e h1 h2 h3) Ht (rfl) H
  ·clear H;intro o_ iW bC a w G1 xM _ hc hG HT hv;obtain rfl:_=o_:=Option.some.inj xM;clear xM;have H:=HT;have H:=H.aQ (hv 0 9 16 Q1 (hc 9 Q1) O) O;have Hb:=H.full;have H:=Hb;clear hc;refine iG LH LD [_,_,_] [_,_,_] H wn O O O O O (by intro i q h;match i,h with|0,h=>exact h|n+1,h=>simp at h) O O ?_;clear H;intro b17 a w aDl H;refine aF ⟨O,b17,?_⟩;exact aev Z O HT Hb hG (fun j e h1 h2 h3=>hv _ j e h1 h2 h3) (rfl) H
  ·clear H;intro o_ dW bC a w G1 xM _ hc hG HT hv;obtain rfl:_=o_:=Option.some.inj xM;clear xM;have H:=HT;have H:=H.aQ (hv (((none,0),[])) 4 11 Q1 (hc 4 Q1) O) O;have H:=H.aQ (hv (((none,0),[])) 10 17 Q1 (hc 10 Q1) O) O;have Hb:=H.full;have H:=Hb;clear hc;refine mh (Li:=[_,_]) (Lo:=Lp) (news:=jE.cells ⟨⟨lit.toArray⟩,0,false⟩) LH LD O O H wn O O X6 O (H.hp.dD 0 O O) O V V O ?_;clear H;intro v18 ams a w NV H;obtain ⟨A18,c18,rfl,-,-⟩:=NV.shape;rw [<- aiJ] at NV;refine aF ⟨O,((A18,c18),ams),?_⟩;exact aev Z O HT Hb hG (fun j e h1 h2 h3=>hv _ j e h1 h2 h3) (⟨O,NV⟩) H
  clear H;intro b17 iW a w G jA H hv;have H:=H.aQ (hv 0 7 O O) O;obtain ⟨u18,Yc,NK⟩:=hv 11 18 Q1 O;(try dsimp only at NK);obtain ⟨rfl,NV⟩:=NK;have H:=H.fV Yc;clear hv;refine kH H (Rk O (Rf Nc O ?_));clear H;intro a H;refine bM OC 1 (vs:=[_]) H wn O ?_;clear H;intro w H;refine aF ⟨O,?_⟩;refine K2 _ _ ?_;clear K2;refine kP H (SC (Rm O (Rk O (Rf Nb O ?_))));clear H;intro a H;refine gD arJ (Li:=[_]) (L:=iH b s i p (.slice A lit.length c) (.slice iW.1.1 (parts.length+1) iW.1.2) pl e :: iW.2) H wn O (aBZ _ _ _ b s i p A lit.length c iW.1.1 (parts.length+1) iW.1.2 pl e (Hp.owns (Li:=[_]) H.hp)) O ?_;clear H;rintro v24 _ Ug a w ⟨rfl,rfl⟩ wN H;dsimp only [lca,bD] at H;refine aF ?_;refine (leave0 H results261 ?_).2
  exact abu
 intro h6 a H
 try have p6:=dF h6
 refine gT ?_;refine (leave0 H results261 ?_).2
 exact abu
theorem ajI (G:GH) (Lp Lo:OL) (w0:World) (b:Nat) (s:ByteArray) (i:Int) (p v q:ah) (pl e:Int) (lit:List UInt8) (parts:List jE) (ch:Int) (plain:Bool) (hR:Cg b lit parts p v q Lp Lo) (hO:fM G (iH b s i p v q pl e :: (Lp++Lo)) w0) (hl:lit.length<=4294967296) (hp:parts.length<=4294967290) (hc:49<=ch∧ch<=57) (hpl:0<=pl∧pl<=4294967296) :
  Calls prog 274 #[(aJ b 0),.int .u8 ch,.bool plain] w0 (fB w0 G (iH b s i p v q pl e :: (Lp++Lo)) fun u G' L'=>∃ p' v' q' rV gG,L'=iH b s i p' v' q' (pl+1) e :: (rV++gG)∧Cg b [] (yT lit parts++[⟨⟨#[]⟩,ch - 48,plain⟩]) p' v' q' rV gG):=by
 have hml:maxLen=9223372036854775807:=rfl
 have hfl:(yT lit parts).length<=parts.length+1:=by unfold yT;split <;> simp
 obtain ⟨A,c,rfl,ahW,ahX⟩:=hR.buf.shape;obtain ⟨B,d,rfl,ahB,ahC⟩:=hR.prt.shape;obtain ⟨Lt,tF⟩:∃ x,x=Lp++Lo:=⟨_,O⟩;rw [<- tF] at hO |-;refine iB (N:=29) (T:=[(0,_),(1,_),(2,_)]) func274 O ntmps274 O O hO ?_;intro a H;refine kP H (SR fun _ K1=>Rm O ?_);clear H;intro a H;refine gD Wt (Li:=[]) (L:=iH b s i p (.slice A lit.length c) (.slice B parts.length d) pl e :: Lt) H wn O (by subst tF;exact WS _ Lp Lo _ b s i p _ _ pl e lit parts hR (Hp.owns (Li:=[]) H.hp) hl V) O ?_;clear H;rintro v7 G7 L7 a w ⟨p',v',q',rV,gG,rfl,Nk⟩ Cu H;dsimp only [List.nil_append] at H;obtain ⟨A7,c7,rfl,-,-⟩:=Nk.buf.shape;obtain ⟨B7,d7,rfl,-,-⟩:=Nk.prt.shape;refine K1 _ _ ?_;clear K1;refine kP H (SR fun _ K2=>Rm O (Rm O (Rk O (aU Nc OC 0 O O (Rm O ?_)))));clear H;intro a H;refine aBb H wn O O V V O ?_;clear H;intro a H;refine FD _ mQ OH H wn O O O ?_;clear H;intro a H;rw [Ii V V] at H;refine kH H (Rm O ?_);clear H;intro a H;refine kg akT [_,_,_] H wn O O O O ?_;clear H;intro a H;refine iG LH LD [_,_,_] [_,_,_] H wn O O O O O (by intro i q h;match i,h with|0,h=>exact h|n+1,h=>simp at h) O O ?_;clear H;intro b18 a w QW H;have H:=(St.cast H (show _=[_,_]++(rV++gG) from rfl)).perm (List.Perm.append_left _ um);have H:=St.un H;refine mh (Li:=[_,_]++gG) (Lo:=rV) (news:=jE.cells ⟨⟨#[]⟩,ch - 48,plain⟩) LH LD O O H wn O O Nk.prt O (H.hp.dD 0 O O) O V V O ?_;clear H;intro v19 aao a w Fx H;obtain ⟨Ez,c19,rfl,-,-⟩:=Fx.shape;rw [<- aiJ] at Fx;have H:=H.assoc.perm (List.Perm.append_left _ um);dsimp only [lca,bD] at H;refine kH H (Rk O (Rf Nc O ?_));clear H;intro a H;refine bM OC 1 (vs:=[_]) H wn O ?_;clear H;intro w H;refine K2 _ _ ?_;clear K2;refine kP H (SC (Rm O (Rk O (aU QB aD 1 O O (Rd O (Rk O (Rf QB O ?_)))))));clear H;intro a H;refine bM aD 1 (vs:=[_]) H wn O ?_;clear H;intro w H;refine aF ?_;refine (leave0 H results274 ?_).2;exact H.hp.kJ (L':=iH b s i _ _ _ (pl+1) e :: (aao++gG)) (Dq _ _) ⟨_,_,_,aao,gG,O,Nk.ptr,Nk.buf,by simpa using Fx⟩
section
section
variable {N:Nat} {D:List Deferred} {w0:World} {F:Nat->Prop} {G0 G:GH} {L:OL} {T Xs:List (Nat × ah)}
variable {r:Option Nat} {P:Program} {Q:Exit->Act->World->Prop} {l:List Oper} {a a':Act} {w w':World}
abbrev Ent:Type:=Nat × ah × Nat × Bool
def aal (ent:List Ent) (S:Nat->Bool) (a:Act):Prop:=∀ e∈ent,S e.2.2.1=e.2.2.2->a.tmps[e.1]?=some e.2.1
theorem aal.at {ent:List Ent} {S:Nat->Bool} {a:Act} (h:aal ent S a) (k:Nat) {t:Nat} {v:ah} {j:Nat} {b:Bool} (hk:ent[k]?=some (t,v,j,b)) (hS:S j=b):a.tmps[t]?=some v:=h _ (lQ hk) hS
theorem aBa {ops:Array Oper} {rest:List Oper} {d:Nat} {ty:TypeId} {pos:String} {aL:Array Edge} {g:Option (Nat × Bool)} {t:TypeId} {x y:Operand} {s:ByteArray} {ky:IntKind} {p:Int} (hi:Nat) (ht:P.underlying t=some .string) (H:St N D w0 F G0 G L T a w) (hw:Region.wanted ⟨some d,.slice t x none (some y) none,ty,pos,aL,g⟩ (yielded ops a.tmps)=true) (hx:ev T x=some (.string s)) (hy:ev T y=some (.int ky p)) (hp:p=(hi:Int)) (h1:hi<=s.size) (hd:Nat.blt d N=true)
  (k:∀ a',St N D w0 F G0 G L ((d,.string (s.extract 0 hi)) :: T) a' w->WL r P ops Q rest a' w):WL r P ops Q (⟨some d,.slice t x none (some y) none,ty,pos,aL,g⟩ :: rest) a w:=by
 subst hp
 have hr:=run_slice_string_h (P:=P) w t s ht ky (hi:Int) V V
 rw [Int.toNat_natCast] at hr
 refine fQ (v:=.string (s.extract 0 hi)) (w':=w) hw O ?_ (k _ (H.put hd _ H.hp))
 simp only [execOp,H.ev hx,Option.map_some,Option.map_none,H.ev hy,dM,run_sliceAt_string w t _ _ _ _ ht,hr,kW,rW]
end
end
theorem arK:aW 282:=aY func282 O
theorem yS:dz prog 341 0 0:=⟨Z⟩
theorem afc:aW 260:=aY func260 O
theorem afe:aW 273:=aY func273 O
theorem aff:aW 274:=aY func274 O
theorem rD:dz prog 341 1 1:=⟨Z⟩
theorem afd:aW 272:=aY func272 O
theorem DN:dz prog 341 5 6:=⟨Z⟩
def vI (s p:ByteArray):Bool:=decide (p.size<=s.size) && ((s.extract 0 p.size).toList == p.toList)
theorem auH (G:GH) (w0:World) (hG:Hold G w0) (s p:ByteArray) (hs:s.size<=4611686018427387904) (hp:p.size<=4611686018427387904):Calls prog 282 #[.string s,.string p] w0 (bG w0 G fun u G'=>u=.bool (vI s p)∧G=G'):=by
 refine eN [(0,_),(1,_)] func282 O ntmps282 O O hG ?_;intro a H;refine kP H (SR fun _ K1=>au K1 O (SR fun _ K2=>Rm O (Rv iI O (Rm O (Rv iI O (Rc O (Rm O (Sp 10 O ?_ ?_)))))))) <;> clear H K1
 ·intro h10 a H
  try have kN:=dT h10
  refine kH H (YM h10 O (YM h10 O ?_));clear H;intro a H;refine FE iI H (wg H O O h10) O O ?_;clear H;intro a H;refine aBa p.size iI H (wg H O O h10) O O O V O ?_;clear H;intro a H;refine kH H (YM h10 O ?_);clear H;intro a H;refine CW H (wg H O O h10) O O O ?_;clear H;intro a H;exact kH H (Pt h10 O (au K2 O (LR results282 O fun H=>H.rt ⟨iq (by unfold vI;first|(simp_all;done)|(simp_all;omega)),rfl⟩)))
 intro h10 a H
 try have kN:=dF h10
 exact kH H (bg h10 O (bg h10 O (Pf h10 O (au K2 O (LR results282 O fun H=>H.rt ⟨iq (by unfold vI;first|(simp_all;done)|(simp_all;omega)),rfl⟩)))))
theorem agJ (G:GH) (w0:World) (hG:Hold G w0) (s p:ByteArray) (hs:s.size<=4611686018427387904) (hp:p.size<=4611686018427387904):Calls prog 272 #[.string s,.string p] w0 (bG w0 G fun u G'=>u=.bool (vI s p)∧G=G'):=by
 refine eN [(0,_),(1,_)] func272 O ntmps272 O O hG ?_;intro a H;refine kP H (SR fun _ K1=>au K1 O (SR fun _ K2=>Rm O (Rm O ?_)));clear H K1;intro a H;refine s_call arK H wn O (auH _ _ H.ro s p hs hp) O ?_;clear H;rintro v7 _ a w ⟨rfl,rfl⟩ - H;exact kH H (au K2 O (LR results272 O fun H=>H.rt ⟨O,O⟩))
def yK (s:ByteArray) (k:Nat):Bool:=decide (k < s.size) && decide (49<=gN s k) && decide (gN s k<=57)
theorem aes (G:GH) (L:OL) (w0:World) (b:Nat) (s:ByteArray) (i:Int) (p v q:ah) (pl e:Int) (k:Nat) (hs:s.size<=4611686018427387904) (hO:fM G (iH b s i p v q pl e :: L) w0) :
  Calls prog 273 #[(aJ b 0),vi k] w0 (fB w0 G (iH b s i p v q pl e :: L) fun u G' L'=>u=.bool (yK s k)∧L'=iH b s i p v q pl e :: L∧G'=G):=by
 refine iB (N:=30) (T:=[(0,_),(1,_)]) func273 O ntmps273 O O hO ?_;intro a H;refine kP H (SR fun _ K1=>au K1 O (SR fun _ K2=>Rm O (Rm O (Rk O (aU yS gV 0 O O (Rv iI O (Rc O (Rm O (Sp 12 O ?_ ?_))))))))) <;> clear H K1
 ·intro h12 a H
  try have pq:=dT h12
  refine kH H (YM h12 O ?_);clear H;intro a H;refine zx H (wg H O O h12) O O ?_;clear H;intro a H;refine kH H (YF yS h12 O (YO gV 0 h12 O (YM h12 O ?_)));clear H;intro a H;refine qy k iI H (wg H O O h12) O O O V O ?_;clear H;intro a H;rw [<- nJ] at H;refine kH H (YC h12 O (Pt h12 O (Rm O (Sp 21 O ?_ ?_)))) <;> clear H
  ·intro h21 a H
   try have sK:=dT h21
   refine kH H (YM h21 O ?_);clear H;intro a H;refine zx H (wg H O O h21) O O ?_;clear H;intro a H;refine kH H (YF yS h21 O (YO gV 0 h21 O (YM h21 O ?_)));clear H;intro a H;refine qy k iI H (wg H O O h21) O O O V O ?_;clear H;intro a H;rw [<- nJ] at H;exact kH H (YC h21 O (Pt h21 O (au K2 O (LR results273 O fun H=>H.hp.gI ⟨iq (by unfold yK;first|(simp_all;done)|(simp_all;omega)),rfl,rfl⟩))))
  intro h21 a H
  try have sK:=dF h21
  exact kH H (bg h21 O (aR h21 O (aR h21 O (Pf h21 O (au K2 O (LR results273 O fun H=>H.hp.gI ⟨iq (by unfold yK;first|(simp_all;done)|(simp_all;omega)),rfl,rfl⟩))))))
 intro h12 a H
 try have pq:=dF h12
 exact kH H (bg h12 O (aR h12 O (aR h12 O (Pf h12 O (Rm O (bg O O (aR O O (aR O O (Pf O O (au K2 O (LR results273 O fun H=>H.hp.gI ⟨iq (by unfold yK;first|(simp_all;done)|(simp_all;omega)),rfl,rfl⟩)))))))))))
structure wz where
 i:Nat
 lit:List UInt8
 parts:List jE
 pl:Nat
 e:Int
def xV (s:ByteArray) (x:wz):wz :=
 if vI (s.extract x.i s.size) ⟨#[37,37]⟩=true then ⟨x.i+2,x.lit++[37],x.parts,x.pl,x.e⟩
 else if yK s (x.i+1)=true then ⟨x.i+2,[],yT x.lit x.parts++[⟨⟨#[]⟩,gN s (x.i+1) - 48,false⟩],x.pl+1,x.e⟩
 else if vI (s.extract x.i s.size) ⟨#[37,100]⟩=true∧yK s (x.i+2)=true then ⟨x.i+3,[],yT x.lit x.parts++[⟨⟨#[]⟩,gN s (x.i+2) - 48,true⟩],x.pl+1,x.e⟩
 else ⟨x.i,x.lit,x.parts,x.pl,14⟩
abbrev xW (b:Nat) (s:ByteArray) (x:wz) (p v q:ah):Nat × Obj:=iH b s x.i p v q x.pl x.e
theorem aer {s:ByteArray} {k:Nat} (h:yK s k=true):k < s.size∧49<=gN s k∧gN s k<=57:=by
 simpa [yK,and_assoc] using h
theorem UN {p:Prop} (h:p:=by
 first
  | exact H.hp.gI ⟨_,_,_,Uk,Md,by rw [xV,ay Kr,ay Kq,aH ⟨c1,iZ⟩];rfl,by rw [xV,ay Kr,ay Kq,aH ⟨c1,iZ⟩];exact Hw⟩
  | (have hn3:¬ (vI (s.extract i s.size) ⟨#[37,100]⟩=true∧yK s (i+2)=true):=by simp_all
     exact H.hp.gI ⟨_,_,_,Lp,Lo,by rw [xV,ay Kr,ay Kq,ay hn3,tF],by rw [xV,ay Kr,ay Kq,ay hn3];exact hR⟩)):p:=h
theorem acX {p:Prop} (h:p:=by
 refine gX 8 63 O O fun _ a w G1 hG HT H fin=>?_;refine s_call afd H wn O (agJ _ _ H.ro _ _ hex Q1) O ?_;clear H;rintro v64 G64 a w ⟨rfl,rfl⟩ aug H;exact fin H aug (rfl)):p:=h
theorem Qf {p:Prop} (h:p:=by
 clear H;intro a H;rw [<- nJ] at H;exact GD):p:=h
theorem abY {p:Prop} (h:p:=by
 refine gX 9 64 O O fun _ a w G1 hG HT H fin=>?_;refine kH H (Rm O ?_);clear H;intro a H;exact abn):p:=h
theorem Vh {p:Prop} (h:p:=by
 refine aA9 i iI H wn O O O V O ?_;exact iX):p:=h
set_option maxHeartbeats 1000000 in
theorem azv (G:GH) (Lp Lo:OL) (w0:World) (b:Nat) (s:ByteArray) (x:wz) (p v q:ah) (hR:Cg b x.lit x.parts p v q Lp Lo) (hO:fM G (xW b s x p v q :: (Lp++Lo)) w0) (hs:s.size<=4294967290) (hi:x.i < s.size) (hl:x.lit.length<=4294967290) (hp:x.parts.length<=4294967290) (hpl:x.pl<=4294967290) :
    Calls prog 259 #[(aJ b 0)] w0 (fB w0 G (xW b s x p v q :: (Lp++Lo)) fun u G' L'=>∃ p' v' q' rV gG,L'=xW b s (xV s x) p' v' q' :: (rV++gG)∧Cg b (xV s x).lit (xV s x).parts p' v' q' rV gG):=by
  obtain ⟨i,lit,parts,pl,e⟩:=x;dsimp only [xW] at *
  have hex:(s.extract i s.size).size<=4611686018427387904:=by rw [ByteArray.size_extract];omega
  obtain ⟨A,c,rfl,ahW,ahX⟩:=hR.buf.shape;obtain ⟨B,d,rfl,ahB,ahC⟩:=hR.prt.shape;obtain ⟨Lt,tF⟩:∃ x,x=Lp++Lo:=⟨_,O⟩;rw [<- tF] at hO |-;refine iB (N:=93) (T:=[(0,_)]) func259 O ntmps259 O O hO ?_;intro a H;refine AU ?_;refine bP (fun _ K1=>?_);refine dI hmx [[],[0],[0,1],[0,1,2],[],[4],[4,5],[4,5,6],ra 0 8,ra 0 9,ra 0 10] [] Z [_,_,_,.string s,_,_,_,vi i,.string (s.extract i s.size),.bool (vI (s.extract i s.size) ⟨#[37,37]⟩),_] H (aC (Z0 O (Rm O)) (Z1 0 6 O (Rk O)) (Z1 1 7 O (Rf yS O)) (Z1 2 8 O (Ro gV 0 O)) (aC (Z0 O (Rm O)) (Z1 4 10 O (Rk O)) (Z1 5 11 O (Rf rD O)) (Z1 6 12 O (Ro aD 0 O)) (bK ?_ (bK ?_ (bK (Z1 9 15 O (Ra O)) dG))))) ?_
  · refine eU 3 9 7 13 O O fun _ a w G1 hG HT H fin=>?_;exact Vh
  · refine gX 8 14 O O fun _ a w G1 hG HT H fin=>?_;refine s_call afd H wn O (agJ _ _ H.ro _ _ hex Q1) O ?_;clear H;rintro v15 EB a w ⟨rfl,rfl⟩ Ht H;exact fin H Ht (rfl)
  clear H;intro a w G jA H hv;have H:=H.aQ (hv 10 5 O O) O;clear hv;refine aF ⟨O,?_⟩;refine K1 _ _ ?_;clear K1;refine jX H O ?_ ?_
  · intro h5
    try have p5:=dT h5
    refine kP H (SR fun _ K2=>Rm O (Rk O (Rf Nb O ?_)));clear H;intro a H;refine gD afc (Li:=[]) (L:=iH b s i p (.slice A lit.length c) (.slice B parts.length d) pl e :: Lt) H wn O (by subst tF;exact alO _ Lp Lo _ b s i p _ B parts.length d pl e lit.length _ 37 hR.ptr (Hp.owns (Li:=[]) H.hp) hR.buf V) O ?_;clear H;rintro v19 _ L19 a w ⟨aEr,Uh,rfl,Fx,rfl⟩ nM H;dsimp only [List.nil_append] at H;obtain ⟨Ez,c19,rfl,-,-⟩:=Fx.shape;refine K2 _ _ ?_;clear K2;refine kP H (SC (Rm O (Rk O (aU rD aD 0 O O (Rd O (Rk O (Rf rD O ?_)))))));clear H;intro a H;refine bM aD 0 (vs:=[_]) H wn O ?_;clear H;intro w H;refine aF ?_;refine (leave0 H results259 ?_).2;exact H.hp.gI ⟨_,_,_,Lp,Uh,by rw [xV,aH h5];rfl,by rw [xV,aH h5];exact ⟨.inr O,by simpa [Lib.byteCells] using Fx,hR.prt⟩⟩
  intro h5
  try have p5:=dF h5
  refine kP H (SR fun _ K3=>Rm O (Rm O (Rk O (aU rD aD 0 O O (Rd O ?_)))));clear H;intro a H;rw [show ((i:Int)+1)=((i+1:Nat):Int) from rfl] at H;refine gD afe (Li:=[]) (L:=iH b s i p (.slice A lit.length c) (.slice B parts.length d) pl e :: Lt) H wn O (aes _ Lt _ b s i p _ _ pl e (i+1) V (Hp.owns (Li:=[]) H.hp)) O ?_;clear H;rintro v34 _ L34 a w ⟨rfl,rfl,rfl⟩ aha H;dsimp only [List.nil_append] at H;refine kH H (au K3 O (Cd O ?_ ?_)) <;> clear H K3
  · intro h27 a H
    try have p27:=dT h27
    have hd1:=aer h27;refine bP (fun _ K4=>?_);refine dI hmx [[],[],[1],[1,2],[1,2,3],[],[5],[5,6],[5,6,7],ra 5 4,ra 1 9,ra 0 11] [11] Z [_,_,_,_,.string s,_,_,_,vi i,_,.int .u8 (gN s (i+1))] H (aC (Z0 O (Rm O)) (Z0 O (Rm O)) (Z1 1 36 O (Rk O)) (Z1 2 37 O (Rf yS O)) (aC (Z1 3 38 O (Ro gV 0 O)) (Z0 O (Rm O)) (Z1 5 40 O (Rk O)) (Z1 6 41 O (Rf rD O)) (aC (Z1 7 42 O (Ro aD 0 O)) (Z1 8 43 O (Rd O)) ?_ (bQ O) dG))) ?_
    · refine eU 4 39 9 44 O O fun _ a w G1 hG HT H fin=>?_;refine qy (i+1) iI H wn O O O hd1.1 O ?_;exact Qf
    clear H;intro a w G Bn H hv;have H:=H.aQ (hv 0 35 O O) O;have H:=H.aQ (hv 10 45 O O) O;clear hv;refine gD aff (Li:=[]) (L:=iH b s i p (.slice A lit.length c) (.slice B parts.length d) pl e :: Lt) H wn O (by subst tF;exact ajI _ Lp Lo _ b s i p _ _ pl e lit parts (gN s (i+1)) false hR (Hp.owns (Li:=[]) H.hp) V V hd1.2 V) O ?_;clear H;rintro v46 G46 L46 a w ⟨p46,aCx,q46,Uk,Md,rfl,Hw⟩ avF H;dsimp only [List.nil_append] at H;obtain ⟨A46,c46,rfl,-,-⟩:=Hw.buf.shape;obtain ⟨B46,d46,rfl,-,-⟩:=Hw.prt.shape;refine aF ⟨O,?_⟩;refine K4 _ _ ?_;clear K4;refine kP H (SC (Rm O (Rk O (aU rD aD 0 O O (Rd O (Rk O (Rf rD O ?_)))))));clear H;intro a H;refine bM aD 0 (vs:=[_]) H wn O ?_;clear H;intro w H;refine aF ?_;refine (leave0 H results259 ?_).2;exact H.hp.gI ⟨_,_,_,Uk,Md,by rw [xV,ay (by simp [h5]),aH h27];rfl,by rw [xV,ay (by simp [h5]),aH h27];exact Hw⟩
  intro h27 a H
  try have p27:=dF h27
  refine bP (fun _ K5=>?_)
  by_cases c1:vI (s.extract i s.size) ⟨#[37,100]⟩=true
  · skip;refine dI hmx [[],[0],[0,1],[0,1,2],[],[4],[4,5],[4,5,6],ra 0 8,ra 0 9,ra 0 10,ra 0 11,ra 0 11,(ra 0 11++[12]),(ra 0 11++[12,13]),(ra 0 11++[12,13,14]),(ra 0 11++ra 12 4),ra 0 17,ra 0 18,ra 0 19] [] Z [_,_,_,.string s,_,_,_,vi i,.string (s.extract i s.size),.bool (vI (s.extract i s.size) ⟨#[37,100]⟩),.bool (decide (vI (s.extract i s.size) ⟨#[37,100]⟩=true)),_,_,(aJ b 0),_,vi i,vi ((i+2:Nat):Int),.bool (yK s (i+2)),_,_] H (aC (Z0 O (Rm O)) (Z1 0 55 O (Rk O)) (Z1 1 56 O (Rf yS O)) (Z1 2 57 O (Ro gV 0 O)) (aC (Z0 O (Rm O)) (Z1 4 59 O (Rk O)) (Z1 5 60 O (Rf rD O)) (Z1 6 61 O (Ro aD 0 O)) (aC ?_ ?_ ?_ (Z1 10 65 O (YM (aG c1) O)) (aC (Z1 10 65 O (YM (aG c1) O)) ?_ (Z2 13 68 10 65 O (YF rD (aG c1) O)) (Z2 14 69 10 65 O (YO aD 0 (aG c1) O)) (aC ?_ ?_ (Z2 10 65 17 72 O (Pt (aG c1) O)) (Z1 18 73 O (Ra O)) dG))))) ?_
    · refine eU 3 58 7 62 O O fun _ a w G1 hG HT H fin=>?_;exact Vh
    · exact acX
    · exact abY
    · refine eU 12 67 10 65 O O fun _ a w G1 hG HT H fin=>?_;refine zx H (wg H O O (aG c1)) O O ?_;exact iX
    · refine eU 15 70 10 65 O O fun _ a w G1 hG HT H fin=>?_;refine IC _ H (wg H O O (aG c1)) O O O V V O ?_;exact iX
    · refine uh 11 66 16 71 10 65 O O fun _ a w G1 hG HT H fin=>?_;refine gD afe (Li:=[]) (L:=iH b s i p (.slice A lit.length c) (.slice B parts.length d) pl e :: Lt) H (wg H O O (aG c1)) O (aes _ Lt _ b s i p _ _ pl e (i+2) V (Hp.owns (Li:=[]) H.hp)) O ?_;clear H;rintro v72 G72 L72 a w ⟨rfl,rfl,rfl⟩ auj H;dsimp only [List.nil_append] at H;exact fin H auj (rfl)
    clear H;intro a w G E9 H hv;have H:=H.aQ (hv 19 54 O O) O;clear hv;refine aF ⟨O,?_⟩;refine K5 _ _ ?_;clear K5;refine jX H O ?_ ?_
    · intro iZ
      try have p54:=dT iZ
      have hd2:=aer iZ;refine bP (fun _ K6=>?_);refine dI hmx [[],[],[1],[1,2],[1,2,3],[],[5],[5,6],[5,6,7],ra 5 4,ra 1 9,ra 0 11] [11] Z [_,_,_,_,.string s,_,_,_,vi i,_,.int .u8 (gN s (i+2))] H (aC (Z0 O (Rm O)) (Z0 O (Rm O)) (Z1 1 75 O (Rk O)) (Z1 2 76 O (Rf yS O)) (aC (Z1 3 77 O (Ro gV 0 O)) (Z0 O (Rm O)) (Z1 5 79 O (Rk O)) (Z1 6 80 O (Rf rD O)) (aC (Z1 7 81 O (Ro aD 0 O)) (Z1 8 82 O (Rd O)) ?_ (bQ O) dG))) ?_
      · refine eU 4 78 9 83 O O fun _ a w G1 hG HT H fin=>?_;refine qy (i+2) iI H wn O O O hd2.1 O ?_;exact Qf
      clear H;intro a w G vE H hv;have H:=H.aQ (hv 0 74 O O) O;have H:=H.aQ (hv 10 84 O O) O;clear hv;refine gD aff (Li:=[]) (L:=iH b s i p (.slice A lit.length c) (.slice B parts.length d) pl e :: Lt) H wn O (by subst tF;exact ajI _ Lp Lo _ b s i p _ _ pl e lit parts (gN s (i+2)) true hR (Hp.owns (Li:=[]) H.hp) V V hd2.2 V) O ?_;clear H;rintro v85 G85 L85 a w ⟨p46,aCx,q46,Uk,Md,rfl,Hw⟩ avM H;dsimp only [List.nil_append] at H;obtain ⟨A46,c46,rfl,-,-⟩:=Hw.buf.shape;obtain ⟨B46,d46,rfl,-,-⟩:=Hw.prt.shape;refine aF ⟨O,?_⟩;refine K6 _ _ ?_;clear K6;refine kP H (SC (Rm O (Rk O (aU rD aD 0 O O (Rd O (Rk O (Rf rD O ?_)))))));clear H;intro a H;refine bM aD 0 (vs:=[_]) H wn O ?_;clear H;intro w H;refine aF ?_;refine (leave0 H results259 ?_).2
      have Kr:¬ vI (s.extract i s.size) ⟨#[37,37]⟩=true:=by simp [h5]
      have Kq:¬ yK s (i+1)=true:=by simp [h27]
      exact UN
    intro iZ
    try have p54:=dF iZ
    refine kP H (SC (Rm O (Rk O (Rf DN O ?_))));clear H;intro a H;refine bM jm 0 (vs:=[_]) H wn O ?_;clear H;intro w H;refine aF ?_;refine (leave0 H results259 ?_).2
    have Kr:¬ vI (s.extract i s.size) ⟨#[37,37]⟩=true:=by simp [h5]
    have Kq:¬ yK s (i+1)=true:=by simp [h27]
    exact UN
  skip;refine dI hmx [[],[0],[0,1],[0,1,2],[],[4],[4,5],[4,5,6],ra 0 8,ra 0 9,ra 0 10,ra 0 11,ra 0 11,(ra 0 11++[12]),(ra 0 11++[12,13]),(ra 0 11++[12,13,14]),(ra 0 11++ra 12 4),ra 0 17,ra 0 18,ra 0 19] [] Z [_,_,_,.string s,_,_,_,vi i,.string (s.extract i s.size),.bool (vI (s.extract i s.size) ⟨#[37,100]⟩),.bool (decide (vI (s.extract i s.size) ⟨#[37,100]⟩=true)),undef,undef,undef,undef,undef,undef,undef,_,_] H (aC (Z0 O (Rm O)) (Z1 0 55 O (Rk O)) (Z1 1 56 O (Rf yS O)) (Z1 2 57 O (Ro gV 0 O)) (aC (Z0 O (Rm O)) (Z1 4 59 O (Rk O)) (Z1 5 60 O (Rf rD O)) (Z1 6 61 O (Ro aD 0 O)) (aC ?_ ?_ ?_ (aO 10 (aS c1) O O) (aC (aO 10 (aS c1) O O) (aO 10 (aS c1) O O) (aO 10 (aS c1) O O) (aO 10 (aS c1) O O) (aC (aO 10 (aS c1) O O) (aO 10 (aS c1) O O) (Z2 10 65 17 72 O (Pf (aS c1) O)) (Z1 18 73 O (Ra O)) dG))))) ?_
  · refine eU 3 58 7 62 O O fun _ a w G1 hG HT H fin=>?_;exact Vh
  · exact acX
  · exact abY
  clear H;intro a w G E9 H hv;have H:=H.aQ (hv 19 54 O O) O;clear hv;refine aF ⟨O,?_⟩;refine K5 _ _ ?_;clear K5;refine oQ H O O ?_;refine kP H (SC (Rm O (Rk O (Rf DN O ?_))));clear H;intro a H;refine bM jm 0 (vs:=[_]) H wn O ?_;clear H;intro w H;refine aF ?_;refine (leave0 H results259 ?_).2
  have Kr:¬ vI (s.extract i s.size) ⟨#[37,37]⟩=true:=by simp [h5]
  have Kq:¬ yK s (i+1)=true:=by simp [h27]
  exact UN
theorem arG:aW 259:=aY func259 O
def PN (s:ByteArray) (i:Nat):UInt8:=if h:i < s.size then s[i] else 0
theorem anm (s:ByteArray) (i:Nat):gN s i=((PN s i).toNat:Int):=by
 unfold gN PN;split <;> rfl
def qb (s:ByteArray) (x:wz):wz:=if gN s x.i=37 then xV s x else ⟨x.i+1,x.lit++[PN s x.i],x.parts,x.pl,x.e⟩
def Ep (s:ByteArray):Nat->wz->wz
 | 0,x=>x
 | f+1,x=>if x.i < s.size∧x.e=0 then Ep s f (qb s x) else x
def mS (s:ByteArray) (x:wz):Nat:=if x.e=0 then s.size - x.i else 0
theorem aBf {s:ByteArray} {f:Nat} {x:wz} (h:¬ (x.i < s.size∧x.e=0)):Ep s f x=x:=by
 cases f with
 | zero=>rfl
 | succ f=>rw [Ep,ay h]
theorem atr (lit:List UInt8) (parts:List jE):(yT lit parts).length<=parts.length+1:=by unfold yT;split <;> simp
theorem Vv {p:Prop} (h:p:=by
 refine ⟨?_,?_,?_,?_,?_,?_⟩ <;> simp only [mS,iK,lD,List.length_nil] at*<;> simp only [h.2,if_true] at*<;> omega):p:=h
theorem akZ (s:ByteArray) (x:wz) (h:x.i < s.size∧x.e=0) (h1:x.lit.length<=x.i) (h2:x.parts.length<=2*x.i) (h3:x.pl<=x.i) :
  (qb s x).i<=x.i+3∧(qb s x).lit.length<=(qb s x).i∧(qb s x).parts.length<=2*(qb s x).i∧(qb s x).pl<=(qb s x).i∧mS s (qb s x) < mS s x∧mS s x<=s.size:=by
 have hf:=atr x.lit x.parts;have hm:mS s x=s.size - x.i:=aH h.2
 unfold qb xV
 split
 ·split
  ·exact Vv
  split
  ·exact Vv
  split
  ·exact Vv
  refine ⟨?_,?_,?_,?_,?_,?_⟩ <;> simp only [mS,iK,lD,List.length_nil] at*<;> simp only [h.2,if_true] at*<;> (try omega) <;> (simp;omega)
 refine ⟨?_,?_,?_,?_,?_,?_⟩ <;> simp only [mS,iK,lD,List.length_nil] at*<;> simp only [h.2,if_true] at*<;> omega
def CZ:wz:=⟨0,[],[],0,0⟩
def kV (s:ByteArray):wz:=Ep s s.size CZ
def Lg (x:wz):Int:=if x.e=0∧9 < (x.pl:Int) then 9 else x.e
theorem PV {p:Prop} (h:p:=by
 first
  | exact H.hp.gI ⟨_,_,_,_,_,by rw [Lg,aH ⟨by assumption,by assumption⟩],Hy⟩
  | exact H.hp.gI ⟨_,_,_,_,_,by rw [Lg,ay (by first|exact fun h=>p58 h.1|exact fun h=>p64 h.2)],Hy⟩):p:=h
theorem acS {p:Prop} (h:p:=by
 intro h64 a H
 try have p64:=dT h64
 refine kP H (SC (Rm O (Rk O (Rf DN O ?_))));clear H;intro a H;refine bM jm 0 (vs:=[_]) H wn O ?_;clear H;intro w H;refine aF ?_;refine (leave0 H results252 ?_).2
 exact PV):p:=h
theorem acf {p:Prop} (h:p:=by
 intro h64 a H
 try have p64:=dF h64
 refine gT ?_;refine (leave0 H results252 ?_).2
 exact PV):p:=h
theorem ach {p:Prop} (h:p:=by
 rw [aBf (by first|exact fun h=>c0 V|exact fun h=>c1 h.2)] at hsc;exact hsc):p:=h
theorem P9 {p:Prop} (h:p:=by
 refine zx H (wg H O O (aG c0)) O O ?_;exact iX):p:=h
set_option maxHeartbeats 1000000 in
theorem aBe (G:GH) (Po Pn:OL) (w0:World) (b:Nat) (s:ByteArray) (p0 v0 q0:ah) (hR:Cg b [] [] p0 v0 q0 Po Pn) (hO:fM G (xW b s CZ p0 v0 q0 :: (Po++Pn)) w0) (hs:s.size<=1073741824) :
  Calls prog 252 #[(aJ b 0)] w0 (fB w0 G (xW b s CZ p0 v0 q0 :: (Po++Pn)) fun u G' L'=>∃ p' v' q' rV gG,L'=iH b s (kV s).i p' v' q' (kV s).pl (Lg (kV s)) :: (rV++gG)∧Cg b [] (yT (kV s).lit (kV s).parts) p' v' q' rV gG):=by
 obtain ⟨A0,c0,rfl,-,-⟩:=hR.buf.shape;obtain ⟨B0,d0,rfl,-,-⟩:=hR.prt.shape;refine iB (N:=68) (T:=[(0,_)]) func252 O ntmps252 O O hO ?_;intro a H;refine bP (fun _ K1=>?_);refine AU ?_;skip;refine eO (ι:=Nat × wz × ah × Option Addr × Nat × Option Addr × Nat × OL × OL × GH) (Tc:=[(0,_)]) (Lc:=[]) (fun gh=>[]) (fun gh=>[xW b s gh.2.1 gh.2.2.1 (.slice gh.2.2.2.1 gh.2.1.lit.length gh.2.2.2.2.1) (.slice gh.2.2.2.2.2.1 gh.2.1.parts.length gh.2.2.2.2.2.2.1)]++(gh.2.2.2.2.2.2.2.1++gh.2.2.2.2.2.2.2.2.1)) (fun gh=>gh.2.2.2.2.2.2.2.2.2) (fun gh=>Cg b gh.2.1.lit gh.2.1.parts gh.2.2.1 (.slice gh.2.2.2.1 gh.2.1.lit.length gh.2.2.2.2.1) (.slice gh.2.2.2.2.2.1 gh.2.1.parts.length gh.2.2.2.2.2.2.1) gh.2.2.2.2.2.2.2.1 gh.2.2.2.2.2.2.2.2.1∧Ep s gh.1 gh.2.1=kV s∧mS s gh.2.1<=gh.1∧gh.1<=s.size∧gh.2.1.i<=s.size+3∧gh.2.1.lit.length<=gh.2.1.i∧gh.2.1.parts.length<=2*gh.2.1.i∧gh.2.1.pl<=gh.2.1.i) (fun gh=>gh.1) ((s.size,CZ,p0,A0,c0,B0,d0,Po,Pn,G)) (by exact H.sub ⟨O,aB⟩) ?_ ?_
 ·exact ⟨hR,O,by simp [mS,CZ],fD _,by simp [CZ],by simp [CZ],by simp [CZ],by simp [CZ]⟩
 clear H;rintro ⟨k,x,p,vA,vc,qA,qc,Lp,Lo,g⟩ a w hI H;dsimp only at hI H;obtain ⟨hR,hsc,hmk,hks,hxi,hx1,hx2,hx3⟩:=hI;dsimp only [lca,bD] at H;refine bP (fun _ K2=>?_);refine bP (fun _ K3=>?_)
 by_cases c0:(x.i:Int) < (s.size:Int)
 ·skip
  by_cases c1:x.e=0
  ·skip;refine dI hmx [[],[0],[0,1],[0,1,2],[],[4],[4,5],[4,5,6],ra 4 4,ra 0 9,ra 0 10,ra 0 11,ra 0 12,ra 0 13,ra 0 14,ra 0 15,ra 0 16] [] Z [_,_,_,vi x.i,_,_,_,.string s,_,_,_,_,(aJ b 0),_,vi x.e,_,_] H (aC (Z0 O (Rm O)) (Z1 0 2 O (Rk O)) (Z1 1 3 O (Rf rD O)) (Z1 2 4 O (Ro aD 0 O)) (aC (Z0 O (Rm O)) (Z1 4 6 O (Rk O)) (Z1 5 7 O (Rf yS O)) (Z1 6 8 O (Ro gV 0 O)) (aC (Z1 7 9 O (Rv iI O)) (Z2 3 5 8 10 O (Rc O)) (Z1 9 11 O (Rm O)) (Z1 10 12 O (YM (aG c0) O)) (aC ?_ (Z2 12 14 10 12 O (YF DN (aG c0) O)) (Z2 13 15 10 12 O (YO jm 0 (aG c0) O)) (Z2 14 16 10 12 O (YC (aG c0) O)) (bK (Z2 10 12 15 17 O (Pt (aG c0) O)) dG))))) ?_
   ·refine eU 11 13 10 12 O O fun _ a w G1 hG HT H fin=>?_;exact P9
   clear H;intro a w G agw H hv;have H:=H.aQ (hv 16 18 O O) O;clear hv;refine aF ⟨O,?_⟩;refine K3 _ _ ?_;clear K3;refine AV H O (aG c1) ?_;refine kP H (Kc K2 (SB (SQ fun _ K4=>SQ fun _ K5=>?_)));clear H K2;intro a H;refine dI hmx [[],[0],[0,1],[0,1,2],[],[4],[4,5],[4,5,6],ra 0 8,ra 0 9] [] Z [_,_,_,.string s,_,_,_,vi x.i,.int .u8 (gN s x.i),_] H (aC (Z0 O (Rm O)) (Z1 0 19 O (Rk O)) (Z1 1 20 O (Rf yS O)) (Z1 2 21 O (Ro gV 0 O)) (aC (Z0 O (Rm O)) (Z1 4 23 O (Rk O)) (Z1 5 24 O (Rf rD O)) (Z1 6 25 O (Ro aD 0 O)) (bK ?_ (bK (Z1 8 27 O (Rc O)) dG)))) ?_
   ·refine eU 3 22 7 26 O O fun _ a w G1 hG HT H fin=>?_;refine qy x.i iI H wn O O O V O ?_;exact Qf
   clear H;intro a w G jA H hv;have H:=H.aQ (hv 9 28 O O) O;clear hv;refine aF ⟨O,?_⟩;refine K5 _ _ ?_;clear K5;refine jX H O ?_ ?_
   ·intro eY
    try have p28:=dT eY
    refine kP H (SR fun _ K6=>Rm O ?_);clear H;intro a H;refine gD arG (Li:=[]) (L:=xW b s x p (.slice vA x.lit.length vc) (.slice qA x.parts.length qc) :: (Lp++Lo)) H wn O (azv _ Lp Lo _ b s x p _ _ hR (Hp.owns (Li:=[]) H.hp) V V V V V) O ?_;clear H;rintro v30 EC L30 a w ⟨p',v',q',rV,gG,rfl,QU⟩ zZ H;dsimp only [List.nil_append] at H;have hst:qb s x=xV s x:=aH p28;have hok:=akZ s x ⟨V,c1⟩ hx1 hx2 hx3
    have hkk:k=(k - 1)+1:=by omega
    have Yb:Ep s (k - 1) (qb s x)=kV s:=by rw [hkk,Ep,aH ⟨V,c1⟩] at hsc;exact hsc
    rw [<- hst] at H QU;obtain ⟨A30,c30,rfl,-,-⟩:=QU.buf.shape;obtain ⟨B30,d30,rfl,-,-⟩:=QU.prt.shape;refine K6 _ _ ?_;clear K6;refine dX ?_;refine dS ((k - 1,qb s x,p',A30,c30,B30,d30,rV,gG,EC)) (by exact H.sub ⟨O,aB⟩) ?_
    (try dsimp only);exact ⟨QU,Yb,V,V,V,V,V,V⟩
   intro eY
   try have p28:=dF eY
   refine gT ?_;refine K4 _ _ ?_;clear K4;refine bP (fun _ K7=>?_);refine dI hmx [[],[0],[0,1],[],[3],[3,4],[3,4,5],[],[7],[7,8],[7,8,9],ra 3 8,ra 0 12] [12] Z [_,_,_,_,_,_,.string s,_,_,_,vi x.i,.int .u8 (gN s x.i)] H (aC (Z0 O (Rm O)) (Z1 0 31 O (Rk O)) (Z1 1 32 O (Rf Nb O)) (Z0 O (Rm O)) (aC (Z1 3 34 O (Rk O)) (Z1 4 35 O (Rf yS O)) (Z1 5 36 O (Ro gV 0 O)) (Z0 O (Rm O)) (aC (Z1 7 38 O (Rk O)) (Z1 8 39 O (Rf rD O)) (Z1 9 40 O (Ro aD 0 O)) ?_ (bK (bQ O) dG)))) ?_
   ·refine eU 6 37 10 41 O O fun _ a w G1 hG HT H fin=>?_;refine qy x.i iI H wn O O O V O ?_;exact Qf
   clear H;intro a w G Xk H hv;have H:=H.aQ (hv 2 33 O O) O;have H:=H.aQ (hv 11 42 O O) O;clear hv;refine gD afc (Li:=[]) (L:=xW b s x p (.slice vA x.lit.length vc) (.slice qA x.parts.length qc) :: (Lp++Lo)) H wn O (alO _ Lp Lo _ b s x.i p _ qA x.parts.length qc x.pl x.e x.lit.length _ (gN s x.i) hR.ptr (Hp.owns (Li:=[]) H.hp) hR.buf V) O ?_;clear H;rintro v43 _ L43 a w ⟨aEs,Uj,rfl,ahI,rfl⟩ Fh H;dsimp only [List.nil_append] at H;obtain ⟨TR,VK,rfl,-,-⟩:=ahI.shape;have hst:qb s x=⟨x.i+1,x.lit++[PN s x.i],x.parts,x.pl,x.e⟩:=ay p28;have hok:=akZ s x ⟨V,c1⟩ hx1 hx2 hx3
   have hkk:k=(k - 1)+1:=by omega
   have Yb:Ep s (k - 1) (qb s x)=kV s:=by rw [hkk,Ep,aH ⟨V,c1⟩] at hsc;exact hsc
   have auC:Cg b (qb s x).lit (qb s x).parts (aJ b 2) (.slice TR (qb s x).lit.length VK) (.slice qA (qb s x).parts.length qc) Lp Uj:=by
    rw [hst];exact ⟨.inr O,by simpa [Lib.byteCells,anm] using ahI,hR.prt⟩
   refine aF ⟨O,?_⟩;refine K7 _ _ ?_;clear K7;refine kP H (SC (Rm O (Rk O (aU rD aD 0 O O (Rd O (Rk O (Rf rD O ?_)))))));clear H;intro a H;refine bM aD 0 (vs:=[_]) H wn O ?_;clear H;intro w H;replace H:St _ _ _ _ _ _ (xW b s (qb s x) (aJ b 2) (.slice TR (qb s x).lit.length VK) (.slice qA (qb s x).parts.length qc) :: (Lp++Uj)) _ _ _:=H.cast (by rw [hst];simp [xW,iH]);refine aF ?_;refine dS ((k - 1,qb s x,(aJ b 2),TR,VK,qA,qc,Lp,Uj,_)) (by exact H.sub ⟨O,aB⟩) ?_
   (try dsimp only);exact ⟨auC,Yb,V,V,V,V,V,V⟩
  skip;refine dI hmx [[],[0],[0,1],[0,1,2],[],[4],[4,5],[4,5,6],ra 4 4,ra 0 9,ra 0 10,ra 0 11,ra 0 12,ra 0 13,ra 0 14,ra 0 15,ra 0 16] [] Z [_,_,_,vi x.i,_,_,_,.string s,_,_,_,_,(aJ b 0),_,vi x.e,_,_] H (aC (Z0 O (Rm O)) (Z1 0 2 O (Rk O)) (Z1 1 3 O (Rf rD O)) (Z1 2 4 O (Ro aD 0 O)) (aC (Z0 O (Rm O)) (Z1 4 6 O (Rk O)) (Z1 5 7 O (Rf yS O)) (Z1 6 8 O (Ro gV 0 O)) (aC (Z1 7 9 O (Rv iI O)) (Z2 3 5 8 10 O (Rc O)) (Z1 9 11 O (Rm O)) (Z1 10 12 O (YM (aG c0) O)) (aC ?_ (Z2 12 14 10 12 O (YF DN (aG c0) O)) (Z2 13 15 10 12 O (YO jm 0 (aG c0) O)) (Z2 14 16 10 12 O (YC (aG c0) O)) (bK (Z2 10 12 15 17 O (Pt (aG c0) O)) dG))))) ?_
  ·refine eU 11 13 10 12 O O fun _ a w G1 hG HT H fin=>?_;exact P9
  clear H;intro a w G agw H hv;have H:=H.aQ (hv 16 18 O O) O;clear hv;refine aF ⟨O,?_⟩;refine K3 _ _ ?_;clear K3;refine oQ H O (aS c1) ?_;refine dX ?_;refine K1 _ _ ?_;clear K1;refine bP (fun _ K8=>?_)
  have Yj:x=kV s:=by
   exact ach
  subst Yj;refine kP H (SC (Rm O ?_));clear H;intro a H;refine gD Wt (Li:=[]) (L:=xW b s (kV s) p (.slice vA (kV s).lit.length vc) (.slice qA (kV s).parts.length qc) :: (Lp++Lo)) H wn O (WS _ Lp Lo _ b s (kV s).i p _ _ (kV s).pl (kV s).e (kV s).lit (kV s).parts hR (Hp.owns (Li:=[]) H.hp) V V) O ?_;clear H;rintro v52 G52 L52 a w ⟨p52,aCy,q52,amt,amm,rfl,Hy⟩ avG H;dsimp only [List.nil_append] at H;obtain ⟨A52,c52,rfl,-,-⟩:=Hy.buf.shape;obtain ⟨B52,d52,rfl,-,-⟩:=Hy.prt.shape;refine kH H (Kn K8 (SR fun _ K9=>Rm O (Rk O (aU DN jm 0 O O (Rc O (Rm O (Sp 58 O ?_ ?_))))))) <;> clear H K8
  ·intro kT a H
   try have p58:=dT kT
   refine kH H (YM kT O ?_);clear H;intro a H;refine zx H (wg H O O kT) O O ?_;clear H;intro a H;refine kH H (YF QB kT O (YO aD 0 kT O (YC kT O (Pt kT O (Kz K9 (Cd O ?_ ?_)))))) <;> clear H K9
   ·exact acS
   exact acf
  intro kT a H
  try have p58:=dF kT
  refine kH H (bg kT O (aR kT O (Pf kT O (Kz K9 (Cf O O ?_)))));clear H K9;intro a H;refine gT ?_;refine (leave0 H results252 ?_).2
  exact PV
 skip;refine dI hmx [[],[0],[0,1],[0,1,2],[],[4],[4,5],[4,5,6],ra 4 4,ra 0 9,ra 0 10,ra 0 11,ra 0 12,ra 0 13,ra 0 14,ra 0 15,ra 0 16] [] Z [_,_,_,vi x.i,_,_,_,.string s,_,_,_,undef,undef,undef,undef,undef,_] H (aC (Z0 O (Rm O)) (Z1 0 2 O (Rk O)) (Z1 1 3 O (Rf rD O)) (Z1 2 4 O (Ro aD 0 O)) (aC (Z0 O (Rm O)) (Z1 4 6 O (Rk O)) (Z1 5 7 O (Rf yS O)) (Z1 6 8 O (Ro gV 0 O)) (aC (Z1 7 9 O (Rv iI O)) (Z2 3 5 8 10 O (Rc O)) (Z1 9 11 O (Rm O)) (aO 10 (aS c0) O O) (aC (aO 10 (aS c0) O O) (aO 10 (aS c0) O O) (aO 10 (aS c0) O O) (aO 10 (aS c0) O O) (bK (Z2 10 12 15 17 O (Pf (aS c0) O)) dG))))) ?_
 clear H;intro a w G agw H hv;have H:=H.aQ (hv 16 18 O O) O;clear hv;refine aF ⟨O,?_⟩;refine K3 _ _ ?_;clear K3;refine oQ H O O ?_;refine dX ?_;refine K1 _ _ ?_;clear K1;refine bP (fun _ aT=>?_)
 have Yj:x=kV s:=by
  exact ach
 subst Yj;refine kP H (SC (Rm O ?_));clear H;intro a H;refine gD Wt (Li:=[]) (L:=xW b s (kV s) p (.slice vA (kV s).lit.length vc) (.slice qA (kV s).parts.length qc) :: (Lp++Lo)) H wn O (WS _ Lp Lo _ b s (kV s).i p _ _ (kV s).pl (kV s).e (kV s).lit (kV s).parts hR (Hp.owns (Li:=[]) H.hp) V V) O ?_;clear H;rintro v52 G52 L52 a w ⟨p52,aCy,q52,amt,amm,rfl,Hy⟩ avG H;dsimp only [List.nil_append] at H;obtain ⟨A52,c52,rfl,-,-⟩:=Hy.buf.shape;obtain ⟨B52,d52,rfl,-,-⟩:=Hy.prt.shape;refine kH H (Kn aT (SR fun _ bJ=>Rm O (Rk O (aU DN jm 0 O O (Rc O (Rm O (Sp 58 O ?_ ?_))))))) <;> clear H aT
 ·intro kT a H
  try have p58:=dT kT
  refine kH H (YM kT O ?_);clear H;intro a H;refine zx H (wg H O O kT) O O ?_;clear H;intro a H;refine kH H (YF QB kT O (YO aD 0 kT O (YC kT O (Pt kT O (Kz bJ (Cd O ?_ ?_)))))) <;> clear H bJ
  ·exact acS
  exact acf
 intro kT a H
 try have p58:=dF kT
 refine kH H (bg kT O (aR kT O (Pf kT O (Kz bJ (Cf O O ?_)))));clear H bJ;intro a H;refine gT ?_;refine (leave0 H results252 ?_).2
 exact PV
section
def BZ (c:Int):List Dat:=[.lf (.int .u8 c)]
theorem ali {G:GH} {c:Int} {cs:List ah} (h:aX G (BZ c) cs):cs=[.int .u8 c]:=by
 simp only [BZ,aX,av] at h
 obtain ⟨_,_,rfl,⟨rfl,_⟩,rfl⟩:=h
 rfl
def JB (s:ByteArray):List Int:=s.data.toList.map fun b=>(b.toNat:Int)
theorem anV (G:GH) (l:List Int):bT G 1 (l.map BZ) (l.map fun c=>Value.int .u8 c):=by
 refine ⟨l.map fun c=>[.int .u8 c],by induction l with|nil=>rfl|cons x r ih=>simp [ih],by simp,fun j r cs hr hc=>?_⟩
 rw [pJ] at hr hc
 obtain ⟨x,hx,rfl⟩:=nG.1 hr
 rw [hx] at hc
 cases hc
 exact ⟨by simp only [BZ,aX];exact ⟨_,_,O,by simp [av,Value.oneCell'],O⟩,O⟩
theorem azW {G:GH} {sz b o n cap:Nat} {cur:Array ah} {e:TypeId} {fz:Nat × Nat} {rows:List (List Dat)} (hb:G b=some (.cells cur e fz)) (h:av (fun k=>if k=b then some (.cells cur e (0,0)) else G k) (.sl sz rows) (.slice (some ⟨b,o,none⟩) n cap)) (hr:∀ r∈rows,∃ c,r=BZ c):av G (.sl sz rows) (.slice (some ⟨b,o,none⟩) n cap):=by
 simp only [av] at h |-
 obtain ⟨A,c,h1,h2,h3,h4⟩:=h
 refine ⟨A,c,h1,h2,h3,fun hn=>?_⟩
 obtain ⟨b',o',e',hrr⟩:=h4 hn
 injection h1 with e1
 subst e1
 injection e' with e2
 injection e2 with e3 e4
 subst e3;subst e4
 refine ⟨_,_,O,nE.mk fun k r hk=>?_⟩
 obtain ⟨cs,g1,g2,g3⟩:=hrr.get hk
 refine ⟨cs,g1,fun j u hj=>?_,?_⟩
 ·have:=g2 j u hj
  unfold aI at this |-
  simp only [if_true] at this
  rw [hb];exact this
 ·obtain ⟨c,rfl⟩:=hr r (lQ hk)
  have:=ali g3
  subst this
  simp only [BZ,aX];exact ⟨_,_,O,by simp [av,Value.oneCell'],O⟩
section
variable {N:Nat} {D:List Deferred} {w0:World} {F:Nat->Prop} {G0 G:GH} {L:OL} {T:List (Nat × ah)}
variable {r:Option Nat} {P:Program} {ops:Array Oper} {Q:Exit->Act->World->Prop} {rest:List Oper} {a:Act} {w:World}
variable {d:Nat} {ty:TypeId} {pos:String} {aL:Array Edge} {g:Option (Nat × Bool)}
theorem aCr {w:World} {b o n:Nat} {c:Array ah} {e:TypeId} {fz:Nat × Nat} (h:w.heap[b]?=some (.cells c e fz)) (hn:n≠0):∃ Hf,xk b (.cells c e Hf) w (w.freeze ⟨b,o,none⟩ n):=by
 unfold World.freeze
 rw [ay hn]
 refine ⟨if fz.1 == fz.2 then (o,o+n) else (min fz.1 o,max fz.2 (o+n)),O,O,O,by simp,?_,fun k hk=>?_⟩
 ·simp [Array.getElem?_modify,h]
 ·simp [Array.getElem?_modify,Ne.symm hk]
theorem aAR {t u e:TypeId} {x:Operand} {s:ByteArray} (ht:P.underlying t=some .string) (hu:P.underlying u=some (.slice e)) (he:P.underlying e=some (.int .u8)) (H:St N D w0 F G0 G L T a w) (hw:Region.wanted ⟨some d,.convert t u x,ty,pos,aL,g⟩ (yielded ops a.tmps)=true) (hx:ev T x=some (.string s)) (hz:s.size<=4294967296) (hd:Nat.blt d N=true)
  (k:∀ v G' a' w',(∀ k o,G k=some o->G' k=some o)->av G' (.sl 1 ((JB s).map BZ)) v->St N D w0 F G0 G' L ((d,v) :: T) a' w'->WL r P ops Q rest a' w'):WL r P ops Q (⟨some d,.convert t u x,ty,pos,aL,g⟩ :: rest) a w:=by
 have hc:=Lib.run_convert_string_bytes (P:=P) w t u e s ht hu he
 have hge:=grownCap_ge w s.size 0 e
 have hml:s.size<=maxLen:=by
  have:maxLen=9223372036854775807:=rfl
  omega
 have hgm:=grownCap_le_maxLen w s.size 0 e hml
 have H1:=H.hp.drew.alloc (.cells (Lib.bytesCells w e s) e)
 have hw1:(w.drew.alloc (.cells (Lib.bytesCells w e s) e)).heap[w.drew.heap.size]?=some (.cells (Lib.bytesCells w e s) e (0,0)):=H1.own _ eT
 obtain ⟨fz,hu2⟩:=aCr (o:=(Lib.bytesCells w e s).size) (n:=1) hw1 Q1
 have H2:=H1.upd (i:=0) O hu2
 have H3:St N D w0 F G0 G ((w.heap.size,.cells (Lib.bytesCells w e s) e fz) :: L) ((d,.slice (some ⟨w.heap.size,0,none⟩) s.size (grownCap w s.size 0 e)) :: T) (a.put (some d) (.slice (some ⟨w.heap.size,0,none⟩) s.size (grownCap w s.size 0 e))) (Lib.bytesWorld w e s):=H.put hd _ H2
 obtain ⟨G',hm,hb,H4⟩:=H3.fJ
 have hlen:(JB s).length=s.size:=by rw [JB,bR,uZ];rfl
 have hrep:av G' (.sl 1 ((JB s).map BZ)) (.slice (some ⟨w.heap.size,0,none⟩) s.size (grownCap w s.size 0 e)):=by
  refine azW hb ?_ (fun r hr=>by obtain ⟨c,-,rfl⟩:=List.mem_map.1 hr;exact ⟨c,O⟩)
  refine av.vU (cur:=Lib.bytesCells w e s) (e:=e) (n:=s.size) (cap:=grownCap w s.size 0 e) (by simp) (by rw [bR,hlen]) hge hgm ?_ (anV _ _)
  rw [Lib.bytesCells,Array.toList_append,Nat.mul_one,List.take_left' (by rw [Array.toList_map,bR,uZ];rfl)]
  simp [JB]
 have k2:=k _ _ _ _ hm hrep H4
 refine fQ (v:=.slice (some ⟨w.heap.size,0,none⟩) s.size (grownCap w s.size 0 e)) (w':=Lib.bytesWorld w e s) hw O ?_ k2
 simp only [execOp,H.ev hx,dM,hc,kW,rW]
theorem aAZ {t yt:TypeId} {x y:Operand} {p q:ByteArray} (H:St N D w0 F G0 G L T a w) (hw:Region.wanted ⟨some d,.binOp .lss t x y yt,ty,pos,aL,g⟩ (yielded ops a.tmps)=true) (hx:ev T x=some (.string p)) (hy:ev T y=some (.string q)) (hd:Nat.blt d N=true)
  (k:∀ a',St N D w0 F G0 G L ((d,.bool (Op.bytesLess p.toList q.toList)) :: T) a' w->WL r P ops Q rest a' w):WL r P ops Q (⟨some d,.binOp .lss t x y yt,ty,pos,aL,g⟩ :: rest) a w:=by
 refine fQ (v:=.bool (Op.bytesLess p.toList q.toList)) (w':=w) hw O ?_ (k _ (H.put hd _ H.hp))
 simp [execOp,H.ev hx,H.ev hy,dM,eqGuard,binOp,Op.stringOp]
end
end
theorem arF:aW 258:=aY func258 O
theorem arC:aW 252:=aY func252 O
theorem arA:aW 250:=aY func250 O
theorem aBX:qW prog 341 [(0,1),(1,1),(2,2),(4,1),(5,1),(6,1)] [.string ⟨#[]⟩,.int .i64 0,.pointer none,.slice none 0 0,.slice none 0 0,.int .i64 0,.int .i64 0]:=⟨Z,Z⟩
theorem arD:aW 253:=aY func253 O
theorem asW:dz prog 318 1 1:=⟨Z⟩
theorem aqX:aW 227:=aY func227 O
theorem aqY:aW 228:=aY func228 O
theorem arB:aW 251:=aY func251 O
theorem aqZ:aW 229:=aY func229 O
def Uv (fv:ah) (G:GH) (c:Int) (b:Bool):Prop:=∀ (G1:GH) (w1:World),(∀ b o,G b=some o->G1 b=some o)->Hold G1 w1->tY prog fv [.int .u8 c] w1 (bG w1 G1 fun u G'=>u=.bool b)
theorem axq (G:GH) (w0:World) (hG:Hold G w0) (l:List Int) (p:Int->Bool) (v fv:ah) (hv:av G (.sl 1 (l.map BZ)) v) (hf:∀ c∈l,Uv fv G c (p c)) :
  Calls prog 258 #[v,fv] w0 (bG w0 G fun u G'=>u=vi (nO (l.findIdx? p))):=by
 obtain ⟨A,c,rfl,hc1,hc2,hg⟩:=hv.slice;have hml:maxLen=9223372036854775807:=rfl;rw [bR] at *;refine eN [(0,_),(1,_)] func258 O ntmps258 O O hG ?_;intro a H;refine kP H (SR fun _ K1=>au K1 O (SQ fun _ K2=>SR fun _ K3=>Rm O (Rl Ew O (Rm O (Kz K3 (SB ?_))))));clear H K1 K3;intro a H;skip;refine eO (ι:=Nat × GH) (Tc:=[(0,_),(1,_),(7,_)]) (Lc:=[]) (fun gh=>[(8,vi gh.1)]) (fun gh=>[]) (fun gh=>gh.2) (fun gh=>gh.1<=l.length∧(l.take gh.1).findIdx? p=none∧(∀ b o,G b=some o->gh.2 b=some o)) (fun gh=>l.length - gh.1) ((0,G)) (by exact H.sub ⟨O,O,O,O,aB⟩) ?_ ?_
 ·exact yE
 clear H;rintro ⟨k,g⟩ a w hI H;dsimp only at hI H;obtain ⟨hk,hno,hgm⟩:=hI;dsimp only [lca,bD] at H;refine kP H (SR fun _ K4=>Rc O (Kz K4 (SQ fun _ K5=>Cd O ?_ ?_))) <;> clear H K4
 ·intro h9 a H
  try have p9:=dT h9
  have hk2:k < l.length:=by omega
  obtain ⟨b,o,cs,rfl,hcl,hrow,hr⟩:=hg k (BZ l[k]) (by simp [hk2]);obtain rfl:=ali hr
  have hcell:aI G b (o+k*1)=some (.int .u8 l[k]):=by simpa using hrow 0 _ O
  refine kP H (Kc K5 (SQ fun _ K6=>SB (SR fun _ K7=>Rm O (au K7 O (SR fun _ K8=>Rm O (Rm O (Rm O (Ri Ew Tn O O (Rg Tn O (aK hgm hcell) ?_)))))))));clear H K5 K7;intro a H;refine oL H wn O O (hf _ (jl hk2) _ _ hgm H.ro) O ?_;clear H;rintro v16 yj a w rfl zX H;refine K8 _ _ ?_;clear K8;refine jX H O ?_ ?_
  ·intro h16
   try have p16:=dT h16
   refine kP H (SR fun _ K9=>Rm O (au K9 O ?_));clear H K9;intro a H;refine lr H results258 O ?_
   exact zN
  exact JA
 intro h9 a H
 try have p9:=dF h9
 refine dX ?_;refine K2 _ _ ?_;clear K2;refine kP H (SR fun _ aT=>au aT O ?_);clear H aT;intro a H;refine lr H results258 O ?_
 exact zN
theorem Yu (o:Option Nat):decide (0<=nO o)=o.isSome:=by cases o <;> simp [nO]
theorem apl (G:GH) (w0:World) (hG:Hold G w0) (l:List Int) (p:Int->Bool) (v fv:ah) (hv:av G (.sl 1 (l.map BZ)) v) (hf:∀ c∈l,Uv fv G c (p c)) :
  Calls prog 250 #[v,fv] w0 (bG w0 G fun u G'=>u=.bool (l.findIdx? p).isSome):=by
 obtain ⟨A,c,rfl,hc1,hc2,-⟩:=hv.slice;rw [bR] at *;refine eN [(0,_),(1,_)] func250 O ntmps250 O O hG ?_;intro a H;refine kP H (SR fun _ K1=>au K1 O (SR fun _ K2=>Rm O (Rm O ?_)));clear H K1;intro a H;refine s_call arF H wn O (axq _ _ H.ro l p _ _ hv hf) O ?_;clear H;rintro v7 G7 a w rfl Cu H;exact kH H (Rc O (au K2 O (LR results250 O fun H=>H.rt (iq (Yu _)))))
def MR (c:Int):Bool:=decide (c < 32) || decide (c=127)
theorem aps (G:GH) (c:Int):Uv (.func (.func 251) #[] #[]) G c (MR c):=by
 intro G1 w0 hm hG;refine kG (caps:=[]) arB ?_;refine eN [(0,_)] func251 O ntmps251 O O hG ?_;intro a H;refine kP H (SR fun _ K1=>au K1 O (SR fun _ K2=>Rm O (Rc O (Rm O (Sp 5 O ?_ ?_))))) <;> clear H K1
 ·intro h5 a H
  try have p5:=dT h5
  exact kH H (aR h5 O (Pt h5 O (au K2 O (LR results251 O fun H=>H.rt (iq (by unfold MR;first|(simp_all;done)|(simp_all;omega)))))))
 intro h5 a H
 try have p5:=dF h5
 exact kH H (YM h5 O (YC h5 O (Pf h5 O (au K2 O (LR results251 O fun H=>H.rt (iq (by unfold MR;first|(simp_all;done)|(simp_all;omega))))))))
def zq (t:ByteArray):Int:=if 64 < t.size then 10 else if ny t=false then 12 else if ((JB t).findIdx? MR).isSome=true then 5 else Lg (kV t)
def SA (t:ByteArray):List jE:=if zq t=0 then yT (kV t).lit (kV t).parts else []
theorem ayb (G:GH) (l:List jE):bT G 3 (l.map jE.dat) (Iu l):=by
 refine ⟨l.map jE.cells,O,by simp,fun j r cs hr hc=>?_⟩;rw [pJ] at hr hc;obtain ⟨x,hx,rfl⟩:=nG.1 hr;rw [hx] at hc
 cases hc
 exact ⟨aiL G x,O⟩
theorem abv {p:Prop} (h:p:=by
 first
  | exact H.rt ⟨_,by rw [he0],by rw [SA,aH he0];exact hrep⟩
  | exact H.rt ⟨_,by rw [he],by rw [SA,ay (by rw [he];first|decide|assumption)];exact av.og O Q1⟩):p:=h
theorem Qd {p:Prop} (h:p:=by
 refine gu ?_;refine (jQ H results227 (.cons (fE H O) (.cons (fE H O) .nil)) ?_).1
 exact abv):p:=h
theorem azu (G:GH) (w0:World) (hG:Hold G w0) (t:ByteArray) (ht:t.size < 4611686018427387904) :
  Calls prog 227 #[.string t] w0 (bG w0 G fun u G'=>∃ x,u=.tuple #[x,vi (zq t)]∧av G' (.sl 3 ((SA t).map jE.dat)) x):=by
 refine eN [(0,_)] func227 O ntmps227 O O hG ?_;intro a H;refine kP H (SR fun _ K1=>Ra O (au K1 O (SQ fun _ K2=>SB (SR fun _ K3=>Rm O (Rv iI O (Rc O (au K3 O (Cd O ?_ ?_)))))))) <;> clear H K1 K3
 ·intro h5 a H
  try have p5:=dT h5
  refine bP (fun _ K4=>?_)
  have he:zq t=10:=by rw [zq,jZ]
  refine kP H (SC (Ra O (aZ K4 O ?_)));clear H K4;intro a H;exact Qd
 intro h5 a H
 try have p5:=dF h5
 refine kP H (SR fun _ K5=>Rm O ?_);clear H;intro a H;refine s_call MX H wn O (OJ _ _ H.ro t ht) O ?_;clear H;rintro v11 _ a w ⟨rfl,rfl⟩ - H;refine kH H (Rn O (au K5 O (Cd O ?_ ?_))) <;> clear H K5
 ·intro h9 a H
  try have p9:=dT h9
  refine bP (fun _ K6=>?_)
  have he:zq t=12:=by rw [zq,cu,aH (by simpa using h9)]
  refine kP H (SC (Ra O (aZ K6 O ?_)));clear H K6;intro a H;exact Qd
 intro h9 a H
 try have p9:=dF h9
 refine kP H (SR fun _ K7=>Rm O ?_);clear H;intro a H;refine aAR iI Ew OH H wn O V O ?_;clear H;intro v15 EB a w tJ ahO H;obtain ⟨A15,c15,rfl,-,-,-⟩:=ahO.slice;refine s_call arA H wn O (apl _ _ H.ro _ MR _ _ ahO (fun c _=>aps _ c)) O ?_;clear H;rintro v16 yj a w rfl zX H;refine kH H (au K7 O (Cd O ?_ ?_)) <;> clear H K7
 ·intro fT a H
  try have pz:=dT fT
  refine bP (fun _ K8=>?_)
  have he:zq t=5:=by rw [zq,cu,ay (by simpa using h9),aH fT]
  refine kP H (SC (Ra O (aZ K8 O ?_)));clear H K8;intro a H;exact Qd
 intro fT a H
 try have pz:=dF fT
 refine kP H (Kc K2 (SR fun _ K9=>Rm O ?_));clear H K2;intro a H;refine kg aBX [_,_,_,_,_,_,_] H wn O O O O ?_;clear H;intro a H;refine eB (cs:=[_,_,_,_,_,_,_]) H wn O O O ?_;clear H;intro b19 a w agK H;refine kH H (au K9 O (SQ fun _ aT=>SR fun _ bJ=>Rm O ?_));clear H K9;intro a H;refine gD arC (Li:=[]) (L:=[xW b19 t CZ (.pointer none) (.slice none 0 0) (.slice none 0 0)]) H wn O (aBe _ [] [] _ b19 t _ _ _ ⟨.inl O,bV.nil,bV.nil⟩ (Hp.owns (Li:=[]) H.hp) V) O ?_;clear H;rintro v21 O5 L21 a w ⟨p',v',q',rV,gG,rfl,Xp⟩ zY H;dsimp only [List.nil_append] at H;obtain ⟨A21,c21,rfl,-,-⟩:=Xp.buf.shape;obtain ⟨B21,d21,rfl,-,-⟩:=Xp.prt.shape;refine bJ _ _ ?_;clear bJ;refine bP (fun _ bO=>?_)
 have he:zq t=Lg (kV t):=by rw [zq,cu,ay (by simpa using h9),ay (by simp [fT])]
 refine kP H (SC (Rm O (Rk O (aU DN jm 0 O O (Rc O (Kn bO (Cd O ?_ ?_))))))) <;> clear H bO
 ·intro iY a H
  try have p26:=dT iY
  refine bP (fun _ bU=>?_);have H:=H.sub (T':=[(4,_)]) ⟨O,aB⟩;refine dI hmx [[],[0],[0,1],[0,1,2],[],ra 0 5] [] Z [_,_,_,vi (Lg (kV t)),_,_] H (aC (Z0 O (Rm O)) (Z1 0 27 O (Rk O)) (Z1 1 28 O (Rf DN O)) (Z1 2 29 O (Ro jm 0 O)) (bK (Z0 O (Ra O)) (bK (Z1 3 30 O (Ra O)) dG))) ?_
  clear H;intro a w G wM H hv;have H:=H.aQ (hv 4 2 O O) O;have H:=H.aQ (hv 5 3 O O) O;clear hv;refine aF ⟨O,?_⟩;refine bU _ _ ?_;clear bU;exact Qd
 intro iY a H
 try have p26:=dF iY
 refine gT ?_;refine aT _ _ ?_;clear aT;refine bP (fun _ bZ=>?_)
 have he0:zq t=0:=by rw [he];omega
 have H:=(St.cast H (show _=[_]++(rV++gG) from rfl)).perm (List.Perm.append_left _ um);have H:=St.un H;obtain ⟨Gr,hmr,hrep,H⟩:=St.qF (Li:=[_]++gG) (Lo:=rV) H Xp.prt (rows:=(yT (kV t).lit (kV t).parts).map jE.dat) (by simp) (ayb _ _);dsimp only [lca,bD] at H;refine kP H (SC (Rm O (Rk O (aU Nc OC 0 O O (Ra O (aZ bZ O ?_))))));clear H bZ;intro a H;refine gu ?_;refine (jQ H results227 (.cons (fE H O) (.cons (fE H O) .nil)) ?_).1
 exact abv
structure pI where
 fmt:Int
 start:Int
 BO:ByteArray
 restart:Int
def pI.dat (x:pI):List Dat:=[li x.fmt,li x.start,.lf (.string x.BO),li x.restart]
abbrev pI.cells (x:pI):List ah:=[vi x.fmt,vi x.start,.string x.BO,vi x.restart]
theorem ayd {G:GH} {x:pI} {cs:List ah} (h:aX G x.dat cs):cs=x.cells:=by
 simp only [pI.dat,aX,av] at h
 exact acd
theorem axn (G:GH) (w0:World) (hG:Hold G w0) (l:List jE) (p:jE->Bool) (v fv:ah) (hv:av G (.sl 3 (l.map jE.dat)) v) (hf:∀ x∈l,uW fv G x.dat (p x)) :
  Calls prog 253 #[v,fv] w0 (bG w0 G fun u G'=>u=vi (nO (l.findIdx? p))):=by
 obtain ⟨A,c,rfl,hc1,hc2,hg⟩:=hv.slice;have hml:maxLen=9223372036854775807:=rfl;rw [bR] at *;refine eN [(0,_),(1,_)] func253 O ntmps253 O O hG ?_;intro a H;refine kP H (SR fun _ K1=>au K1 O (SQ fun _ K2=>SR fun _ K3=>Rm O (Rl LH O (Rm O (Kz K3 (SB ?_))))));clear H K1 K3;intro a H;skip;refine eO (ι:=Nat × GH) (Tc:=[(0,_),(1,_),(7,_)]) (Lc:=[]) (fun gh=>[(8,vi gh.1)]) (fun gh=>[]) (fun gh=>gh.2) (fun gh=>gh.1<=l.length∧(l.take gh.1).findIdx? p=none∧(∀ b o,G b=some o->gh.2 b=some o)) (fun gh=>l.length - gh.1) ((0,G)) (by exact H.sub ⟨O,O,O,O,aB⟩) ?_ ?_
 ·exact yE
 clear H;rintro ⟨k,g⟩ a w hI H;dsimp only at hI H;obtain ⟨hk,hno,hgm⟩:=hI;dsimp only [lca,bD] at H;refine kP H (SR fun _ K4=>Rc O (Kz K4 (SQ fun _ K5=>Cd O ?_ ?_))) <;> clear H K4
 ·intro h9 a H
  try have p9:=dT h9
  have hk2:k < l.length:=by omega
  obtain ⟨b,o,cs,rfl,hcl,hrow,hr⟩:=hg k l[k].dat (by simp [hk2]);obtain rfl:=aiK hr;refine kP H (Kc K5 (SQ fun _ K6=>SB (SR fun _ K7=>Rm O (au K7 O (SR fun _ K8=>Rm O (Rm O (Rm O (Ri LH LD O O ?_))))))));clear H K5 K7;intro a H;refine bq LD (cs:=l[k].cells) H wn O O (fun j v hj=>H.hp.aI (aK hgm (hrow j v hj))) O ?_;clear H;intro a H;refine oL H wn O O (hf _ (jl hk2) _ _ _ hgm H.ro (aiL _ l[k])) O ?_;clear H;rintro v16 yj a w rfl zX H;refine K8 _ _ ?_;clear K8;refine jX H O ?_ ?_
  ·intro h16
   try have p16:=dT h16
   refine kP H (SR fun _ K9=>Rm O (au K9 O ?_));clear H K9;intro a H;refine lr H results253 O ?_
   exact zN
  exact JA
 intro h9 a H
 try have p9:=dF h9
 refine dX ?_;refine K2 _ _ ?_;clear K2;refine kP H (SR fun _ aT=>au aT O ?_);clear H aT;intro a H;refine lr H results253 O ?_
 exact zN
theorem apk (G:GH) (w0:World) (hG:Hold G w0) (l:List jE) (p:jE->Bool) (v fv:ah) (hv:av G (.sl 3 (l.map jE.dat)) v) (hf:∀ x∈l,uW fv G x.dat (p x)) :
  Calls prog 228 #[v,fv] w0 (bG w0 G fun u G'=>u=.bool (l.findIdx? p).isSome):=by
 obtain ⟨A,c,rfl,hc1,hc2,-⟩:=hv.slice;rw [bR] at *;refine eN [(0,_),(1,_)] func228 O ntmps228 O O hG ?_;intro a H;refine kP H (SR fun _ K1=>au K1 O (SR fun _ K2=>Rm O (Rm O ?_)));clear H K1;intro a H;refine s_call arD H wn O (axn _ _ H.ro l p _ _ hv hf) O ?_;clear H;rintro v7 G7 a w rfl Cu H;exact kH H (Rc O (au K2 O (LR results228 O fun H=>H.rt (iq (Yu _)))))
theorem aye {G:GH} {bl:Nat} {k:Int} (hb:aI G bl 0=some (vi k)) (x:jE):uW (.func (.func 229) #[] #[(aJ bl 0)]) G x.dat (decide (k < x.level)):=by
 intro G1 w0 cs hm hG hr;refine kG (caps:=[(aJ bl 0)]) aqZ ?_;obtain rfl:=aiK hr;replace hb:=aK hm hb;refine eN [(0,_),(1,_)] func229 O ntmps229 O O hG ?_;intro a H;refine dH (fun _ K1=>?_);refine eB (cs:=[_,_,_]) H wn O O O ?_;clear H;intro b2 a w hb2 H;refine kH H (au K1 O (SR fun _ K2=>aU asW aD 0 O O (Rg aD O (by assumption) ?_)));clear H K1;intro a H;exact kH H (Rc O (au K2 O (LR results229 O fun H=>H.rt O)))
def KP (t:ByteArray) (k:Int):Int:=if k < 1∨9 < k then 2 else if zq t=0∧((SA t).findIdx? fun x=>decide (k < x.level)).isSome=true then 6 else zq t
theorem UO {p:Prop} (h:p:=by
 exact H.rt (dh vi (by unfold KP;(repeat' split) <;> first|rfl|(exfalso;simp_all;done)|(exfalso;simp_all;omega)|(simp_all;done)))):p:=h
theorem VE {p:Prop} (h:p:=by
 intro a H;refine lr H results180 O ?_
 exact UO):p:=h
theorem ayc (G:GH) (w0:World) (hG:Hold G w0) (t:ByteArray) (k:Int) (ht:t.size < 4611686018427387904) :
  Calls prog 180 #[.string t,vi k] w0 (bG w0 G fun u G'=>u=vi (KP t k)):=by
 refine eN [(0,_),(1,_)] func180 O ntmps180 O O hG ?_;intro a H;refine dH (fun _ K1=>?_);refine eB (cs:=[_]) H wn O O O ?_;clear H;intro b3 a w hb3 H;refine kH H (au K1 O (SQ fun _ K2=>SR fun _ K3=>Ro aD 0 O (Rc O (Rm O (Sp 9 O ?_ ?_))))) <;> clear H K1
 ·intro h9 a H
  try have p9:=dT h9
  refine kH H (aR h9 O (Pt h9 O (Kz K3 (Ct O O (SR fun _ K4=>au K4 O ?_)))));clear H K3 K4;exact VE
 intro h9 a H
 try have p9:=dF h9
 refine kH H (YO aD 0 h9 O (YC h9 O (Pf h9 O (Kz K3 (Cd O ?_ ?_))))) <;> clear H K3
 ·intro h12 a H
  try have pq:=dT h12
  refine kP H (SR fun _ K5=>au K5 O ?_);clear H K5;exact VE
 intro h12 a H
 try have pq:=dF h12
 refine gT ?_;refine K2 _ _ ?_;clear K2;refine bP (fun _ K6=>?_);obtain ⟨Ga,hma,Bp,H⟩:=H.fJ
 have hbk:aI Ga b3 0=some (vi k):=by unfold aI;rw [Bp];rfl
 refine kP H (SC (Rm O ?_));clear H;intro a H;refine s_call aqX H wn O (azu _ _ H.ro t ht) O ?_;clear H;rintro v15 EB a w ⟨x15,rfl,ahY⟩ tJ H;obtain ⟨A15,c15,rfl,-,-,-⟩:=ahY.slice;replace hbk:=aK tJ hbk;refine kH H (Rm O ?_);clear H;intro a H;(iterate 2 refine ko H wn O O O ?_;clear H;intro a H);refine kH H (Ra O (aZ K6 O (SQ fun _ K7=>SR fun _ K8=>Rm O (Rc O (Rm O (Sp 20 O ?_ ?_)))))) <;> clear H K6
 ·intro h20 a H
  try have BJ:=dT h20
  refine kH H (YM h20 O ?_);clear H;intro a H;refine wV H (wg H O O h20) O O ?_;clear H;intro a H;refine s_call aqY H (wg H O O h20) O (apk _ _ H.ro _ (fun x=>decide (k < x.level)) _ _ ahY (fun x _=>aye hbk x)) O ?_;clear H;rintro v23 O6 a w rfl vK H;refine kH H (Pt h20 O (Kz K8 (Cd O ?_ ?_))) <;> clear H K8
  ·intro dU a H
   try have lK:=dT dU
   refine kP H (SC (aZ K7 O (SR fun _ K9=>Rm O (au K9 O ?_))));clear H K7 K9;intro a H;refine lr H results180 O ?_
   exact UO
  intro dU a H
  try have lK:=dF dU
  refine kP H (Kc K7 (SR fun _ aT=>Rm O (au aT O ?_)));clear H K7 aT;exact VE
 intro h20 a H
 try have BJ:=dF h20
 refine kH H (bg h20 O (Pf h20 O (Kz K8 (Cf O O (Kc K7 (SR fun _ bJ=>Rm O (au bJ O ?_)))))));clear H K8 K7 bJ;intro a H;refine lr H results180 O ?_
 exact UO
theorem IK:Ty prog 220 4 40 [.int .i64 0,.int .i64 0,.string ⟨#[]⟩,.int .i64 0] true:=⟨Z,Z⟩
theorem FQ:prog.underlying 184=some (.slice 220):=by kernel_rfl
theorem afJ:dz prog 220 0 0:=⟨Z⟩
theorem afK:dz prog 220 1 1:=⟨Z⟩
theorem asR:dz prog 220 2 2:=⟨Z⟩
theorem aqt:aW 180:=aY func180 O
theorem afL:dz prog 220 3 3:=⟨Z⟩
def GU:Nat->List pI->Int
 | _,[]=>0
 | i,x :: r=>if x.fmt < 1∨7 < x.fmt then 3 else if x.start < 0∨32767 < x.start then 2 else if KP x.BO ((i+1:Nat):Int)≠0 then KP x.BO ((i+1:Nat):Int) else if x.restart < 0∨(i:Int) < x.restart then 5 else GU (i+1) r
def AY (l:List pI):Int:=if l.length=0 then 11 else if 9 < l.length then 9 else GU 0 l
theorem MO {l:List pI} {k:Nat} (h:k < l.length):GU k (l.drop k)=if l[k].fmt < 1∨7 < l[k].fmt then 3 else if l[k].start < 0∨32767 < l[k].start then 2 else if KP l[k].BO ((k+1:Nat):Int)≠0 then KP l[k].BO ((k+1:Nat):Int) else if l[k].restart < 0∨(k:Int) < l[k].restart then 5 else GU (k+1) (l.drop (k+1)):=by
 rw [mW h,GU]
theorem abw {p:Prop} (h:p:=by
 first
  | exact H.rt (dh vi (by rw [AY,jZ]))
  | exact H.rt (dh vi (by rw [AY,cu,jZ]))
  | exact H.rt (dh vi (by rw [AY,cu,cu,<- he,MO hk2,jZ]))
  | exact H.rt (dh vi (by rw [AY,cu,cu,<- he,MO hk2,cu,jZ]))
  | exact H.rt (dh vi (by rw [AY,cu,cu,<- he,MO hk2,cu,cu,aH p45]))
  | exact H.rt (dh vi (by rw [AY,cu,cu,<- he,MO hk2,cu,cu,ay p45,jZ]))
  | exact H.rt (dh vi (by rw [AY,cu,cu,<- he,ow V];rfl))):p:=h
theorem Dx {p:Prop} (h:p:=by
 intro a H;refine lr H results99 O ?_
 exact abw):p:=h
theorem aoz (G:GH) (w0:World) (hG:Hold G w0) (l:List pI) (v:ah) (hv:av G (.sl 4 (l.map pI.dat)) v) (ht:∀ x∈l,x.BO.size < 4611686018427387904) :
  Calls prog 99 #[v] w0 (bG w0 G fun u G'=>u=vi (AY l)):=by
 obtain ⟨A,c,rfl,hc1,hc2,hg⟩:=hv.slice;have hml:maxLen=9223372036854775807:=rfl;rw [bR] at *;refine eN [(0,_)] func99 O ntmps99 O O hG ?_;intro a H;refine kP H (SR fun _ K1=>au K1 O (SQ fun _ K2=>SB (SR fun _ K3=>Rm O (Rl FQ O (Rc O (au K3 O (Cd O ?_ ?_))))))) <;> clear H K1 K3
 ·intro h6 a H
  try have p6:=dT h6
  refine kP H (SR fun _ K4=>au K4 O ?_);clear H K4;exact Dx
 intro h6 a H
 try have p6:=dF h6
 refine kP H (SR fun _ K5=>Rm O (Rl FQ O (Rc O (au K5 O (Cd O ?_ ?_))))) <;> clear H K5
 ·intro h10 a H
  try have kN:=dT h10
  refine kP H (SR fun _ K6=>au K6 O ?_);clear H K6;exact Dx
 intro h10 a H
 try have kN:=dF h10
 refine kP H (Kc K2 (SQ fun _ K7=>SR fun _ K8=>Rm O (Rl FQ O (Rm O (Kz K8 (SB ?_))))));clear H K2 K8;intro a H;skip;refine eO (ι:=Nat × GH) (Tc:=[(14,_),(15,_)]) (Lc:=[]) (fun gh=>[(16,vi gh.1)]) (fun gh=>[]) (fun gh=>gh.2) (fun gh=>gh.1<=l.length∧GU gh.1 (l.drop gh.1)=GU 0 l∧(∀ b o,G b=some o->gh.2 b=some o)) (fun gh=>l.length - gh.1) ((0,G)) (by exact H.sub ⟨O,O,O,aB⟩) ?_ ?_
 ·exact EK
 clear H;rintro ⟨k,g⟩ a w hI H;dsimp only at hI H;obtain ⟨hk,he,hgm⟩:=hI;dsimp only [lca,bD] at H;refine kP H (SR fun _ K9=>Rc O (Kz K9 (SQ fun _ aT=>Cd O ?_ ?_))) <;> clear H K9
 ·intro cK a H
  try have kI:=dT cK
  have hk2:k < l.length:=by omega
  obtain ⟨b,o,cs,rfl,hcl,hrow,hr⟩:=hg k l[k].dat (by simp [hk2]);obtain rfl:=ayd hr;refine kP H (Kc aT (SQ fun _ bJ=>SB (SR fun _ bO=>Rm O (Ri FQ IK O O ?_))));clear H aT;intro a H;refine bq IK (cs:=l[k].cells) H wn O O (fun j v hj=>H.hp.aI (aK hgm (hrow j v hj))) O ?_;clear H;intro a H;refine dR IK H wn O ?_;clear H;intro b4 a w hb4 H;refine kH H (Ra O ?_);clear H;intro a H;refine bM IK 0 (vs:=[_,_,_,_]) H wn O ?_;clear H;intro w H;refine bO _ _ ?_;clear bO;refine kP H (SQ fun _ bU=>SB (SR fun _ bZ=>aU afJ aD 0 O O (Rc O (Rm O (Sp 25 O ?_ ?_))))) <;> clear H
  ·intro nW a H
   try have p25:=dT nW
   refine kH H (bg nW O (Pt nW O (au bZ O (Ct O O (SR fun _ dP=>au dP O ?_)))));clear H bZ dP;exact Dx
  intro nW a H
  try have p25:=dF nW
  refine kH H (YF afJ nW O (YO aD 0 nW O (YC nW O (Pf nW O (au bZ O (Cd O ?_ ?_)))))) <;> clear H bZ
  ·intro h21 a H
   try have sK:=dT h21
   refine kP H (SR fun _ dY=>au dY O ?_);clear H dY;exact Dx
  intro h21 a H
  try have sK:=dF h21
  refine kP H (SR fun _ dQ=>aU afK aD 0 O O (Rc O (Rm O (Sp 34 O ?_ ?_)))) <;> clear H
  ·intro gP a H
   try have p34:=dT gP
   refine kH H (bg gP O (Pt gP O (au dQ O (Ct O O (SR fun _ eX=>au eX O ?_)))));clear H dQ eX;exact Dx
  intro gP a H
  try have p34:=dF gP
  refine kH H (YF afK gP O (YO aD 0 gP O (YC gP O (Pf gP O (au dQ O (Cd O ?_ ?_)))))) <;> clear H dQ
  ·intro nX a H
   try have p30:=dT nX
   refine kP H (SR fun _ gM=>au gM O ?_);clear H gM;exact Dx
  intro nX a H
  try have p30:=dF nX
  refine kP H (Kc bU (SQ fun _ fI=>SR fun _ gQ=>aU asR gV 0 O O (Rm O (Rd O ?_))));clear H bU;intro a H;rw [show ((k:Int)+1)=((k+1:Nat):Int) from rfl] at H;refine s_call aqt H wn O (ayc _ _ H.ro l[k].BO ((k+1:Nat):Int) (ht _ (jl hk2))) O ?_;clear H;rintro v43 Pb a w rfl Fh H;refine kH H (au gQ O (SR fun _ jw=>Rm O (Rc O (Kz jw (Cd O ?_ ?_))))) <;> clear H gQ jw
  ·intro h45 a H
   try have p45:=dT h45
   refine kP H (SR fun _ kK=>Rm O (au kK O ?_));clear H kK;exact Dx
  intro h45 a H
  try have p45:=dF h45
  refine kP H (Kc fI (SR fun _ kD=>aU afL aD 0 O O (Rc O (Rm O (Sp 50 O ?_ ?_))))) <;> clear H fI
  ·intro h50 a H
   try have p50:=dT h50
   refine kH H (aR h50 O (aR h50 O (Pt h50 O (Kz kD (Ct O O (SR fun _ jF=>au jF O ?_))))));clear H kD jF;exact Dx
  intro h50 a H
  try have p50:=dF h50
  refine kH H (YF afL h50 O (YO aD 0 h50 O (YM h50 O (YC h50 O (Pf h50 O (Kz kD (Cd O ?_ ?_))))))) <;> clear H kD
  ·intro nL a H
   try have p55:=dT nL
   refine kP H (SR fun _ kR=>au kR O ?_);clear H kR;exact Dx
  intro nL a H
  try have p55:=dF nL
  refine kP H (Kc bJ (SC (Rd O (Rm O ?_))));clear H bJ;intro a H;refine aF ?_;refine dS ((k+1,Pb)) (by exact (H.dV (Pl:=[_]) (dL:=[]) [] Q1 O).sub ⟨O,O,O,aB⟩) ?_
  (try dsimp only);exact ⟨V,by rw [MO hk2,cu,cu,ay p45,cu] at he;exact he,fun b o h=>Fh b o (hgm b o h)⟩
 intro cK a H
 try have kI:=dF cK
 refine dX ?_;refine K7 _ _ ?_;clear K7;refine kP H (SR fun _ lN=>au lN O ?_);clear H lN;intro a H;refine lr H results99 O ?_
 exact abw
theorem Dc:Ty prog 32 1 24 [.slice none 0 0] false:=⟨Z,Z⟩
theorem xY:prog.underlying 32=some (.slice 186):=by kernel_rfl
theorem BP:Ty prog 186 2 32 [.int .i64 0,.slice none 0 0] true:=⟨Z,Z⟩
theorem afB:dz prog 186 0 0:=⟨Z⟩
theorem ZW:Ty prog 184 1 24 [.slice none 0 0] false:=⟨Z,Z⟩
theorem aeL:aW 130:=aY func130 O
theorem WA:dz prog 186 1 1:=⟨Z⟩
theorem asc:aW 99:=aY func99 O
theorem JK:aW 128:=aY func128 O
theorem aqF:aW 199:=aY func199 O
theorem aqE:aW 198:=aY func198 O
structure fK where
 id:Int
 levels:List pI
def fK.dat (x:fK):List Dat:=[li x.id,.sl 4 (x.levels.map pI.dat)]
structure jc where
 id:Int
 parent:Int
 author:ByteArray
 time:Int
 text:ByteArray
 done:Bool
def jc.dat (x:jc):List Dat:=[li x.id,li x.parent,.lf (.string x.author),li x.time,.lf (.string x.text),.lf (.bool x.done)]
abbrev jc.cells (x:jc):List ah:=[vi x.id,vi x.parent,.string x.author,vi x.time,.string x.text,.bool x.done]
structure mF where
 name:ByteArray
 value:ByteArray
def mF.dat (x:mF):List Dat:=[.lf (.string x.name),.lf (.string x.value)]
abbrev mF.cells (x:mF):List ah:=[.string x.name,.string x.value]
theorem adl {p:Prop} (h:p:=by
 obtain ⟨_,_,rfl,⟨rfl,_⟩,_,_,rfl,⟨rfl,_⟩,_,_,rfl,⟨rfl,_⟩,_,_,rfl,⟨rfl,_⟩,_,_,rfl,⟨rfl,_⟩,_,_,rfl,⟨rfl,_⟩,rfl⟩:=h
 rfl):p:=h
theorem adZ {G:GH} {x:jc} {cs:List ah} (h:aX G x.dat cs):cs=x.cells:=by
 simp only [jc.dat,aX,av] at h
 exact adl
theorem aCA {G:GH} {x:mF} {cs:List ah} (h:aX G x.dat cs):cs=x.cells:=by
 simp only [mF.dat,aX,av] at h
 obtain ⟨_,_,rfl,⟨rfl,_⟩,_,_,rfl,⟨rfl,_⟩,rfl⟩:=h
 rfl
theorem YA {G:GH} {l:List fK} {A:Option Addr} {n c k:Nat} (hv:av G (.sl 2 (l.map fK.dat)) (.slice A n c)) (hk:k < l.length):∃ b o B d,A=some ⟨b,o,none⟩∧(∀ j u,[vi l[k].id,.slice B l[k].levels.length d][j]?=some u->aI G b (o+k*2+j)=some u)∧av G (.sl 4 (l[k].levels.map pI.dat)) (.slice B l[k].levels.length d):=by
 obtain ⟨A',c',he,_,_,hg⟩:=hv.slice
 injection he with e1 e2 e3
 subst e1;obtain ⟨b,o,cs,h1,h2,h3,h4⟩:=hg k l[k].dat (by simp [hk])
 simp only [fK.dat,aX] at h4
 obtain ⟨v1,_,rfl,⟨rfl,-⟩,v2,_,rfl,hl,rfl⟩:∃ v vs,cs=v :: vs∧av G (li l[k].id) v∧∃ v2 vs2,vs=v2 :: vs2∧av G (.sl 4 (l[k].levels.map pI.dat)) v2∧vs2=[]:=h4;obtain ⟨B,d,rfl,-,-,-⟩:=hl.slice;rw [bR] at *;exact ⟨b,o,B,d,h1,h3,hl⟩
theorem axT {G:GH} {bl:Nat} {l:List fK} {A:Option Addr} {n c:Nat} (hb:aI G bl 0=some (.slice A n c)) (hv:av G (.sl 2 (l.map fK.dat)) (.slice A n c)):uU (.func (.func 199) #[] #[(aJ bl 0)]) G l.length fun k=>(l[k]?.map fK.id).getD 0:=by
 intro k hk G1 w0 hm hG;refine kG (caps:=[(aJ bl 0)]) aqF ?_;replace hb:=aK hm hb
 obtain rfl:n=l.length:=by have:=hv.len;simpa using this
 obtain ⟨b,o,B,d,rfl,hrow,-⟩:=YA (hv.mono hm) hk;have hq:=hrow 0 _ O;refine eN [(0,_),(1,_)] func199 O ntmps199 O O hG ?_;intro a H;refine kP H (SR fun _ K1=>au K1 O (SR fun _ K2=>Rg Dc O (by assumption) ?_));clear H K1;intro a H;refine kH H (Rm O (Ri xY BP O O (Rf afB O (Rg aD O (by assumption) ?_))));clear H;intro a H;exact kH H (au K2 O (LR results199 O fun H=>H.rt (by dsimp only;rw [fF hk];rfl)))
def Ip (l:List fK) (i:Nat):Int:=eu [wQ (fun k=>(l[k]?.map fK.id).getD 0) i,AY ((l[i]?.map fK.levels).getD [])]
theorem abx {p:Prop} (h:p:=by
 exact fin H pU (rfl)):p:=h
theorem acT {p:Prop} (h:p:=by
 refine eU 0 4 1 5 O O fun _ a w G1 hG HT H fin=>?_;refine s_call aeL H wn O (aiq _ _ H.ro k _ _ V (fun i hi=>(hcb.mono hG) i V)) O ?_;clear H;rintro v6 G6 a w rfl pU H;exact abx):p:=h
theorem GI {p:Prop} (h:p:=by
 refine Un O fun _ a w G1 hG HT H fin=>?_;refine wV H wn O O ?_;exact iX):p:=h
theorem axW {G:GH} {bl:Nat} {l:List fK} {A:Option Addr} {n c:Nat} (hb:aI G bl 0=some (.slice A n c)) (hv:av G (.sl 2 (l.map fK.dat)) (.slice A n c)) (hl:l.length<=4294967296) (ht:∀ x∈l,∀ y∈x.levels,y.BO.size < 4611686018427387904):uU (.func (.func 198) #[] #[(aJ bl 0)]) G l.length (Ip l):=by
 intro k hk G1 w0 hm hG;refine kG (caps:=[(aJ bl 0)]) aqE ?_;replace hb:=aK hm hb;replace hv:=hv.mono hm;have hcb:=axT hb hv
 obtain rfl:n=l.length:=by have:=hv.len;simpa using this
 obtain ⟨b,o,B,d,rfl,hrow,hlv⟩:=YA hv hk;have hq:=hrow 1 _ O
 have he:Ip l k=eu [wQ (fun k=>(l[k]?.map fK.id).getD 0) k,AY l[k].levels]:=by unfold Ip;rw [fF hk];rfl
 refine eN [(0,_),(1,_)] func198 O ntmps198 O O hG ?_;intro a H;refine kP H (SR fun _ K1=>au K1 O (SQ fun _ K2=>?_));clear H K1;intro a H;have H:=H.sub (T':=[(0,_),(1,_)]) ⟨O,O,aB⟩;refine dI hmx [[],[],[0,1],[],[],[3,4],[3,4,5],ra 3 4,ra 0 8,ra 0 9,ra 0 10,ra 0 11] [9,10,11] Z [_,.func (.func 199) #[] #[(aJ bl 0)],vi (wQ (fun k=>(l[k]?.map fK.id).getD 0) k),_,_,_,_,_,vi (AY l[k].levels)] H (aC (Z0 O (Rm O)) ?_ ?_ (X0 O fun hG=>Rg Dc O (aK hG hb)) (aC (Z0 O (Rm O)) (Z2 3 7 4 8 O (Ri xY BP O O)) (Z1 5 9 O (Rf WA O)) (X1 6 10 O fun hG=>Rg ZW O (aK hG hq)) (aC ?_ (bQ O) (bQ O) (bQ O) dG))) ?_
 ·exact GI
 ·exact acT
 ·refine gX 7 11 O O fun _ a w G1 hG HT H fin=>?_;refine s_call asc H wn O (aoz _ _ H.ro _ _ (hlv.mono hG) (ht _ (jl hk))) O ?_;clear H;rintro v12 Dm a w rfl oV H;exact fin H oV (rfl)
 clear H;intro a w G jA H hv;have H:=H.aQ (hv 2 6 O O) O;have H:=H.aQ (hv 8 12 O O) O;clear hv;refine iG qO jm [_,_] [_,_] H wn O O O O O (by intro i q h;match i,h with|0,h=>exact h|1,h=>exact h|n+2,h=>simp at h) O O ?_;clear H;intro b13 a w Xr H;obtain ⟨LU,XI,auI,H⟩:=H.fJ;refine s_call sj H wn O (sw _ _ H.ro _ _ (Al auI)) O ?_;clear H;rintro v14 _ a w ⟨rfl,rfl⟩ - H;refine kH H (Ra O ?_);clear H;intro a H;refine aF ⟨O,?_⟩;refine K2 _ _ ?_;clear K2;refine lr H results198 O ?_;exact H.rt (by rw [he])
def MJ (l:List fK):Int:=eu [dN (decide (64 < (l.length:Int))) 9,kF (Ip l) (min l.length 64)]
theorem uU.le {fv:ah} {G:GH} {n m:Nat} {E:Nat->Int} (h:uU fv G n E) (hm:m<=n):uU fv G m E:=fun i hi=>h i V
theorem anB {p:Prop} (h:p:=by
 exact fin H iJ (dh vi V)):p:=h
theorem aby {p:Prop} (h:p:=by
 exact fin H lH (rfl)):p:=h
theorem Qb {p:Prop} (h:p:=by
 refine gX 2 5 O O fun _ a w G1 hG HT H fin=>?_;refine s_call lX H wn O (mD _ _ H.ro _ 9) O ?_;clear H;rintro v6 G6 a w ⟨rfl,-⟩ pU H;exact abx):p:=h
theorem Qe {p:Prop} (h:p:=by
 refine gX 5 8 O O fun _ a w G1 hG HT H fin=>?_;refine aA0 H wn O O O ?_;clear H;intro a H;exact anB):p:=h
theorem ME {p:Prop} (h:p:=by
 clear H;rintro v11 Dl a w rfl lH H;exact aby):p:=h
theorem aoA (G:GH) (w0:World) (hG:Hold G w0) (l:List fK) (v:ah) (hv:av G (.sl 2 (l.map fK.dat)) v) (hl:l.length<=4294967296) (ht:∀ x∈l,∀ y∈x.levels,y.BO.size < 4611686018427387904) :
  Calls prog 125 #[v] w0 (bG w0 G fun u G'=>u=vi (MJ l)):=by
 obtain ⟨A,c,rfl,hc1,hc2,-⟩:=hv.slice;rw [bR] at *;refine eN [(0,_)] func125 O ntmps125 O O hG ?_;intro a H;refine dH (fun _ K1=>?_);refine eB (cs:=[_]) H wn O O O ?_;clear H;intro b1 a w hb1 H;refine kH H (au K1 O (SQ fun _ K2=>?_));clear H K1;intro a H;have H:=H.sub (T':=[(1,_)]) ⟨O,aB⟩;obtain ⟨Ga,hma,hb1',H⟩:=H.fJ
 have hbl:aI Ga b1 0=some (.slice A l.length c):=by unfold aI;rw [hb1'];rfl
 have hcb:=axW hbl (hv.mono hma) hl ht;refine dI hmx [[],[0],[0,1],[0,1,2],[],[4],[4,5],[],ra 0 8,ra 0 9,ra 0 10,ra 0 11] [9,10,11] Z [_,_,_,vi (dN (decide (64 < (l.length:Int))) 9),_,_,vi ((min l.length 64:Nat):Int),.func (.func 198) #[] #[(aJ b1 0)],vi (kF (Ip l) (min l.length 64))] H (aC (X0 O fun hG=>Rg Dc O (aK hG hbl)) (Z1 0 3 O (Rl xY O)) (Z1 1 4 O (Rc O)) ?_ (aC (X0 O fun hG=>Rg Dc O (aK hG hbl)) (Z1 4 7 O (Rl xY O)) ?_ ?_ (aC ?_ (bQ O) (bQ O) (bQ O) dG))) ?_
 ·exact Qb
 ·exact Qe
 ·exact GI
 ·refine eU 6 9 7 10 O O fun _ a w G1 hG HT H fin=>?_;refine s_call JK H wn O (Ml _ _ H.ro (min l.length 64) (Ip l) _ V ((hcb.mono hG).le (Nat.min_le_left _ _))) O ?_;exact ME
 clear H;intro a w G jA H hv;have H:=H.aQ (hv 3 6 O O) O;have H:=H.aQ (hv 8 11 O O) O;clear hv;refine iG qO jm [_,_] [_,_] H wn O O O O O (by intro i q h;match i,h with|0,h=>exact h|1,h=>exact h|n+2,h=>simp at h) O O ?_;clear H;intro b12 a w D9 H;obtain ⟨Dm,Bt,HV,H⟩:=H.fJ;refine s_call sj H wn O (sw _ _ H.ro _ _ (Al HV)) O ?_;clear H;rintro v13 _ a w ⟨rfl,rfl⟩ - H;refine kH H (Ra O ?_);clear H;intro a H;refine aF ⟨O,?_⟩;refine K2 _ _ ?_;clear K2;refine lr H results125 O ?_;exact EJ
theorem mq:prog.underlying 31=some (.slice 183):=by kernel_rfl
theorem kr:Ty prog 183 6 72 [.int .i64 0,.int .i64 0,.string ⟨#[]⟩,.int .i64 0,.int .i64 0,.slice none 0 0] true:=⟨Z,Z⟩
theorem zR:dz prog 183 1 1:=⟨Z⟩
theorem JN:dz prog 183 2 2:=⟨Z⟩
theorem xG:dz prog 183 0 0:=⟨Z⟩
theorem afb:aW 247:=aY func247 O
theorem aqW:aW 225:=aY func225 O
theorem arw:aW 248:=aY func248 O
theorem arx:aW 249:=aY func249 O
structure cB where
 id:Int
 kind:Int
 name:ByteArray
 base:Int
 next:Int
 props:List jf
def cB.dat (x:cB):List Dat:=[li x.id,li x.kind,.lf (.string x.name),li x.base,li x.next,.sl 2 (x.props.map jf.dat)]
theorem Td {G:GH} {x:cB} {cs:List ah} (h:aX G x.dat cs):∃ A c,cs=[vi x.id,vi x.kind,.string x.name,vi x.base,vi x.next,.slice A x.props.length c]∧av G (.sl 2 (x.props.map jf.dat)) (.slice A x.props.length c):=by
 simp only [cB.dat,aX] at h
 obtain ⟨v1,_,rfl,h1,v2,_,rfl,h2,v3,_,rfl,h3,v4,_,rfl,h4,v5,_,rfl,h5,v6,_,rfl,h6,rfl⟩:=h
 simp only [av] at h1 h2 h3 h4 h5
 obtain ⟨rfl,-⟩:=h1;obtain ⟨rfl,-⟩:=h2;obtain ⟨rfl,-⟩:=h3;obtain ⟨rfl,-⟩:=h4;obtain ⟨rfl,-⟩:=h5;obtain ⟨A,c,rfl,-,-,-⟩:=h6.slice;rw [bR] at *;exact ⟨A,c,O,h6⟩
theorem Et {G:GH} {l:List cB} {A:Option Addr} {n c k:Nat} (hv:av G (.sl 6 (l.map cB.dat)) (.slice A n c)) (hk:k < l.length):∃ b o pA pc,A=some ⟨b,o,none⟩∧(∀ j u,[vi l[k].id,vi l[k].kind,.string l[k].name,vi l[k].base,vi l[k].next,.slice pA l[k].props.length pc][j]?=some u->aI G b (o+k*6+j)=some u)∧av G (.sl 2 (l[k].props.map jf.dat)) (.slice pA l[k].props.length pc) ∧
  aX G l[k].dat [vi l[k].id,vi l[k].kind,.string l[k].name,vi l[k].base,vi l[k].next,.slice pA l[k].props.length pc]:=by
 obtain ⟨A',c',he,_,_,hg⟩:=hv.slice
 injection he with e1 e2 e3
 subst e1;obtain ⟨b,o,cs,h1,h2,h3,h4⟩:=hg k l[k].dat (by simp [hk]);obtain ⟨pA,pc,rfl,hp⟩:=Td h4;exact ⟨b,o,pA,pc,h1,h3,hp,h4⟩
def okB (x:Int):Bool:=decide (32<=x∧x<=126)
def Iy (s:ByteArray) (k:Nat):Bool:=(List.range k).all fun i=>okB (gN s i)
def KJ (s:ByteArray):Bool:=decide (s.size≠0∧s.size<=40∧gN s 0≠32∧gN s (s.size - 1)≠32) && Iy s s.size
theorem ayw (s:ByteArray) (k:Nat):Iy s (k+1)=(Iy s k && okB (gN s k)):=by simp [Iy,List.range_succ]
theorem ayv {s:ByteArray} {k:Nat} (hk:k < s.size) (h:okB (gN s k)=false):Iy s s.size=false:=by
 rw [Iy,List.all_eq_false];exact ⟨k,by simpa using hk,by simp [h]⟩
theorem Gy {p:Prop} (h:p:=by
 first
  | exact H.rt (iq (by rw [KJ,oP V,Bool.false_and]))
  | exact H.rt (iq (by rw [KJ,lT V,show s.size=k by omega,hno];rfl))
  | exact H.rt (iq (by rw [KJ,ayv (k:=k) V (oP V),Bool.and_false]))):p:=h
theorem RL (G:GH) (w0:World) (hG:Hold G w0) (s:ByteArray) (hs:s.size<=4611686018427387904):Calls prog 222 #[.string s] w0 (bG w0 G fun u G'=>u=.bool (KJ s)):=by
 refine eN [(0,_)] func222 O ntmps222 O O hG ?_;intro a H;refine kP H (SR fun _ K1=>au K1 O (SQ fun _ K2=>SR fun _ K3=>Rm O (Rv iI O (Rc O (Rm O (Sp 7 O ?_ ?_)))))) <;> clear H K1
 ·intro h7 a H
  try have p7:=dT h7
  refine kH H (bg h7 O (Pt h7 O (Rm O (bg O O (Pt O O (Rm O (bg O O (bg O O (Pt O O (Kz K3 (Ct O O (SR fun _ K4=>au K4 O ?_))))))))))));clear H K3 K4;intro a H;refine lr H results222 O ?_
  exact Gy
 intro h7 a H
 try have p7:=dF h7
 refine kH H (YM h7 O ?_);clear H;intro a H;refine FE iI H (wg H O O h7) O O ?_;clear H;intro a H;refine kH H (YC h7 O (Pf h7 O (Rm O (Sp 12 O ?_ ?_)))) <;> clear H
 ·intro h12 a H
  try have pq:=dT h12
  refine kH H (bg h12 O (Pt h12 O (Rm O (bg O O (bg O O (Pt O O (Kz K3 (Ct O O (SR fun _ K5=>au K5 O ?_)))))))));clear H K3 K5;intro a H;refine lr H results222 O ?_
  exact Gy
 intro h12 a H
 try have pq:=dF h12
 refine kH H (YM h12 O ?_);clear H;intro a H;refine qy 0 iI H (wg H O O h12) O O O V O ?_;clear H;intro a H;rw [<- nJ] at H;refine kH H (YC h12 O (Pf h12 O (Rm O (Sp 17 O ?_ ?_)))) <;> clear H
 ·intro cK a H
  try have kI:=dT cK
  refine kH H (bg cK O (bg cK O (Pt cK O (Kz K3 (Ct O O (SR fun _ K6=>au K6 O ?_))))));clear H K3 K6;intro a H;refine lr H results222 O ?_
  exact Gy
 intro cK a H
 try have kI:=dF cK
 refine kH H (YM cK O (YM cK O ?_));clear H;intro a H;refine FE iI H (wg H O O cK) O O ?_;clear H;intro a H;refine BN _ H (wg H O O cK) O O O V V O ?_;clear H;intro a H;refine qy (s.size - 1) iI H (wg H O O cK) O O V V O ?_;clear H;intro a H;rw [<- nJ] at H;refine kH H (YC cK O (Pf cK O (Kz K3 (Cd O ?_ ?_)))) <;> clear H K3
 ·intro dU a H
  try have lK:=dT dU
  refine kP H (SR fun _ K7=>au K7 O ?_);clear H K7;intro a H;refine lr H results222 O ?_
  exact Gy
 intro dU a H
 try have lK:=dF dU
 refine kP H (Kc K2 (SQ fun _ K8=>SR fun _ K9=>Rm O (Rv iI O (Rm O (Kz K9 (SB ?_))))));clear H K2 K9;intro a H;skip;refine eO (ι:=Nat) (Tc:=[(0,_),(26,_)]) (Lc:=[]) (fun gh=>[(27,vi gh)]) (fun gh=>[]) (fun gh=>G) (fun gh=>gh<=s.size∧Iy s gh=true) (fun gh=>s.size - gh) (0) (by exact H.sub ⟨O,O,O,aB⟩) ?_ ?_
 ·exact Js
 clear H;intro k a w hI H;obtain ⟨hk,hno⟩:=hI;dsimp only [lca,bD] at H;refine kP H (SR fun _ aT=>Rc O (Kz aT (SQ fun _ bJ=>Cd O ?_ ?_))) <;> clear H aT
 ·intro eY a H
  try have p28:=dT eY
  refine kP H (Kc bJ (SQ fun _ bO=>SB (SR fun _ bU=>Rm O (au bU O (SR fun _ bZ=>Rm O (Rm O ?_))))));clear H bJ bU;intro a H;refine qy k iI H wn O O O V O ?_;clear H;intro a H;rw [<- nJ] at H;refine kH H (Rc O (Rm O (Sp 34 O ?_ ?_))) <;> clear H
  ·intro gP a H
   try have p34:=dT gP
   refine kH H (aR gP O (aR gP O (Pt gP O (Kz bZ (Ct O O (SR fun _ dP=>au dP O ?_))))));clear H bZ dP;intro a H;refine lr H results222 O ?_
   exact Gy
  intro gP a H
  try have p34:=dF gP
  refine kH H (YM gP O (YM gP O ?_));clear H;intro a H;refine qy k iI H (wg H O O gP) O O O V O ?_;clear H;intro a H;rw [<- nJ] at H;refine kH H (YC gP O (Pf gP O (Kz bZ (Cd O ?_ ?_)))) <;> clear H bZ
  ·intro mY a H
   try have p39:=dT mY
   refine kP H (SR fun _ dY=>au dY O ?_);clear H dY;intro a H;refine lr H results222 O ?_
   exact Gy
  intro mY a H
  try have p39:=dF mY
  refine kP H (Kc bO (SC (Rd O (Rm O ?_))));clear H bO;intro a H;refine aF ?_;refine dS ((k+1)) (by exact H.sub ⟨O,O,O,aB⟩) ?_
  exact ⟨V,by rw [ayw,hno];simp [okB];omega⟩
 intro eY a H
 try have p28:=dF eY
 refine dX ?_;refine K8 _ _ ?_;clear K8;refine kP H (SR fun _ dQ=>au dQ O ?_);clear H dQ;intro a H;refine lr H results222 O ?_
 exact Gy
theorem ais (G:GH) (w0:World) (hG:Hold G w0) (l:List cB) (p:cB->Bool) (v fv:ah) (hv:av G (.sl 6 (l.map cB.dat)) v) (hf:∀ x∈l,uW fv G x.dat (p x)) :
  Calls prog 247 #[v,fv] w0 (bG w0 G fun u G'=>u=vi (nO (l.findIdx? p))):=by
 obtain ⟨A,c,rfl,hc1,hc2,-⟩:=hv.slice;have hml:maxLen=9223372036854775807:=rfl;rw [bR] at *;refine eN [(0,_),(1,_)] func247 O ntmps247 O O hG ?_;intro a H;refine kP H (SR fun _ K1=>au K1 O (SQ fun _ K2=>SR fun _ K3=>Rm O (Rl mq O (Rm O (Kz K3 (SB ?_))))));clear H K1 K3;intro a H;skip;refine eO (ι:=Nat × GH) (Tc:=[(0,_),(1,_),(7,_)]) (Lc:=[]) (fun gh=>[(8,vi gh.1)]) (fun gh=>[]) (fun gh=>gh.2) (fun gh=>gh.1<=l.length∧(l.take gh.1).findIdx? p=none∧(∀ b o,G b=some o->gh.2 b=some o)) (fun gh=>l.length - gh.1) ((0,G)) (by exact H.sub ⟨O,O,O,O,aB⟩) ?_ ?_
 ·exact yE
 clear H;rintro ⟨k,g⟩ a w hI H;dsimp only at hI H;obtain ⟨hk,hno,hgm⟩:=hI;dsimp only [lca,bD] at H;refine kP H (SR fun _ K4=>Rc O (Kz K4 (SQ fun _ K5=>Cd O ?_ ?_))) <;> clear H K4
 ·intro h9 a H
  try have p9:=dT h9
  have hk2:k < l.length:=by omega
  obtain ⟨b,o,pA,pc,rfl,hrow,hp,hrep⟩:=Et (hv.mono hgm) hk2;refine kP H (Kc K5 (SQ fun _ K6=>SB (SR fun _ K7=>Rm O (au K7 O (SR fun _ K8=>Rm O (Rm O (Rm O (Ri mq kr O O ?_))))))));clear H K5 K7;intro a H;refine bq kr (cs:=[_,_,_,_,_,_]) H wn O O (fun j v hj=>H.hp.aI (hrow j v hj)) O ?_;clear H;intro a H;refine oL H wn O O (hf _ (jl hk2) _ _ _ hgm H.ro hrep) O ?_;clear H;rintro v16 yj a w rfl zX H;refine K8 _ _ ?_;clear K8;refine jX H O ?_ ?_
  ·intro h16
   try have p16:=dT h16
   refine kP H (SR fun _ K9=>Rm O (au K9 O ?_));clear H K9;intro a H;refine lr H results247 O ?_
   exact zN
  exact JA
 intro h9 a H
 try have p9:=dF h9
 refine dX ?_;refine K2 _ _ ?_;clear K2;refine kP H (SR fun _ aT=>au aT O ?_);clear H aT;intro a H;refine lr H results247 O ?_
 exact zN
def Om (p q:ByteArray):Bool:=p.toList == q.toList
theorem atc {G:GH} {bk bn:Nat} {kind:Int} {name:ByteArray} (hk:aI G bk 0=some (vi kind)) (hn:aI G bn 0=some (.string name)) (x:cB):uW (.func (.func 248) #[] #[(aJ bk 0),(aJ bn 0)]) G x.dat (decide (x.kind=kind) && Om x.name name):=by
 intro G1 w0 cs hm hG hr;refine kG (caps:=[(aJ bk 0),(aJ bn 0)]) arw ?_;obtain ⟨pA,pc,rfl,-⟩:=Td hr;replace hk:=aK hm hk;replace hn:=aK hm hn;refine eN [(0,_),(1,_),(2,_)] func248 O ntmps248 O O hG ?_;intro a H;refine dH (fun _ K1=>?_);refine eB (cs:=[_,_,_,_,_,_]) H wn O O O ?_;clear H;intro b3 a w hb3 H;refine kH H (au K1 O (SR fun _ K2=>aU zR aD 0 O O (Rg aD O (by assumption) ?_)));clear H K1;intro a H;refine kH H (Rc O (Rm O (Sp 9 O ?_ ?_))) <;> clear H
 ·intro h9 a H
  try have p9:=dT h9
  refine kH H (YF JN h9 O (YO gV 0 h9 O (YR gV h9 O (by assumption) ?_)));clear H;intro a H;refine CW H (wg H O O h9) O O O ?_;clear H;intro a H;exact kH H (Pt h9 O (au K2 O (LR results248 O fun H=>H.rt (by unfold Om;simp_all))))
 intro h9 a H
 try have p9:=dF h9
 exact kH H (aR h9 O (aR h9 O (Pf h9 O (au K2 O (LR results248 O fun H=>H.rt (by unfold Om;simp_all))))))
theorem atb {G:GH} {bi:Nat} {id:Int} (hb:aI G bi 0=some (vi id)) (x:cB):uW (.func (.func 249) #[] #[(aJ bi 0)]) G x.dat (decide (x.id=id)):=by
 intro G1 w0 cs hm hG hr;refine kG (caps:=[(aJ bi 0)]) arx ?_;obtain ⟨pA,pc,rfl,-⟩:=Td hr;replace hb:=aK hm hb;refine eN [(0,_),(1,_)] func249 O ntmps249 O O hG ?_;intro a H;refine dH (fun _ K1=>?_);refine eB (cs:=[_,_,_,_,_,_]) H wn O O O ?_;clear H;intro b2 a w hb2 H;refine kH H (au K1 O (SR fun _ K2=>aU xG aD 0 O O (Rg aD O (by assumption) ?_)));clear H K1;intro a H;exact kH H (Rc O (au K2 O (LR results249 O fun H=>H.rt O)))
def EW (l:List cB) (kind:Int) (name:ByteArray):Option Nat:=l.findIdx? fun x=>decide (x.kind=kind) && Om x.name name
def QF (l:List cB) (id:Int):Option Nat:=l.findIdx? fun x=>decide (x.id=id)
theorem aiy (o:Option Nat):decide (0<=nO o)=o.isSome:=by cases o <;> simp [nO]
theorem atd (G:GH) (w0:World) (hG:Hold G w0) (l:List cB) (kind:Int) (name:ByteArray) (v:ah) (hv:av G (.sl 6 (l.map cB.dat)) v) :
  Calls prog 223 #[v,vi kind,.string name] w0 (bG w0 G fun u G'=>u=.tuple #[vi (max (nO (EW l kind name)) 0),.bool (EW l kind name).isSome]):=by
 obtain ⟨A,c,rfl,hc1,hc2,-⟩:=hv.slice;rw [bR] at *;refine eN [(0,_),(1,_),(2,_)] func223 O ntmps223 O O hG ?_;intro a H;refine dH (fun _ K1=>?_);refine eB (cs:=[_]) H wn O O O ?_;clear H;intro b4 a w hb4 H;refine eB (cs:=[_]) H wn O O O ?_;clear H;intro b5 a w hb5 H;refine kH H (Ra O (au K1 O (SQ fun _ K2=>?_)));clear H K1;intro a H;obtain ⟨Ga,hma,zV,H⟩:=H.fJ;obtain ⟨Gb,hmb,yV,H⟩:=H.fJ
 have q4:aI Gb b4 0=some (vi kind):=by unfold aI;rw [yV];rfl
 have q5:aI Gb b5 0=some (.string name):=by unfold aI;rw [hmb _ _ zV];rfl
 refine kP H (SC (Rm O ?_));clear H;intro a H;refine wV H wn O O ?_;clear H;intro a H;refine s_call afb H wn O (ais _ _ H.ro l (fun x=>decide (x.kind=kind) && Om x.name name) _ _ ((hv.mono hma).mono hmb) (fun x _=>atc q4 q5 x)) O ?_;clear H;rintro v11 Dl a w rfl Rh H;refine kH H (aZ K2 O (SR fun _ K3=>Rm O ?_));clear H K2;intro a H;refine SX H wn O O O ?_;clear H;intro a H;refine kH H (Rm O (Rc O (Ra O (au K3 O ?_))));clear H K3;intro a H;refine gu ?_;refine (jQ H results223 (.cons (fE H O) (.cons (fE H O) .nil)) ?_).1;exact H.rt (by rw [<- aiy];rfl)
theorem atg (G:GH) (w0:World) (hG:Hold G w0) (l:List cB) (id:Int) (v:ah) (hv:av G (.sl 6 (l.map cB.dat)) v) :
  Calls prog 225 #[v,vi id] w0 (bG w0 G fun u G'=>u=.tuple #[vi (max (nO (QF l id)) 0),.bool (QF l id).isSome]):=by
 obtain ⟨A,c,rfl,hc1,hc2,-⟩:=hv.slice;rw [bR] at *;refine eN [(0,_),(1,_)] func225 O ntmps225 O O hG ?_;intro a H;refine dH (fun _ K1=>?_);refine eB (cs:=[_]) H wn O O O ?_;clear H;intro b3 a w hb3 H;refine kH H (Ra O (au K1 O (SQ fun _ K2=>?_)));clear H K1;intro a H;obtain ⟨Ga,hma,Bp,H⟩:=H.fJ
 have q3:aI Ga b3 0=some (vi id):=by unfold aI;rw [Bp];rfl
 refine kP H (SC (Rm O ?_));clear H;intro a H;refine wV H wn O O ?_;clear H;intro a H;refine s_call afb H wn O (ais _ _ H.ro l (fun x=>decide (x.id=id)) _ _ (hv.mono hma) (fun x _=>atb q3 x)) O ?_;clear H;rintro v9 G9 a w rfl yY H;refine kH H (aZ K2 O (SR fun _ K3=>Rm O ?_));clear H K2;intro a H;refine SX H wn O O O ?_;clear H;intro a H;refine kH H (Rm O (Rc O (Ra O (au K3 O ?_))));clear H K3;intro a H;refine gu ?_;refine (jQ H results225 (.cons (fE H O) (.cons (fE H O) .nil)) ?_).1;exact H.rt (by rw [<- aiy];rfl)
def Ob (l:List cB) (kind id:Int):Bool:=match QF l id with|some i=>decide ((l[i]?.map cB.kind)=some kind)|none=>false
theorem abz {p:Prop} (h:p:=by
 first
  | exact H.rt (iq (by rw [Ob,<- ho];dsimp only;rw [fF hil];simp))
  | exact H.rt (iq (by rw [Ob,<- ho];cases o <;> simp_all))):p:=h
theorem Yr (G:GH) (w0:World) (hG:Hold G w0) (l:List cB) (kind id:Int) (v:ah) (hv:av G (.sl 6 (l.map cB.dat)) v) :
  Calls prog 178 #[v,vi kind,vi id] w0 (bG w0 G fun u G'=>u=.bool (Ob l kind id)):=by
 obtain ⟨A,c,rfl,hc1,hc2,-⟩:=hv.slice;rw [bR] at *;refine eN [(0,_),(1,_),(2,_)] func178 O ntmps178 O O hG ?_;intro a H;refine kP H (SR fun _ K1=>au K1 O (SR fun _ K2=>Rm O (Rm O ?_)));clear H K1;intro a H;refine s_call aqW H wn O (atg _ _ H.ro l id _ hv) O ?_;clear H;rintro v12 Dm a w rfl Bt H;obtain ⟨o,ho⟩:∃ o,o=QF l id:=⟨_,O⟩;rw [<- ho] at H;refine kH H (Rm O ?_);clear H;intro a H;(iterate 2 refine ko H wn O O O ?_;clear H;intro a H);refine kH H (Ra O (au K2 O (SR fun _ K3=>Rm O (Rm O (Sp 16 O ?_ ?_))))) <;> clear H K2
 ·intro h16 a H
  try have p16:=dT h16
  obtain ⟨i,rfl⟩:=Option.isSome_iff_exists.1 h16
  have hil:i < l.length:=by
   obtain ⟨hi,-⟩:=List.findIdx?_eq_some_iff_getElem.1 ho.symm;exact hi
  rw [show max (nO (some i)) 0=(i:Int) by simp [nO]] at H;obtain ⟨b,o',pA,pc,rfl,hrow,hp,hrep⟩:=Et (hv.mono Bt) hil;have r1:aI Dm b (o'+i*6+1)=some (vi l[i].kind):=hrow 1 _ O;refine kH H (YM h16 O (YM h16 O (YI mq kr h16 O O (YF zR h16 O (YR aD h16 O (by assumption) ?_)))));clear H;intro a H;refine kH H (YM h16 O (YC h16 O (Pt h16 O (au K3 O ?_))));clear H K3;intro a H;refine lr H results178 O ?_
  exact abz
 intro h16 a H
 try have p16:=dF h16
 refine kH H (bg h16 O (aR h16 O (aR h16 O (Pf h16 O (au K3 O ?_)))));clear H K3;intro a H;refine lr H results178 O ?_
 exact abz
theorem Qt:aW 222:=aY func222 O
theorem aqU:aW 223:=aY func223 O
theorem QA:dz prog 183 5 5:=⟨Z⟩
theorem aqV:aW 224:=aY func224 O
theorem aeG:aW 102:=aY func102 O
theorem av.pre {G:GH} {sz:Nat} {rows:List (List Dat)} {A:Option Addr} {n c:Nat} (h:av G (.sl sz rows) (.slice A n c)) (k:Nat) (hk:k<=rows.length):av G (.sl sz (rows.take k)) (.slice A k c):=by
 have h:=h.part 0 k (jL _) hk
 have e:(if c=0 then A else A.map (·.add (0*sz)))=A:=by
  split
  ·rfl
  cases A <;> simp [Addr.add]
 rw [e] at h
 simpa using h
theorem apL (G:GH) (w0:World) (hG:Hold G w0) (kind:Int):Calls prog 224 #[vi kind] w0 (bG w0 G fun u G'=>u=vi (if kind=1 then 2 else 1)):=by
 refine eN [(0,_)] func224 O ntmps224 O O hG ?_;intro a H;refine kP H (SR fun _ K1=>au K1 O (SQ fun _ K2=>SR fun _ K3=>Rm O (Rc O (Kz K3 (Cd O ?_ ?_))))) <;> clear H K1 K3
 ·intro h4 a H
  try have p4:=dT h4
  exact kP H (SR fun _ K4=>au K4 O (LR results224 O fun H=>H.rt (by first|(rw [jZ];done)|rw [cu])))
 intro h4 a H
 try have p4:=dF h4
 exact kP H (Kc K2 (SR fun _ K5=>au K5 O (LR results224 O fun H=>H.rt (by first|(rw [jZ];done)|rw [cu]))))
def Af (l:List cB) (k:Nat):Option Int:=if k=0 then none else l[k - 1]?.map cB.id
theorem Sy {l:List cB} {k:Nat} (h:k=0):Af l k=none:=aH h
def Mq (k:Int):Bool:=decide (k=20) || decide (k=1)
def xU (q:Option Int) (dup:Bool) (s:cB):Int :=
 if s.id < 1∨1073741824 < s.id then 18 else if q=some s.id then 7 else if KO q s.id=true then 6 else if s.kind≠1∧s.kind≠2 then 3 else if KJ s.name=false then 13 else if dup=true then 7
 else if s.props.any (fun p=>Mq p.key)=true then 4 else qZ (if s.kind=1 then 2 else 1) s.props
def nk (l:List cB) (k:Nat) (s:cB):Int:=xU (Af l k) (EW (l.take k) s.kind s.name).isSome s
theorem abA {p:Prop} (h:p:=by
 first
  | exact H.rt (dh vi e0.symm)
  | exact H.rt (dh vi e4.symm)
  | exact H.rt (dh vi e7.symm)
  | exact H.rt (dh vi e13.symm)
  | exact H.rt (dh vi e3.symm)
  | exact H.rt (dh vi e6.symm)
  | exact H.rt (dh vi (by rw [nk,xU,jZ]))):p:=h
theorem UQ {p:Prop} (h:p:=by
 exact ⟨V,q1',q2',V,by simpa using kZ,fun b o h=>hm63 b o (pU b o (J5 b o h))⟩):p:=h
theorem anC {p:Prop} (h:p:=by
 exact ⟨x.props[n],jl hn2,by simp [Mq];omega⟩):p:=h
theorem yG {p:Prop} (h:p:=by
 intro a H;refine lr H results177 O ?_
 exact abA):p:=h
theorem ady {p:Prop} (h:p:=by
 intro kZ a H
 try have p60:=dF kZ
 refine gT ?_;refine ⟨Ja,by exact H.sub ⟨O,O,O,aB⟩,?_⟩;exact UQ):p:=h
theorem abW {p:Prop} (h:p:=by
 rw [nk,xU,cu,ay q1',ay q2',ay q3,ay q4,ay q5,aH];rw [List.any_eq_true];exact anC):p:=h
theorem acD {p:Prop} (h:p:=by
 refine gX 8 65 O O fun _ a w G1 hG HT H fin=>?_;refine ko H wn O O O ?_;exact iX):p:=h
set_option maxHeartbeats 1000000 in
theorem azg (G:GH) (w0:World) (hG:Hold G w0) (l:List cB) (k:Nat) (v:ah) (hv:av G (.sl 6 (l.map cB.dat)) v) (hk:k < l.length) (hs:l[k].name.size<=4611686018427387904) :
  Calls prog 177 #[v,vi k] w0 (bG w0 G fun u G'=>u=vi (nk l k l[k])):=by
 obtain ⟨A,c,rfl,hc1,hc2,-⟩:=hv.slice;have hml:maxLen=9223372036854775807:=rfl;rw [bR] at *;obtain ⟨b,o,pA,pc,rfl,hrow,hp,hrep⟩:=Et hv hk;obtain ⟨x,hx⟩:∃ x,x=l[k]:=⟨_,O⟩;rw [<- hx] at hs hrow hp hrep |-;have hdp:∀ j v,[vi x.id,vi x.kind,.string x.name,vi x.base,vi x.next,.slice pA x.props.length pc][j]?=some v->aI G b (o+k*6+j)=some v:=hrow;obtain ⟨_,_,he0,aDU,aDV,-⟩:=hp.slice
 injection he0 with _ he1 he2
 rw [bR] at *;subst he2
 obtain ⟨pk,hpk⟩:∃ pk,0 < k->aI G b (o+(k - 1)*6+0)=some (vi pk)∧Af l k=some pk:=by
  by_cases h0:0 < k
  ·obtain ⟨b',o',_,_,he,hr',-,-⟩:=Et hv (show k - 1 < l.length by omega)
   injection he with he
   injection he with e1 e2 e3
   subst e1;subst e2;exact ⟨_,fun _=>⟨hr' 0 _ O,by rw [Af,cu,fF V];rfl⟩⟩
  exact ⟨0,fun h=>absurd h h0⟩
 refine eN [(0,_),(1,_)] func177 O ntmps177 O O hG ?_;intro a H;refine kP H (SR fun _ K1=>au K1 O (SR fun _ K2=>Rm O (Rm O (Ri mq kr O O ?_))));clear H K1;intro a H;refine bq kr (cs:=[_,_,_,_,_,_]) H wn O O (fun j v hj=>H.hp.aI (hrow j v hj)) O ?_;clear H;intro a H;refine dR kr H wn O ?_;clear H;intro b5 a w hb5 H;refine bM kr 0 (vs:=[_,_,_,_,_,_]) H wn O ?_;clear H;intro w H;refine K2 _ _ ?_;clear K2;refine rX (ι:=GH) (Tc:=[(0,_),(1,_),(5,_)]) (Lc:=[(_,_)]) (fun gh=>[]) (fun gh=>[]) (fun gh=>gh) (fun gh=>¬ (x.id < 1∨1073741824 < x.id)∧¬ Af l k=some x.id∧¬ KO (Af l k) x.id=true∧¬ (x.kind≠1∧x.kind≠2)∧¬ KJ x.name=false∧(∀ b o,G b=some o->gh b=some o)) (by exact H.sub ⟨O,O,O,aB⟩) ?_ ?_
 ·skip;refine kP H (SB (SR fun _ K3=>aU xG aD 0 O O (Rc O (Rm O (Sp 18 O ?_ ?_))))) <;> clear H
  ·intro h18 a H
   try have qw:=dT h18
   refine kH H (bg h18 O (Pt h18 O (au K3 O (Ct O O (SR fun _ K4=>au K4 O ?_)))));clear H K3 K4;exact yG
  intro h18 a H
  try have qw:=dF h18
  refine kH H (YF xG h18 O (YO aD 0 h18 O (YC h18 O (Pf h18 O (au K3 O (Cd O ?_ ?_)))))) <;> clear H K3
  ·intro eD a H
   try have lJ:=dT eD
   refine kP H (SR fun _ K5=>au K5 O ?_);clear H K5;exact yG
  intro eD a H
  try have lJ:=dF eD
  refine bP (fun _ K6=>?_)
  by_cases c0:0 < (k:Int)
  ·skip
   by_cases c1:x.id=pk
   ·skip;refine dI hmx [[],[0],[0,1],[0,1,2],ra 0 4,[0,1,2],[0,1,2],[0,1,2,6],[0,1,2,5,6,7],[0,1,2,5,6,7,8],[0,1,2,5,6,7,8,9],ra 0 11,ra 0 12,ra 0 13] [13] Z [_,_,_,_,vi x.id,_,_,vi ((k - 1:Nat):Int),_,_,_,_,_] H (aC (Z0 O (Rm O)) (Z1 0 24 O (Rc O)) (Z1 1 25 O (Rm O)) (Z1 2 26 O (YF xG (aG c0) O)) (aC (Z2 3 27 2 26 O (YO aD 0 (aG c0) O)) (Z1 2 26 O (YM (aG c0) O)) (Z1 2 26 O (YM (aG c0) O)) ?_ (aC (Z3 5 29 7 31 2 26 O (YI mq kr (aG c0) O O)) (Z2 8 32 2 26 O (YF xG (aG c0) O)) (X2 9 33 2 26 O fun hG=>YR aD (aG c0) O (aK hG (hpk V).1)) (Z3 4 28 10 34 2 26 O (YC (aG c0) O)) (bK (Z2 2 26 11 35 O (Pt (aG c0) O)) (bK (bQ O) dG))))) ?_
    ·refine eU 6 30 2 26 O O fun _ a w G1 hG HT H fin=>?_;exact zP
    clear H;intro a w G J5 H hv;have H:=H.aQ (hv 12 36 O O) O;clear hv;refine kH H (Ra O ?_);clear H;intro a H;refine aF ⟨O,?_⟩;refine K6 _ _ ?_;clear K6;refine AV H O (aG c1) ?_;refine bP (fun _ K7=>?_)
    have e7:nk l k x=7:=by rw [nk,xU,cu,aH (by rw [(hpk V).2,c1])]
    refine kP H (SC (aZ K7 O ?_));clear H K7;exact yG
   skip;refine dI hmx [[],[0],[0,1],[0,1,2],ra 0 4,[0,1,2],[0,1,2],[0,1,2,6],[0,1,2,5,6,7],[0,1,2,5,6,7,8],[0,1,2,5,6,7,8,9],ra 0 11,ra 0 12,ra 0 13] [13] Z [_,_,_,_,vi x.id,_,_,vi ((k - 1:Nat):Int),_,_,_,_,_] H (aC (Z0 O (Rm O)) (Z1 0 24 O (Rc O)) (Z1 1 25 O (Rm O)) (Z1 2 26 O (YF xG (aG c0) O)) (aC (Z2 3 27 2 26 O (YO aD 0 (aG c0) O)) (Z1 2 26 O (YM (aG c0) O)) (Z1 2 26 O (YM (aG c0) O)) ?_ (aC (Z3 5 29 7 31 2 26 O (YI mq kr (aG c0) O O)) (Z2 8 32 2 26 O (YF xG (aG c0) O)) (X2 9 33 2 26 O fun hG=>YR aD (aG c0) O (aK hG (hpk V).1)) (Z3 4 28 10 34 2 26 O (YC (aG c0) O)) (bK (Z2 2 26 11 35 O (Pt (aG c0) O)) (bK (bQ O) dG))))) ?_
   ·refine eU 6 30 2 26 O O fun _ a w G1 hG HT H fin=>?_;exact zP
   clear H;intro a w G J5 H hv;have H:=H.aQ (hv 12 36 O O) O;clear hv;refine kH H (Ra O ?_);clear H;intro a H;refine aF ⟨O,?_⟩;refine K6 _ _ ?_;clear K6;refine oQ H O (aS c1) ?_;refine bP (fun _ K8=>?_)
   have q1:¬ (0 < (k:Int)∧x.id=pk):=by first|exact fun h=>c1 h.2|exact fun h=>c0 h.1
   have q1':¬ Af l k=some x.id:=fun h=>q1 (by
    by_cases h0:0 < k
    ·exact Qg
    rw [Sy V] at h
    cases h)
   by_cases c3:x.id < pk
   ·skip;refine dI hmx [[],[0],[0,1],[0,1,2],ra 0 4,[0,1,2],[0,1,2],[0,1,2,6],[0,1,2,5,6,7],[0,1,2,5,6,7,8],[0,1,2,5,6,7,8,9],ra 0 11,ra 0 12,ra 0 13] [13] Z [_,_,_,_,vi x.id,_,_,vi ((k - 1:Nat):Int),_,_,_,_,_] H (aC (Z0 O (Rm O)) (Z1 0 38 O (Rc O)) (Z1 1 39 O (Rm O)) (Z1 2 40 O (YF xG (aG c0) O)) (aC (Z2 3 41 2 40 O (YO aD 0 (aG c0) O)) (Z1 2 40 O (YM (aG c0) O)) (Z1 2 40 O (YM (aG c0) O)) ?_ (aC (Z3 5 43 7 45 2 40 O (YI mq kr (aG c0) O O)) (Z2 8 46 2 40 O (YF xG (aG c0) O)) (X2 9 47 2 40 O fun hG=>YR aD (aG c0) O (aK hG (aK J5 (hpk V).1))) (Z3 4 42 10 48 2 40 O (YC (aG c0) O)) (bK (Z2 2 40 11 49 O (Pt (aG c0) O)) (bK (bQ O) dG))))) ?_
    ·refine eU 6 44 2 40 O O fun _ a w G1 hG HT H fin=>?_;exact zP
    clear H;intro a w G pU H hv;have H:=H.aQ (hv 12 50 O O) O;clear hv;refine kH H (Ra O ?_);clear H;intro a H;refine aF ⟨O,?_⟩;refine K8 _ _ ?_;clear K8;refine AV H O (aG c3) ?_;refine bP (fun _ K9=>?_)
    have e6:nk l k x=6:=by rw [nk,xU,cu,ay q1',aH (by rw [(hpk V).2];exact aG c3)]
    refine kP H (SC (aZ K9 O ?_));clear H K9;exact yG
   skip;refine dI hmx [[],[0],[0,1],[0,1,2],ra 0 4,[0,1,2],[0,1,2],[0,1,2,6],[0,1,2,5,6,7],[0,1,2,5,6,7,8],[0,1,2,5,6,7,8,9],ra 0 11,ra 0 12,ra 0 13] [13] Z [_,_,_,_,vi x.id,_,_,vi ((k - 1:Nat):Int),_,_,_,_,_] H (aC (Z0 O (Rm O)) (Z1 0 38 O (Rc O)) (Z1 1 39 O (Rm O)) (Z1 2 40 O (YF xG (aG c0) O)) (aC (Z2 3 41 2 40 O (YO aD 0 (aG c0) O)) (Z1 2 40 O (YM (aG c0) O)) (Z1 2 40 O (YM (aG c0) O)) ?_ (aC (Z3 5 43 7 45 2 40 O (YI mq kr (aG c0) O O)) (Z2 8 46 2 40 O (YF xG (aG c0) O)) (X2 9 47 2 40 O fun hG=>YR aD (aG c0) O (aK hG (aK J5 (hpk V).1))) (Z3 4 42 10 48 2 40 O (YC (aG c0) O)) (bK (Z2 2 40 11 49 O (Pt (aG c0) O)) (bK (bQ O) dG))))) ?_
   ·refine eU 6 44 2 40 O O fun _ a w G1 hG HT H fin=>?_;exact zP
   clear H;intro a w G pU H hv;have H:=H.aQ (hv 12 50 O O) O;clear hv;refine kH H (Ra O ?_);clear H;intro a H;refine aF ⟨O,?_⟩;refine K8 _ _ ?_;clear K8;refine oQ H O (aS c3) ?_;refine bP (fun _ aT=>?_)
   have q2:¬ (0 < (k:Int)∧x.id < pk):=by first|exact fun h=>c3 h.2|exact fun h=>c0 h.1
   have q2':¬ KO (Af l k) x.id=true:=fun h=>q2 (by
    by_cases h0:0 < k
    ·exact P8
    rw [Sy V] at h
    cases h)
   refine kP H (SC (aU zR aD 0 O O (Rc O (Rm O (Sp 55 O ?_ ?_))))) <;> clear H
   ·intro nL a H
    try have p55:=dT nL
    refine kH H (YF zR nL O (YO aD 0 nL O (YC nL O (Pt nL O (aZ aT O (Cd O ?_ ?_)))))) <;> clear H aT
    ·intro jO a H
     try have p51:=dT jO
     refine bP (fun _ bJ=>?_)
     have e3:nk l k x=3:=by rw [nk,xU,cu,ay q1',ay q2',jZ]
     refine kP H (SC (aZ bJ O ?_));clear H bJ;exact yG
    intro jO a H
    try have p51:=dF jO
    refine kP H (SR fun _ bO=>aU JN gV 0 O O ?_);clear H;intro a H;refine s_call Qt H wn O (RL _ _ H.ro x.name hs) O ?_;clear H;rintro v63 Ja a w rfl hm63 H;refine kH H (Rn O (au bO O (Cd O ?_ ?_))) <;> clear H bO
    ·intro kZ a H
     try have p60:=dT kZ
     refine bP (fun _ bU=>?_)
     have e13:nk l k x=13:=by rw [nk,xU,cu,ay q1',ay q2',cu,aH (by simpa using kZ)]
     refine kP H (SC (aZ bU O ?_));clear H bU;exact yG
    exact ady
   intro nL a H
   try have p55:=dF nL
   refine kH H (bg nL O (Pf nL O (aZ aT O (Cf O O (SR fun _ bZ=>aU JN gV 0 O O ?_)))));clear H aT;intro a H;refine s_call Qt H wn O (RL _ _ H.ro x.name hs) O ?_;clear H;rintro v63 Ja a w rfl hm63 H;refine kH H (Rn O (au bZ O (Cd O ?_ ?_))) <;> clear H bZ
   ·intro kZ a H
    try have p60:=dT kZ
    refine bP (fun _ dP=>?_)
    have e13:nk l k x=13:=by rw [nk,xU,cu,ay q1',ay q2',cu,aH (by simpa using kZ)]
    refine kP H (SC (aZ dP O ?_));clear H dP;exact yG
   intro kZ a H
   try have p60:=dF kZ
   refine gT ?_;refine ⟨Ja,by exact H.sub ⟨O,O,O,aB⟩,?_⟩;exact UQ
  skip;refine dI hmx [[],[0],[0,1],[0,1,2],ra 0 4,[0,1,2],[0,1,2],[0,1,2,6],[0,1,2,5,6,7],[0,1,2,5,6,7,8],[0,1,2,5,6,7,8,9],ra 0 11,ra 0 12,ra 0 13] [13] Z [_,_,_,undef,undef,undef,undef,undef,undef,undef,undef,undef,_] H (aC (Z0 O (Rm O)) (Z1 0 24 O (Rc O)) (Z1 1 25 O (Rm O)) (aO 2 (aS c0) O O) (aC (aO 2 (aS c0) O O) (aO 2 (aS c0) O O) (aO 2 (aS c0) O O) (aO 2 (aS c0) O O) (aC (aO 2 (aS c0) O O) (aO 2 (aS c0) O O) (aO 2 (aS c0) O O) (aO 2 (aS c0) O O) (bK (Z2 2 26 11 35 O (Pf (aS c0) O)) (bK (bQ O) dG))))) ?_
  clear H;intro a w G J5 H hv;have H:=H.aQ (hv 12 36 O O) O;clear hv;refine kH H (Ra O ?_);clear H;intro a H;refine aF ⟨O,?_⟩;refine K6 _ _ ?_;clear K6;refine oQ H O O ?_;refine bP (fun _ dY=>?_)
  have q1:¬ (0 < (k:Int)∧x.id=pk):=by first|exact fun h=>c1 h.2|exact fun h=>c0 h.1
  have q1':¬ Af l k=some x.id:=fun h=>q1 (by
   by_cases h0:0 < k
   ·exact Qg
   rw [Sy V] at h
   cases h)
  refine dI hmx [[],[0],[0,1],[0,1,2],ra 0 4,[0,1,2],[0,1,2],[0,1,2,6],[0,1,2,5,6,7],[0,1,2,5,6,7,8],[0,1,2,5,6,7,8,9],ra 0 11,ra 0 12,ra 0 13] [13] Z [_,_,_,undef,undef,undef,undef,undef,undef,undef,undef,undef,_] H (aC (Z0 O (Rm O)) (Z1 0 38 O (Rc O)) (Z1 1 39 O (Rm O)) (aO 2 (aS c0) O O) (aC (aO 2 (aS c0) O O) (aO 2 (aS c0) O O) (aO 2 (aS c0) O O) (aO 2 (aS c0) O O) (aC (aO 2 (aS c0) O O) (aO 2 (aS c0) O O) (aO 2 (aS c0) O O) (aO 2 (aS c0) O O) (bK (Z2 2 40 11 49 O (Pf (aS c0) O)) (bK (bQ O) dG))))) ?_
  clear H;intro a w G pU H hv;have H:=H.aQ (hv 12 50 O O) O;clear hv;refine kH H (Ra O ?_);clear H;intro a H;refine aF ⟨O,?_⟩;refine dY _ _ ?_;clear dY;refine oQ H O O ?_;refine bP (fun _ dQ=>?_)
  have q2:¬ (0 < (k:Int)∧x.id < pk):=by first|exact fun h=>c3 h.2|exact fun h=>c0 h.1
  have q2':¬ KO (Af l k) x.id=true:=fun h=>q2 (by
   by_cases h0:0 < k
   ·exact P8
   rw [Sy V] at h
   cases h)
  refine kP H (SC (aU zR aD 0 O O (Rc O (Rm O (Sp 55 O ?_ ?_))))) <;> clear H
  ·intro nL a H
   try have p55:=dT nL
   refine kH H (YF zR nL O (YO aD 0 nL O (YC nL O (Pt nL O (aZ dQ O (Cd O ?_ ?_)))))) <;> clear H dQ
   ·intro jO a H
    try have p51:=dT jO
    refine bP (fun _ eX=>?_)
    have e3:nk l k x=3:=by rw [nk,xU,cu,ay q1',ay q2',jZ]
    refine kP H (SC (aZ eX O ?_));clear H eX;exact yG
   intro jO a H
   try have p51:=dF jO
   refine kP H (SR fun _ gM=>aU JN gV 0 O O ?_);clear H;intro a H;refine s_call Qt H wn O (RL _ _ H.ro x.name hs) O ?_;clear H;rintro v63 Ja a w rfl hm63 H;refine kH H (Rn O (au gM O (Cd O ?_ ?_))) <;> clear H gM
   ·intro kZ a H
    try have p60:=dT kZ
    refine bP (fun _ fI=>?_)
    have e13:nk l k x=13:=by rw [nk,xU,cu,ay q1',ay q2',cu,aH (by simpa using kZ)]
    refine kP H (SC (aZ fI O ?_));clear H fI;exact yG
   exact ady
  intro nL a H
  try have p55:=dF nL
  refine kH H (bg nL O (Pf nL O (aZ dQ O (Cf O O (SR fun _ gQ=>aU JN gV 0 O O ?_)))));clear H dQ;intro a H;refine s_call Qt H wn O (RL _ _ H.ro x.name hs) O ?_;clear H;rintro v63 Ja a w rfl hm63 H;refine kH H (Rn O (au gQ O (Cd O ?_ ?_))) <;> clear H gQ
  ·intro kZ a H
   try have p60:=dT kZ
   refine bP (fun _ jw=>?_)
   have e13:nk l k x=13:=by rw [nk,xU,cu,ay q1',ay q2',cu,aH (by simpa using kZ)]
   refine kP H (SC (aZ jw O ?_));clear H jw;exact yG
  intro kZ a H
  try have p60:=dF kZ
  refine gT ?_;refine ⟨Ja,by exact H.sub ⟨O,O,O,aB⟩,?_⟩;exact UQ
 clear H;intro g a w hI H;obtain ⟨q0,q1',q2',q3,q4,hgm⟩:=hI;dsimp only [lca,bD] at H;refine bP (fun _ kK=>?_);refine bP (fun _ kD=>?_);have ahN:=(hv.mono hgm).pre k (by rw [bR];omega);rw [<- List.map_take] at ahN;have awg:=hp.mono hgm;refine dI hmx [[],[],[0,1],[],[3],[],[5],ra 0 7,ra 0 8,ra 0 9,ra 0 9,ra 0 10,ra 0 12] [12] Z [_,_,.slice (some ⟨b,o,none⟩) k c,_,vi x.kind,_,.string x.name,.tuple #[vi (max (nO (EW (l.take k) x.kind x.name)) 0),.bool (EW (l.take k) x.kind x.name).isSome],_,vi (max (nO (EW (l.take k) x.kind x.name)) 0),.bool (EW (l.take k) x.kind x.name).isSome,_] H (aC (Z0 O (Rm O)) (Z0 O (Rm O)) ?_ (Z0 O (Rf zR O)) (aC (Z1 3 69 O (Ro aD 0 O)) (Z0 O (Rf JN O)) (Z1 5 71 O (Ro gV 0 O)) ?_ (aC (Z1 7 73 O (Rm O)) ?_ ?_ (Z1 9 74 O (Ra O)) (bK (bQ O) dG)))) ?_
 ·refine eU 0 66 1 67 O O fun _ a w G1 hG HT H fin=>?_;refine Ox mq kr k H wn O O O V O ?_;exact iX
 ·refine uh 2 68 4 70 6 72 O O fun _ a w G1 hG HT H fin=>?_;refine s_call aqU H wn O (atd _ _ H.ro (l.take k) x.kind x.name _ (ahN.mono hG)) O ?_;clear H;rintro v73 G73 a w rfl auk H;exact fin H auk (rfl)
 ·exact acD
 ·exact acD
 clear H;intro a w G oV H hv;have H:=H.aQ (hv 10 75 O O) O;clear hv;refine kH H (Ra O ?_);clear H;intro a H;refine aF ⟨O,?_⟩;refine kD _ _ ?_;clear kD;refine kP H (SR fun _ jF=>Rm O (Kz jF (Cd O ?_ ?_))) <;> clear H jF
 ·intro DZ a H
  try have Zc:=dT DZ
  refine bP (fun _ kR=>?_)
  have e7:nk l k x=7:=by rw [nk,xU,cu,ay q1',ay q2',ay q3,ay q4,aH DZ]
  refine kP H (SC (aZ kR O ?_));clear H kR;exact yG
 intro DZ a H
 try have Zc:=dF DZ
 refine kP H (Kc kK (SQ fun _ lN=>SQ fun _ jJ=>?_));clear H kK;intro a H
 have q5:¬ (EW (l.take k) x.kind x.name).isSome=true:=by simpa using DZ
 have Fq:=awg.mono oV;refine kP H (SC (aU QA BS 0 O O (Rl rO O (Rm O (Kn jJ (SB ?_))))));clear H jJ;intro a H;skip;refine eO (ι:=Nat) (Tc:=[(5,_),(78,_),(79,_)]) (Lc:=[(_,_)]) (fun gh=>[(80,vi gh)]) (fun gh=>[]) (fun gh=>G) (fun gh=>gh<=x.props.length∧(x.props.take gh).any (fun p=>Mq p.key)=false) (fun gh=>x.props.length - gh) (0) (by exact H.sub ⟨O,O,O,O,aB⟩) ?_ ?_
 ·exact Js
 clear H;intro n a w hI H;obtain ⟨hn,hno⟩:=hI;dsimp only [lca,bD] at H;refine kP H (SR fun _ qV=>Rc O (Kz qV (SQ fun _ rT=>Cd O ?_ ?_))) <;> clear H qV
 ·intro Xc a H
  try have p81:=dT Xc
  have hn2:n < x.props.length:=by omega
  obtain ⟨pb,po,rfl,hrow2⟩:=Sz Fq hn2;have hrow:=hrow2;refine kP H (Kc rT (SQ fun _ sQ=>SB (SR fun _ ug=>Ri rO qd O O ?_)));clear H rT;intro a H;refine bq qd (cs:=[_,_]) H wn O O (fun j v hj=>H.hp.aI (hrow j v hj)) O ?_;clear H;intro a H;refine dR qd H wn O ?_;clear H;intro b9 a w uG H;refine bM qd 0 (vs:=[_,_]) H wn O ?_;clear H;intro w H;refine ug _ _ ?_;clear ug;refine kP H (SR fun _ sS=>aU yP aD 0 O O (Rc O (Rm O (Sp 87 O ?_ ?_)))) <;> clear H
  ·intro h87 a H
   try have Sn:=dT h87
   refine kH H (bg h87 O (Pt h87 O (Kz sS (Ct O O (SQ fun _ wo=>?_)))));clear H sS;intro a H
   have e4:nk l k x=4:=by
    exact abW
   refine kP H (SC (aZ wo O ?_));clear H wo;exact yG
  intro h87 a H
  try have Sn:=dF h87
  refine kH H (YF yP h87 O (YO aD 0 h87 O (YC h87 O (Pf h87 O (Kz sS (Cd O ?_ ?_)))))) <;> clear H sS
  ·intro Xe a H
   try have p91:=dT Xe
   refine bP (fun _ yw=>?_)
   have e4:nk l k x=4:=by
    exact abW
   refine kP H (SC (aZ yw O ?_));clear H yw;exact yG
  intro Xe a H
  try have p91:=dF Xe
  refine kP H (Kc sQ (SC (Rd O (Rm O ?_))));clear H sQ;intro a H;refine aF ?_;refine dS ((n+1)) (by exact (H.dV (Pl:=[_,_]) (dL:=[_]) [1] Q1 O).sub ⟨O,O,O,O,aB⟩) ?_
  exact ⟨V,by rw [jk hn2,List.any_append,hno];simp [Mq];omega⟩
 intro Xc a H
 try have p81:=dF Xc
 refine dX ?_;refine lN _ _ ?_;clear lN;refine bP (fun _ uV=>?_)
 have q6:¬ x.props.any (fun p=>Mq p.key)=true:=by
  rw [show x.props.take n=x.props from lU V] at hno;rw [hno];decide
 have e0:nk l k x=qZ (if x.kind=1 then 2 else 1) x.props:=by rw [nk,xU,cu,ay q1',ay q2',ay q3,ay q4,ay q5,ay q6]
 refine dI hmx [[],[0],[0,1],[],[3],ra 0 5,ra 0 6] [5,6] Z [_,vi x.kind,vi (if x.kind=1 then 2 else 1),_,.slice pA x.props.length pc] H (aC (Z0 O (Rf zR O)) (Z1 0 93 O (Ro aD 0 O)) ?_ (Z0 O (Rf QA O)) (bK (Z1 3 96 O (Ro BS 0 O)) (bK (bQ O) (bK (bQ O) dG)))) ?_
 ·refine gX 1 94 O O fun _ a w G1 hG HT H fin=>?_;refine s_call aqV H wn O (apL _ _ H.ro x.kind) O ?_;clear H;rintro v95 G95 a w rfl aup H;exact fin H aup (rfl)
 clear H;intro a w G J4 H hv;have H:=H.aQ (hv 2 95 O O) O;have H:=H.aQ (hv 4 97 O O) O;clear hv;refine s_call aeG H wn O (ajL _ _ H.ro _ x.props _ (Fq.mono J4)) O ?_;clear H;rintro v98 G98 a w rfl aDR H;refine kH H (Ra O ?_);clear H;intro a H;refine aF ⟨O,?_⟩;refine uV _ _ ?_;clear uV;refine lr H results177 O ?_
 exact abA
theorem FM:Ty prog 33 1 24 [.slice none 0 0] false:=⟨Z,Z⟩
theorem Ao:prog.underlying 33=some (.slice 190):=by kernel_rfl
theorem BQ:Ty prog 190 6 64 [.int .i64 0,.int .i64 0,.string ⟨#[]⟩,.int .i64 0,.string ⟨#[]⟩,.bool false] true:=⟨Z,Z⟩
theorem afC:dz prog 190 0 0:=⟨Z⟩
theorem afD:dz prog 190 1 1:=⟨Z⟩
theorem arv:aW 246:=aY func246 O
theorem aqI:aW 201:=aY func201 O
theorem asO:dz prog 190 2 2:=⟨Z⟩
theorem aeM:aW 132:=aY func132 O
theorem asP:dz prog 190 3 3:=⟨Z⟩
theorem asQ:dz prog 190 4 4:=⟨Z⟩
theorem aeV:aW 204:=aY func204 O
theorem aqK:aW 203:=aY func203 O
theorem aqJ:aW 202:=aY func202 O
theorem aqH:aW 200:=aY func200 O
theorem Ij {G:GH} {b:Nat} (l:List Int) (h:G b=some (.cells (l.map vi).toArray 41 (0,0))) (hl:l.length<=maxLen):av G (.sl 1 (l.map fun k=>[li k])) (.slice (some ⟨b,0,none⟩) l.length l.length) :=
 av.vU h (by simp) (fD _) hl (lU (by simp)) (Fz G l)
theorem VT {G:GH} {l:List jc} {A:Option Addr} {n c k:Nat} (hv:av G (.sl 6 (l.map jc.dat)) (.slice A n c)) (hk:k < l.length):∃ b o,A=some ⟨b,o,none⟩∧(∀ j u,l[k].cells[j]?=some u->aI G b (o+k*6+j)=some u)∧aX G l[k].dat l[k].cells:=by
 obtain ⟨A',c',he,_,_,hg⟩:=hv.slice
 injection he with e1 e2 e3
 subst e1;obtain ⟨b,o,cs,h1,h2,h3,h4⟩:=hg k l[k].dat (by simp [hk]);have:=adZ h4;subst this;exact ⟨b,o,h1,h3,h4⟩
theorem apd {G:GH} {bl:Nat} {l:List jc} {A:Option Addr} {n c:Nat} (hb:aI G bl 0=some (.slice A n c)) (hv:av G (.sl 6 (l.map jc.dat)) (.slice A n c)):uU (.func (.func 203) #[] #[(aJ bl 0)]) G l.length fun k=>(l[k]?.map jc.id).getD 0:=by
 intro k hk G1 w0 hm hG;refine kG (caps:=[(aJ bl 0)]) aqK ?_;replace hb:=aK hm hb
 obtain rfl:n=l.length:=by have:=hv.len;simpa using this
 obtain ⟨b,o,rfl,hrow,-⟩:=VT (hv.mono hm) hk;have hq:=hrow 0 _ O;refine eN [(0,_),(1,_)] func203 O ntmps203 O O hG ?_;intro a H;refine kP H (SR fun _ K1=>au K1 O (SR fun _ K2=>Rg FM O (by assumption) ?_));clear H K1;intro a H;refine kH H (Rm O (Ri Ao BQ O O (Rf afC O (Rg aD O (by assumption) ?_))));clear H;intro a H;exact kH H (au K2 O (LR results203 O fun H=>H.rt (by dsimp only;rw [fF hk];rfl)))
theorem ape {G:GH} {bc:Nat} {x:jc} (hb:aI G bc 1=some (vi x.parent)) (y:jc):uW (.func (.func 202) #[] #[(aJ bc 0)]) G y.dat (decide (y.id=x.parent)):=by
 intro G1 w0 cs hm hG hr;refine kG (caps:=[(aJ bc 0)]) aqJ ?_;obtain rfl:=adZ hr;replace hb:=aK hm hb;refine eN [(0,_),(1,_)] func202 O ntmps202 O O hG ?_;intro a H;refine dH (fun _ K1=>?_);refine eB (cs:=[_,_,_,_,_,_]) H wn O O O ?_;clear H;intro b2 a w hb2 H;refine kH H (au K1 O (SR fun _ K2=>aU afC aD 0 O O (Rf afD O (Rg aD O (by assumption) ?_))));clear H K1;intro a H;exact kH H (Rc O (au K2 O (LR results202 O fun H=>H.rt O)))
theorem axk (G:GH) (w0:World) (hG:Hold G w0) (l:List jc) (p:jc->Bool) (v fv:ah) (hv:av G (.sl 6 (l.map jc.dat)) v) (hf:∀ x∈l,uW fv G x.dat (p x)) :
  Calls prog 246 #[v,fv] w0 (bG w0 G fun u G'=>u=vi (nO (l.findIdx? p))):=by
 obtain ⟨A,c,rfl,hc1,hc2,hg⟩:=hv.slice;have hml:maxLen=9223372036854775807:=rfl;rw [bR] at *;refine eN [(0,_),(1,_)] func246 O ntmps246 O O hG ?_;intro a H;refine kP H (SR fun _ K1=>au K1 O (SQ fun _ K2=>SR fun _ K3=>Rm O (Rl Ao O (Rm O (Kz K3 (SB ?_))))));clear H K1 K3;intro a H;skip;refine eO (ι:=Nat × GH) (Tc:=[(0,_),(1,_),(7,_)]) (Lc:=[]) (fun gh=>[(8,vi gh.1)]) (fun gh=>[]) (fun gh=>gh.2) (fun gh=>gh.1<=l.length∧(l.take gh.1).findIdx? p=none∧(∀ b o,G b=some o->gh.2 b=some o)) (fun gh=>l.length - gh.1) ((0,G)) (by exact H.sub ⟨O,O,O,O,aB⟩) ?_ ?_
 ·exact yE
 clear H;rintro ⟨k,g⟩ a w hI H;dsimp only at hI H;obtain ⟨hk,hno,hgm⟩:=hI;dsimp only [lca,bD] at H;refine kP H (SR fun _ K4=>Rc O (Kz K4 (SQ fun _ K5=>Cd O ?_ ?_))) <;> clear H K4
 ·intro h9 a H
  try have p9:=dT h9
  have hk2:k < l.length:=by omega
  obtain ⟨b,o,rfl,hrow,hrep⟩:=VT hv hk2;refine kP H (Kc K5 (SQ fun _ K6=>SB (SR fun _ K7=>Rm O (au K7 O (SR fun _ K8=>Rm O (Rm O (Rm O (Ri Ao BQ O O ?_))))))));clear H K5 K7;intro a H;refine bq BQ (cs:=l[k].cells) H wn O O (fun j v hj=>H.hp.aI (aK hgm (hrow j v hj))) O ?_;clear H;intro a H;refine oL H wn O O (hf _ (jl hk2) _ _ _ hgm H.ro (hrep.mono hgm)) O ?_;clear H;rintro v16 yj a w rfl zX H;refine K8 _ _ ?_;clear K8;refine jX H O ?_ ?_
  ·intro h16
   try have p16:=dT h16
   refine kP H (SR fun _ K9=>Rm O (au K9 O ?_));clear H K9;intro a H;refine lr H results246 O ?_
   exact zN
  exact JA
 intro h9 a H
 try have p9:=dF h9
 refine dX ?_;refine K2 _ _ ?_;clear K2;refine kP H (SR fun _ aT=>au aT O ?_);clear H aT;intro a H;refine lr H results246 O ?_
 exact zN
theorem apj (G:GH) (w0:World) (hG:Hold G w0) (l:List jc) (p:jc->Bool) (v fv:ah) (hv:av G (.sl 6 (l.map jc.dat)) v) (hf:∀ x∈l,uW fv G x.dat (p x)) :
  Calls prog 201 #[v,fv] w0 (bG w0 G fun u G'=>u=.bool (l.findIdx? p).isSome):=by
 obtain ⟨A,c,rfl,hc1,hc2,-⟩:=hv.slice;rw [bR] at *;refine eN [(0,_),(1,_)] func201 O ntmps201 O O hG ?_;intro a H;refine kP H (SR fun _ K1=>au K1 O (SR fun _ K2=>Rm O (Rm O ?_)));clear H K1;intro a H;refine s_call arv H wn O (axk _ _ H.ro l p _ _ hv hf) O ?_;clear H;rintro v7 G7 a w rfl Cu H;exact kH H (Rc O (au K2 O (LR results201 O fun H=>H.rt (iq (Yu _)))))
def Jp (l:List jc) (i:Nat) (x:jc):Bool:=decide (x.parent=0) || ((l.take i).findIdx? fun y=>decide (y.id=x.parent)).isSome
def VR (l:List jc) (i:Nat) (x:jc):Int:=eu [wQ (fun k=>(l[k]?.map jc.id).getD 0) i,dN (!Jp l i x) 8,dN (!xw x.author) 39,dN (!decide (0<=x.time∧x.time<=1099511627776)) 40,Ev x.text]
def JF (l:List jc) (i:Nat):Int:=match l[i]? with|some x=>VR l i x|none=>0
theorem apc {G:GH} {bl:Nat} {l:List jc} {A:Option Addr} {n c:Nat} (hb:aI G bl 0=some (.slice A n c)) (hv:av G (.sl 6 (l.map jc.dat)) (.slice A n c)) (hl:l.length<=4294967296) (ht:∀ x∈l,x.author.size < 4611686018427387904∧x.text.size < 4611686018427387904):uU (.func (.func 200) #[] #[(aJ bl 0)]) G l.length (JF l):=by
 intro k hk G1 w0 hm hG;refine kG (caps:=[(aJ bl 0)]) aqH ?_;replace hb:=aK hm hb;replace hv:=hv.mono hm;have hcb:=apd hb hv;obtain ⟨_,_,hee,hvc,-,-⟩:=hv.slice
 injection hee with _ _ hcc
 subst hcc;rw [bR] at hvc
 obtain rfl:n=l.length:=by have:=hv.len;simpa using this
 obtain ⟨b,o,rfl,hrow,hrep⟩:=VT hv hk;have hte:=ht _ (jl hk);obtain ⟨x,hx⟩:∃ x,x=l[k]:=⟨_,O⟩;rw [<- hx] at hrow hte
 have he:JF l k=VR l k x:=by unfold JF;rw [fF hk,hx]
 refine eN [(0,_),(1,_)] func200 O ntmps200 O O hG ?_;intro a H;refine kP H (SR fun _ K1=>au K1 O (SR fun _ K2=>Rg FM O (by assumption) ?_));clear H K1;intro a H;refine kH H (Rm O (Ri Ao BQ O O ?_));clear H;intro a H;refine bq BQ (cs:=x.cells) H wn O O (fun j v hj=>H.hp.aI (hrow j v hj)) O ?_;clear H;intro a H;refine dR BQ H wn O ?_;clear H;intro b4 a w hb4 H;refine bM BQ 0 (vs:=[_,_,_,_,_,_]) H wn O ?_;clear H;intro w H;obtain ⟨Ga,hma,yV,H⟩:=H.fJ
 have hcell:∀ (j:Nat) (u:ah),x.cells[j]?=some u->aI Ga b4 j=some u:=fun j u hj=>by unfold aI;rw [yV];simpa using hj
 have q1:=hcell 1 _ O;have hbA:=aK hma hb;have RA:=(hv.mono hma).pre k (by rw [bR];omega);rw [<- List.map_take] at RA;refine K2 _ _ ?_;clear K2;refine rX (ι:=Bool × GH) (Tc:=[(0,_),(1,_),(4,_)]) (Lc:=[]) (fun gh=>[(5,.bool gh.1)]) (fun gh=>[]) (fun gh=>gh.2) (fun gh=>gh.1=Jp l k x∧(∀ b o,Ga b=some o->gh.2 b=some o)) (by exact H.sub ⟨O,O,O,aB⟩) ?_ ?_
 ·skip;refine kP H (SC (Rf afD O (Rg aD O (by assumption) ?_)));clear H;intro a H;refine kH H (Rc O (Rm O (Sp 13 O ?_ ?_))) <;> clear H
  ·intro fT a H
   try have pz:=dT fT
   refine kH H (bg fT O (aR fT O (Pt fT O (Ra O ?_))));clear H;intro a H;refine aF ?_;refine ⟨(_,_),by exact H.sub ⟨O,O,O,O,aB⟩,?_⟩;(try dsimp only)
   first
   | exact ⟨by unfold Jp;rw [lT (by assumption)];rfl,fun _ _ h=>h⟩
   | exact ⟨by unfold Jp;rw [oP (by assumption)];rfl,hm18⟩
  intro fT a H
  try have pz:=dF fT
  refine kH H (YR FM fT O (by assumption) ?_);clear H;intro a H;refine kH H (YM fT O ?_);clear H;intro a H;refine Ox Ao BQ k H (wg H O O fT) O O O V O ?_;clear H;intro a H;refine wV H (wg H O O fT) O O ?_;clear H;intro a H;refine s_call aqI H (wg H O O fT) O (apj _ _ H.ro (l.take k) (fun y=>decide (y.id=x.parent)) _ _ RA (fun y _=>ape q1 y)) O ?_;clear H;rintro v18 O4 a w rfl hm18 H;refine kH H (Pf fT O (Ra O ?_));clear H;intro a H;refine aF ?_;refine ⟨(_,_),by exact H.sub ⟨O,O,O,O,aB⟩,?_⟩;(try dsimp only)
  first
  | exact ⟨by unfold Jp;rw [lT (by assumption)];rfl,fun _ _ h=>h⟩
  | exact ⟨by unfold Jp;rw [oP (by assumption)];rfl,hm18⟩
 clear H;rintro ⟨bf,g⟩ a w hI H;dsimp only at hI H;obtain ⟨hbf,hgm⟩:=hI;replace hcell:=fun j u hj=>aK hgm (hcell j u hj);replace hcb:=(hcb.mono hma).mono hgm;dsimp only [lca,bD] at H;refine bP (fun _ K3=>?_);have H:=H.sub (T':=[(0,_),(1,_),(4,_),(5,_)]) ⟨O,O,O,O,aB⟩;refine dI hmx [[],[],[0,1],[],[3],ra 0 5,[],[6],ra 0 8,ra 0 9,ra 0 10,[],[11],ra 0 13,ra 0 14,ra 0 15,[],[16],ra 0 18,ra 0 19,ra 0 20,ra 0 21] [19,20,21] Z [_,.func (.func 203) #[] #[(aJ bl 0)],vi (wQ (fun k=>(l[k]?.map jc.id).getD 0) k),_,_,vi (dN (!bf) 8),_,_,.bool (xw x.author),_,vi (dN (!xw x.author) 39),_,_,.bool (decide (0<=x.time∧x.time<=1099511627776)),_,vi (dN (!decide (0<=x.time∧x.time<=1099511627776)) 40),_,_,vi (Ev x.text)] H (aC (Z0 O (Rm O)) ?_ ?_ (Z0 O (Rm O)) (aC (Z1 3 23 O (Rn O)) ?_ (Z0 O (Rf asO O)) (X1 6 26 O fun hG=>Rg gV O (aK hG (hcell 2 _ O))) (aC ?_ (Z1 8 28 O (Rn O)) ?_ (Z0 O (Rf asP O)) (aC (X1 11 31 O fun hG=>Rg aD O (aK hG (hcell 3 _ O))) ?_ (Z1 13 33 O (Rn O)) ?_ (aC (Z0 O (Rf asQ O)) (X1 16 36 O fun hG=>Rg gV O (aK hG (hcell 4 _ O))) ?_ (bQ O) (bK (bQ O) (bK (bQ O) dG))))))) ?_
 ·exact GI
 ·refine eU 0 20 1 21 O O fun _ a w G1 hG HT H fin=>?_;refine s_call aeL H wn O (aiq _ _ H.ro k _ _ V (fun i hi=>(hcb.mono hG) i V)) O ?_;clear H;rintro v22 G22 a w rfl Xj H;exact fin H Xj (rfl)
 ·refine gX 4 24 O O fun _ a w G1 hG HT H fin=>?_;refine s_call lX H wn O (mD _ _ H.ro _ 8) O ?_;clear H;rintro v25 G25 a w ⟨rfl,-⟩ atU H;exact fin H atU (rfl)
 ·refine gX 7 27 O O fun _ a w G1 hG HT H fin=>?_;refine s_call aeM H wn O (aaY _ _ H.ro x.author hte.1) O ?_;clear H;rintro v28 O7 a w ⟨rfl,-⟩ atW H;exact fin H atW (rfl)
 ·refine gX 9 29 O O fun _ a w G1 hG HT H fin=>?_;refine s_call lX H wn O (mD _ _ H.ro _ 39) O ?_;clear H;rintro v30 EC a w ⟨rfl,-⟩ Xl H;exact fin H Xl (rfl)
 ·refine gX 12 32 O O fun _ a w G1 hG HT H fin=>?_;refine s_call yM H wn O (zi _ _ H.ro x.time 0 1099511627776) O ?_;clear H;rintro v33 Ua a w ⟨rfl,-⟩ atY H;exact fin H atY (rfl)
 ·refine gX 14 34 O O fun _ a w G1 hG HT H fin=>?_;refine s_call lX H wn O (mD _ _ H.ro _ 40) O ?_;clear H;rintro v35 G35 a w ⟨rfl,-⟩ Xm H;exact fin H Xm (rfl)
 ·refine gX 17 37 O O fun _ a w G1 hG HT H fin=>?_;refine s_call aeV H wn O (alc _ _ H.ro x.text hte.2) O ?_;clear H;rintro v38 O8 a w rfl aua H;exact fin H aua (rfl)
 clear H;intro a w G Xk H hv;have H:=H.aQ (hv 2 22 O O) O;have H:=H.aQ (hv 5 25 O O) O;have H:=H.aQ (hv 10 30 O O) O;have H:=H.aQ (hv 15 35 O O) O;have H:=H.aQ (hv 18 38 O O) O;clear hv;refine iG qO jm [_,_,_,_,_] [_,_,_,_,_] H wn O O O O O (by intro i q h;match i,h with|0,h=>exact h|1,h=>exact h|2,h=>exact h|3,h=>exact h|4,h=>exact h|n+5,h=>simp at h) O O ?_;clear H;intro b39 a w aDt H;obtain ⟨O9,XK,auN,H⟩:=H.fJ;refine s_call sj H wn O (sw _ _ H.ro _ _ (Ij [wQ (fun k=>(l[k]?.map jc.id).getD 0) k,dN (!bf) 8,dN (!xw x.author) 39,dN (!decide (0<=x.time∧x.time<=1099511627776)) 40,Ev x.text] auN (show 5<=maxLen by decide))) rfl ?_;clear H;rintro v40 _ a w ⟨rfl,rfl⟩ - H;refine kH H (Ra O ?_);clear H;intro a H;refine aF ⟨O,?_⟩;refine K3 _ _ ?_;clear K3;refine lr H results200 O ?_;exact H.rt (by rw [he,VR,<- hbf])
def Qj (l:List jc):Int:=eu [dN (decide (1024 < (l.length:Int))) 9,kF (JF l) (min l.length 1024)]
theorem aoy (G:GH) (w0:World) (hG:Hold G w0) (l:List jc) (v:ah) (hv:av G (.sl 6 (l.map jc.dat)) v) (hl:l.length<=4294967296) (ht:∀ x∈l,x.author.size < 4611686018427387904∧x.text.size < 4611686018427387904) :
  Calls prog 126 #[v] w0 (bG w0 G fun u G'=>u=vi (Qj l)):=by
 obtain ⟨A,c,rfl,hc1,hc2,-⟩:=hv.slice;rw [bR] at *;refine eN [(0,_)] func126 O ntmps126 O O hG ?_;intro a H;refine dH (fun _ K1=>?_);refine eB (cs:=[_]) H wn O O O ?_;clear H;intro b1 a w hb1 H;refine kH H (au K1 O (SQ fun _ K2=>?_));clear H K1;intro a H;have H:=H.sub (T':=[(1,_)]) ⟨O,aB⟩;obtain ⟨Ga,hma,hb1',H⟩:=H.fJ
 have hbl:aI Ga b1 0=some (.slice A l.length c):=by unfold aI;rw [hb1'];rfl
 have hcb:=apc hbl (hv.mono hma) hl ht;refine dI hmx [[],[0],[0,1],[0,1,2],[],[4],[4,5],[],ra 0 8,ra 0 9,ra 0 10,ra 0 11] [9,10,11] Z [_,_,_,vi (dN (decide (1024 < (l.length:Int))) 9),_,_,vi ((min l.length 1024:Nat):Int),.func (.func 200) #[] #[(aJ b1 0)],vi (kF (JF l) (min l.length 1024))] H (aC (X0 O fun hG=>Rg FM O (aK hG hbl)) (Z1 0 3 O (Rl Ao O)) (Z1 1 4 O (Rc O)) ?_ (aC (X0 O fun hG=>Rg FM O (aK hG hbl)) (Z1 4 7 O (Rl Ao O)) ?_ ?_ (aC ?_ (bQ O) (bQ O) (bQ O) dG))) ?_
 ·exact Qb
 ·exact Qe
 ·exact GI
 ·refine eU 6 9 7 10 O O fun _ a w G1 hG HT H fin=>?_;refine s_call JK H wn O (Ml _ _ H.ro (min l.length 1024) (JF l) _ V ((hcb.mono hG).le (Nat.min_le_left _ _))) O ?_;exact ME
 clear H;intro a w G jA H hv;have H:=H.aQ (hv 3 6 O O) O;have H:=H.aQ (hv 8 11 O O) O;clear hv;refine iG qO jm [_,_] [_,_] H wn O O O O O (by intro i q h;match i,h with|0,h=>exact h|1,h=>exact h|n+2,h=>simp at h) O O ?_;clear H;intro b12 a w D9 H;obtain ⟨Dm,Bt,HV,H⟩:=H.fJ;refine s_call sj H wn O (sw _ _ H.ro _ _ (Al HV)) O ?_;clear H;rintro v13 _ a w ⟨rfl,rfl⟩ - H;refine kH H (Ra O ?_);clear H;intro a H;refine aF ⟨O,?_⟩;refine K2 _ _ ?_;clear K2;refine lr H results126 O ?_;exact EJ
def zl:Nat->List Int->List MapEntry
 | _,[]=>[]
 | i,k :: r=>⟨.int .i64 k,.int .i64 (i:Int),i⟩ :: zl (i+1) r
theorem aiO (x:Int):∀ (i:Nat) (l:List Int),zl i (l++[x])=zl i l++[⟨.int .i64 x,.int .i64 ((i+l.length:Nat):Int),i+l.length⟩]
 | _,[]=>rfl
 | i,k :: r=>by
  rw [iT,zl,aiO x (i+1) r,zl,iT,lD,show i+1+r.length=i+(r.length+1) by omega]
def wP (x:Int):Nat->List Int->Option Nat
 | _,[]=>none
 | i,k :: r=>if k=x then some i else wP x (i+1) r
theorem aii {x:Int}:∀ {l:List Int} {i n:Nat},wP x i l=some n->i<=n
 | [],_,_,h=>by cases h
 | k :: r,i,n,h=>by
  rw [wP] at h;split at h
  ·cases h;exact fD _
  ·have:=aii h;omega
theorem aik {x:Int}:∀ {l:List Int} {i:Nat},x∉l->wP x i l=none
 | [],_,_=>rfl
 | k :: r,i,h=>by
  rw [wP,ay (fun e=>h (by simp [e])),aik (fun hm=>h (gH _ hm))]
theorem WH (x:Int):∀ (i j:Nat) (l:List Int),Instr.findNow (.int .i64) (.int .i64 x) (zl i l) j=some ((wP x i l).map fun n=>(j+(n - i),.int .i64 (n:Int)))
 | _,_,[]=>rfl
 | i,j,k :: r=>by
  have ih:=WH x (i+1) (j+1) r
  by_cases e:k=x
  ·subst e
   simp only [zl,Instr.findNow,Instr.sameNow,aH,wP,beq_self_eq_true]
   simp
  ·have hb:(x == k)=false:=by simp;exact fun h=>e h.symm
   simp only [zl,Instr.findNow,Instr.sameNow,aH,hb,wP,ay e,ih]
   cases h:wP x (i+1) r with
   | none=>rfl
   | some n =>
    have:=aii h
    simp only [Option.map_some,ou,iE,and_true]
    omega
abbrev ano (b:Nat) (l:List Int):Nat × Obj:=(b,.map (zl 0 l).toArray l.length)
theorem ayi (l:List Int) (x:Int):(zl 0 l).toArray.push ⟨.int .i64 x,.int .i64 (l.length:Int),l.length⟩=(zl 0 (l++[x])).toArray:=by
 rw [aiO,List.push_toArray,fO]
section
section
variable {P:Program} {N:Nat} {D:List Deferred} {w0 w w':World} {F:Nat->Prop} {G0 G G':GH} {L L' Li Lo:OL} {T:List (Nat × ah)} {a a':Act} {Q:Exit->Act->World->Prop}
variable {r:Option Nat} {ops:Array Oper} {rest:List Oper}
def Uf (P:Program) (Gi:GH) (B:OL) (gv:ah) (xs:List AP):Prop :=
 ∀ (J:Nat->GH->OL->Prop) (Jx:GH->OL->Prop) (fv:ah) (G:GH) (L:OL) (w:World),fv.cells=#[fv]->(∀ b o,Gi b=some o->G b=some o)->EF J->Ji Jx->J 0 G L->fM G (B++L) w->LQ P fv G xs J Jx ->
  tY P gv [fv] w (fB w G (B++L) fun _ G' L'=>J xs.length G' L'∨Jx G' L')
theorem Uf.mono {Gi ED:GH} {B:OL} {gv:ah} {xs:List AP} (h:Uf P Gi B gv xs) (hm:∀ b o,Gi b=some o->ED b=some o):Uf P ED B gv xs :=
 fun J Jx fv G L w h0 h1=>h J Jx fv G L w h0 fun b o hb=>h1 b o (hm b o hb)
end
end
section
section
variable {P:Program} {N:Nat} {D:List Deferred} {w0 w w':World} {F:Nat->Prop} {G0 G G':GH} {L L' Li Lo:OL} {T:List (Nat × ah)} {a a':Act} {Q:Exit->Act->World->Prop}
variable {r:Option Nat} {ops:Array Oper} {rest:List Oper}
def Jc (P:Program) (Gi:GH) (B:OL) (gv:ah) (xs:List AP) (fin:Bool):Prop :=
 ∀ (J:Nat->GH->OL->Prop) (Jx:GH->OL->Prop) (fv:ah) (G:GH) (L:OL) (w:World),fv.cells=#[fv]->(∀ b o,Gi b=some o->G b=some o)->EF J->Ji Jx->J 0 G L->fM G (B++L) w->LQ P fv G xs J Jx->(fin=false->∀ g l,¬ J xs.length g l) ->
  tY P gv [fv] w (fB w G (B++L) fun _ G' L'=>J xs.length G' L'∨Jx G' L')
theorem Jc.mono {Gi ED:GH} {B:OL} {gv:ah} {xs:List AP} {fin:Bool} (h:Jc P Gi B gv xs fin) (hm:∀ b o,Gi b=some o->ED b=some o):Jc P ED B gv xs fin :=
 fun J Jx fv G L w h0 h1=>h J Jx fv G L w h0 fun b o hb=>h1 b o (hm b o hb)
theorem aoe {fin:Bool} {B:OL} {Ba:Operand} {ps:List Nat} {assign body:Code} {gf:FuncId} {caps:List ah} {xs:List AP} {Gi:GH}
  (H:St N D w0 F G0 G (B++L) T a w) (hg:ev T Ba=some (.func (.func gf) #[] caps.toArray)) (en:∀ args w,(callFunc gf args).run P w=.ok (.enter gf args) w) (hit:Jc P Gi B (.func (.func gf) #[] caps.toArray) xs fin) (hGi:∀ b o,Gi b=some o->G b=some o)
  (hps:ps.all (Nat.blt · N)=true) (hlen:∀ k args g,yg xs k args g->args.length=ps.length)
  (J:Nat->GH->OL->Prop) (Jx:Code->GH->OL->Prop) (hno:fin=false->∀ g l,¬ J xs.length g l) (vG:EF J) (hJx:∀ c,Ji (Jx c)) (h0:J 0 G L) (X8:Uq P N ps assign body T G J Jx xs)
  (hdone:∀ Dk G1 L1 a1 w1,(∀ b o,G b=some o->G1 b=some o)->J xs.length G1 L1->St N ({ target:=.collected Dk,args:=#[] } :: D) w0 F G0 G1 ((Dk,.deferred (some [])) :: L1) T a1 w1->Q .normal a1 w1)
  (hstop:∀ Dk c G1 L1 a1 w1,(∀ b o,G b=some o->G1 b=some o)->Jx c G1 L1->St N ({ target:=.collected Dk,args:=#[] } :: D) w0 F G0 G1 ((Dk,.deferred (some [])) :: L1) T a1 w1->WP none P c Q a1 w1) :
  WP none P (.rangeFunc Ba ps.toArray assign body) Q a w:=by
 refine wpIn_rangeFunc ?_
 intro fn _
 have hev:=H.ev hg
 let q:Rec:=⟨fn,a.tmps,ps.toArray,assign,body,w.heap.size⟩
 obtain ⟨W1,hW1⟩:∃ W1,W1=(w.alloc (.deferred (some []))).alloc (q.at .ready none):=⟨_,O⟩
 have H1:Hp w0 F G0 G (B++((w.heap.size+1,q.at .ready none) :: (w.heap.size,.deferred (some [])) :: L)) W1:=by
  have:=(H.hp.alloc (.deferred (some []))).alloc (q.at .ready none)
  rw [World.size_alloc] at this
  rw [hW1]
  refine this.perm ?_
  have e:=um (l₁:=[(w.heap.size+1,q.at .ready none),(w.heap.size,Obj.deferred (some []))]) (l₂:=B)
  have e2:=List.Perm.append_right L e
  rw [gY,gY] at e2
  exact e2
 refine ⟨w.heap.size+1,[{ target:=.collected w.heap.size,args:=#[] }],W1,{ target:=.fn (.func gf) caps.toArray,args:=#[.func (.yield (w.heap.size+1)) #[] #[]] },W1,gf,
  #[.func (.yield (w.heap.size+1)) #[] #[]]++caps.toArray,W1,by rw [hW1];exact run_enterLoop_outer fn a.tmps ps.toArray assign body,?_,fun _ _=>trivial,?_,O1 none,?_⟩
 ·simp only [resolve,rangeCall,hev]
  simp [Deferred.ofValue,Act.eval]
 ·simp [invoke,en]
 ·have hcv:=hit (fun k=>Jr (w.heap.size+1) q [(w.heap.size,.deferred (some []))] (J k)) (Pg (w.heap.size+1) q [(w.heap.size,.deferred (some []))] Jx) (.func (.yield (w.heap.size+1)) #[] #[]) G
   ((w.heap.size+1,q.at .ready none) :: (w.heap.size,.deferred (some [])) :: L) W1 rfl hGi (fun k G G' L hm ⟨Lu,e,h⟩=>⟨Lu,e,vG k G G' Lu hm h⟩) (fun G G' L hm ⟨c,Lu,e,h⟩=>⟨c,Lu,e,hJx c G G' Lu hm h⟩) ⟨L,O,h0⟩ (Hp.owns (Li:=[]) H1) (adK H.nH H.get hps hlen X8) (fun e g l ⟨Lu,_,h⟩=>hno e g Lu h)
  replace hcv:=hcv.go
  have e:(do let d <- Deferred.ofValue (.func (.func gf) #[] caps.toArray) [Value.func (.yield (w.heap.size+1)) #[] #[]].toArray;invoke d.target d.args:Sem Next).run P W1=.ok (.enter gf (#[.func (.yield (w.heap.size+1)) #[] #[]]++caps.toArray)) W1:=by
   simp [Deferred.ofValue,invoke,en]
  rw [e] at hcv
  refine (VO hcv).mono ?_
  rintro e w2 ⟨v,G2,L2,rfl,hch,hJ⟩
  have H2:=Hp.change (Li:=[]) H1 hch
  rcases hJ with ⟨Lu,rfl,hJ⟩|⟨c,Lu,rfl,hJ⟩
  ·have hl:=H2.own _ (eT)
   have H3:=(H2.upd (i:=0) O (FR (q.at .exhausted none) hl)).drop (Dq _ _)
   exact ⟨none,_,run_endLoop hl (by simp),hdone _ G2 Lu _ _ hch.gm hJ ⟨H.nH,H.get,by simp [H.tu],H3⟩⟩
  ·have hl:=H2.own _ (eT)
   have H3:=(H2.upd (i:=0) O (FR (q.at .exhausted (some c)) hl)).drop (Dq _ _)
   exact ⟨some c,_,run_endLoop hl (by simp),hstop _ c G2 Lu _ _ hch.gm hJ ⟨H.nH,H.get,by simp [H.tu],H3⟩⟩
theorem aof {fin:Bool} {B:OL} {ι κ:Type} {Lc:OL} {Ba:Operand} {ps:List Nat} {assign body:Code} {gf:FuncId} {caps:List ah} {xs:List AP} {Gi:GH}
  (Lv:Nat->ι->OL) (Lt:Nat->ι->OL) (inv:Nat->ι->GH->Prop) (cx:κ->Code) (Lx Gj:κ->OL) (BD:κ->GH->Prop) (i0:ι)
  (H:St N D w0 F G0 G (B++(Lc++Lv 0 i0++Lt 0 i0)) T a w) (hg:ev T Ba=some (.func (.func gf) #[] caps.toArray)) (en:∀ args w,(callFunc gf args).run P w=.ok (.enter gf args) w) (hit:Jc P Gi B (.func (.func gf) #[] caps.toArray) xs fin) (hGi:∀ b o,Gi b=some o->G b=some o)
  (hno:fin=false->∀ i g,¬ inv xs.length i g) (hps:ps.all (Nat.blt · N)=true) (hlen:∀ k args g,yg xs k args g->args.length=ps.length) (hinv:∀ k i (G G':GH),(∀ b o,G b=some o->G' b=some o)->inv k i G->inv k i G') (XG:∀ x (G G':GH),(∀ b o,G b=some o->G' b=some o)->BD x G->BD x G') (h0:inv 0 i0 G)
  (round:∀ (l:Nat) (Em AQ:Obj) (bk:OL) (k:Nat) (args:List ah) (i:ι) (G1:GH) (w1:World) (F1:Nat->Prop) (B1:Code->Exit->Act->World->Prop) (a1:Act),yg xs k args G1->(∀ b o,G b=some o->G1 b=some o)->inv k i G1 ->
   (∀ T' G2 L2 a2 w2 c,St N [] w1 F1 G1 G2 ((l,Em) :: L2) T' a2 w2->(∀ w3,St N [] w1 F1 G1 G2 ((l,AQ) :: L2) T' a2 w3->WP (some l) P c (B1 c) a2 w3)->Exit.then (fun a2 w2=>∃ w3,(Instr.beginRound l).run P w2=.ok () w3∧c.wpIn (FW (some l)) 0 P (B1 c) a2 w3) (fun _ _ _=>False) .normal a2 w2) ->
   (∀ i' T' G2 a2 w2 c,St N [] w1 F1 G1 G2 ((l,AQ) :: (Lc++Lv (k+1) i'++(bk++Lt (k+1) i'))) T' a2 w2->inv (k+1) i' G2->B1 c .normal a2 w2) ->
   (∀ x T' G2 a2 w2 c,St N [] w1 F1 G1 G2 ((l,AQ) :: (Lc++Lx x++(bk++Gj x))) T' a2 w2->BD x G2->(cx x=.ret->B1 c .ret a2 w2)∧∀ n,cx x=.exit n->B1 c (.exit n) a2 w2) ->
   St N [] w1 F1 G1 G1 ((l,Em) :: (Lc++Lv k i++(bk++Lt k i))) (zM ps args T) a1 w1 ->
   WP (some l) P assign (Exit.then (fun a2 w2=>∃ w3,(Instr.beginRound l).run P w2=.ok () w3∧body.wpIn (FW (some l)) 0 P (B1 body) a2 w3) (fun _ _ _=>False)) a1 w1)
  (hdone:∀ Dk i G1 a1 w1,(∀ b o,G b=some o->G1 b=some o)->inv xs.length i G1->St N ({ target:=.collected Dk,args:=#[] } :: D) w0 F G0 G1 ((Dk,.deferred (some [])) :: (Lc++Lv xs.length i++Lt xs.length i)) T a1 w1->Q .normal a1 w1)
  (hstop:∀ Dk x G1 a1 w1,(∀ b o,G b=some o->G1 b=some o)->BD x G1->St N ({ target:=.collected Dk,args:=#[] } :: D) w0 F G0 G1 ((Dk,.deferred (some [])) :: (Lc++Lx x++Gj x)) T a1 w1->WP none P (cx x) Q a1 w1) :
  WP none P (.rangeFunc Ba ps.toArray assign body) Q a w:=by
 refine aoe (J:=fun k g L=>∃ i,L=Lc++Lv k i++Lt k i∧inv k i g) (Jx:=fun c g L=>∃ x,c=cx x∧L=Lc++Lx x++Gj x∧BD x g) H hg en hit hGi hps hlen (hno:=fun e g l ⟨i,_,h⟩=>hno e i g h) (fun k G G' L hm ⟨i,e,h⟩=>⟨i,e,hinv k i G G' hm h⟩) (fun c G G' L hm ⟨x,e1,e2,h⟩=>⟨x,e1,e2,XG x G G' hm h⟩) ⟨i0,O,h0⟩ ?_ ?_ ?_
 ·rintro l q bk k args G1 L1 w1 a1 hk hm ⟨i,rfl,hi⟩ H1
  have pm:∀ A B:OL,(bk++(A++B)).Perm (A++(bk++B)):=fun A B=>by
   rw [<- gY,<- gY]
   exact List.Perm.append_right B um
  refine round l (q.at .ready none) (q.at .busy none) bk k args i G1 w1 _ (fun _=>roundPost P l _) a1 hk hm hi ?_ ?_ ?_ (H1.perm (List.Perm.cons _ (pm _ _)))
  ·intro T' G2 L2 a2 w2 c H2 h
   exact adH H2 h
  ·intro i' T' G2 a2 w2 c H2 h2
   exact KY none (H2.perm (List.Perm.cons _ (pm _ _).symm)) ⟨_,O,i',O,h2⟩
  ·intro x T' G2 a2 w2 c H2 h2
   have H3:=H2.perm (List.Perm.cons _ (pm _ _).symm)
   refine ⟨fun e=>?_,fun n e=>?_⟩
   ·exact KY (some .ret) H3 ⟨_,_,O,x,e.symm,O,h2⟩
   ·exact KY (some (.exit n)) H3 ⟨_,_,O,x,e.symm,O,h2⟩
 ·rintro Dk G1 L1 a1 w1 hm ⟨i,rfl,hi⟩ H1
  exact hdone Dk i G1 a1 w1 hm hi H1
 ·rintro Dk c G1 L1 a1 w1 hm ⟨x,rfl,rfl,hx⟩ H1
  exact hstop Dk x G1 a1 w1 hm hx H1
end
end
theorem IQ:prog.underlying 112=some (.map 3 3):=by kernel_rfl
theorem sM:Ty prog 31 1 24 [.slice none 0 0] false:=⟨Z,Z⟩
theorem Wz:dz prog 183 3 3:=⟨Z⟩
theorem aeZ:aW 226:=aY func226 O
theorem aij {x:Int}:∀ {l:List Int} {i n:Nat},wP x i l=some n->n < i+l.length
 | [],_,_,h=>by cases h
 | k :: r,i,n,h=>by
  rw [wP] at h;split at h
  ·cases h;simp
  have:=aij h;simp only [lD];omega
def zQ (l:List cB):Nat->Int->List cB
 | 0,_=>[]
 | f+1,id=>if id=0 then [] else match wP id 0 (l.map cB.id) with|none=>[]|some i=>match l[i]? with|none=>[]|some s=>s :: zQ l f s.base
def JE (l:List cB) (id:Int):List cB:=zQ l (l.length+1) id
theorem aov {l:List cB} {f:Nat} {id:Int} (h:id=0):zQ l f id=[]:=by
 cases f with
 | zero=>rfl
 | succ f=>rw [zQ,aH h]
theorem aot {l:List cB} {f:Nat} {id:Int} (h0:¬ id=0) (h:wP id 0 (l.map cB.id)=none):zQ l f id=[]:=by
 cases f with
 | zero=>rfl
 | succ f=>rw [zQ,ay h0,h]
theorem aou {l:List cB} {f i:Nat} {id:Int} (h0:¬ id=0) (h:wP id 0 (l.map cB.id)=some i) (hi:i < l.length):zQ l (f+1) id=l[i] :: zQ l f l[i].base:=by
 rw [zQ,ay h0,h];dsimp only;rw [fF hi]
def stP (x:cB):AP:=fun args g=>∃ cs,args=[.agg cs.toArray]∧aX g x.dat cs
theorem acW {p:Prop} (h:p:=by
 obtain ⟨p,hp,hargs⟩:=h;rw [pJ] at hp;obtain ⟨q,hq,rfl⟩:=nG.1 hp;obtain ⟨hk,rfl⟩:=ji.1 hq;obtain ⟨cs,h1,h2⟩:=hargs;exact ⟨hk,cs,h1,h2⟩):p:=h
theorem akY {A:List cB} {k:Nat} {args:List ah} {g:GH} (h:yg (A.map stP) k args g):∃ (hk:k < A.length) (cs:List ah),args=[.agg cs.toArray]∧aX g A[k].dat cs:=by
 exact acW
abbrev bI (b:Nat) (n:Int):Nat × Obj:=(b,.cells #[vi n] 3 (0,0))
set_option maxHeartbeats 1000000 in
theorem aow {G:GH} {bl bi:Nat} {l:List cB} {id:Int} {v:ah} (hb:aI G bl 0=some v) (hv:av G (.sl 6 (l.map cB.dat)) v) (hnd:∀ (k:Nat) (h:k < l.length),l[k].id∉(l.take k).map cB.id) :
  Jc prog G [bI bi id] (.func (.func 226) #[] #[(aJ bl 0),(aJ bi 0)]) ((JE l id).map stP) (decide ((JE l id).length<=l.length)):=by
 intro J Jx fv G1 L w0 hfv hGi vG hJx hJ hO hcb hfin;refine kG (caps:=[(aJ bl 0),(aJ bi 0)]) aeZ ?_;obtain ⟨A,c,rfl,hc1,hc2,-⟩:=hv.slice;have hml:maxLen=9223372036854775807:=rfl;rw [bR] at *;replace hb:=aK hGi hb;replace hv:=hv.mono hGi;refine iB (N:=46) (T:=[(0,_),(1,_),(2,_)]) func226 O ntmps226 O O hO ?_;intro a H;refine dH (fun _ K1=>?_);refine FH H wn O ?_;clear H;intro bm a w QY H;refine kH H (au K1 O (SQ fun _ K2=>SR fun _ K3=>Rg sM O (by assumption) ?_));clear H K1;intro a H;refine kH H (Rl mq O (Rm O (Kz K3 (SB ?_))));clear H K3;intro a H;skip;refine eO (ι:=Nat) (Tc:=[(0,_),(1,_),(2,_),(4,_),(10,_),(11,_)]) (Lc:=[(_,_)]) (fun gh=>[(12,vi gh)]) (fun gh=>[ano bm ((l.take gh).map cB.id)]++L) (fun gh=>G1) (fun gh=>gh<=l.length) (fun gh=>l.length - gh) (0) (by exact (H.dV (Pl:=[_,_]) (dL:=[_,_]) [1,0] Q1 O).sub ⟨O,O,O,O,O,O,O,aB⟩) ?_ ?_
 ·exact jL _
 clear H;intro k a w hI H;have hk:=hI;dsimp only [lca,bD] at H;refine kP H (SR fun _ K4=>Rc O (Kz K4 (SQ fun _ K5=>Cd O ?_ ?_))) <;> clear H K4
 ·intro fT a H
  try have pz:=dT fT
  have hk2:k < l.length:=by omega
  obtain ⟨b,o,pA,pc,rfl,hrow,hp,hrep⟩:=Et hv hk2;have avU:=hnd k hk2
  have hlk:((l.take k).map cB.id).length=k:=by rw [bR,List.length_take];omega
  have hnx:(l.take k).map cB.id++[l[k].id]=(l.take (k+1)).map cB.id:=by rw [jk hk2,jM];rfl
  refine kP H (Kc K5 (SQ fun _ K6=>SB (SR fun _ K7=>Rm O (Ri mq kr O O ?_))));clear H K5;intro a H;refine bq kr (cs:=[_,_,_,_,_,_]) H wn O O (fun j v hj=>H.hp.aI (hrow j v hj)) O ?_;clear H;intro a H;refine dR kr H wn O ?_;clear H;intro b6 a w hb6 H;refine kH H (Ra O ?_);clear H;intro a H;refine bM kr 0 (vs:=[_,_,_,_,_,_]) H wn O ?_;clear H;intro w H;refine K7 _ _ ?_;clear K7;refine kP H (SC (Rm O (aU xG aD 0 O O (Rm O ?_))));clear H;intro a H;refine akt (i:=2) (ky:=vi l[k].id) (v:=vi k) IQ mQ H wn O O O O (by trivial) (by rw [List.toList_toArray,WH,aik avU];rfl) ?_;clear H;intro w H
  have hpush:((zl 0 ((l.take k).map cB.id)).toArray.push ⟨vi l[k].id,vi k,((l.take k).map cB.id).length⟩)=(zl 0 ((l.take (k+1)).map cB.id)).toArray:=by rw [<- hnx,<- ayi,hlk]
  rw [hpush,show ((l.take k).map cB.id).length+1=((l.take (k+1)).map cB.id).length by rw [<- hnx];simp] at H;refine kH H (Kn K6 (SC (Rd O (Rm O ?_))));clear H K6;intro a H;refine aF ?_;refine dS ((k+1)) (by exact (H.dV (Pl:=[_,_,_]) (dL:=[_,_]) [1,2] Q1 O).sub ⟨O,O,O,O,O,O,O,aB⟩) ?_
  exact by omega
 intro fT a H
 try have pz:=dF fT
 obtain rfl:k=l.length:=by omega
 rw [vg] at H;refine dX ?_;refine K2 _ _ ?_;clear K2;refine AU ?_;skip;refine eO (ι:=Int × Nat × Nat × OL × GH) (Tc:=[(0,_),(1,_),(2,_),(4,_)]) (Lc:=[(_,_)]) (fun gh=>[]) (fun gh=>[bI bi gh.1]++gh.2.2.2.1) (fun gh=>gh.2.2.2.2) (fun gh=>(∀ b o,G1 b=some o->gh.2.2.2.2 b=some o)∧Now ((JE l id).map stP) stP J (JE l id).length gh.2.2.1 (zQ l gh.2.1 gh.1) gh.2.2.2.2 gh.2.2.2.1∧gh.2.2.1+gh.2.1=l.length+1) (fun gh=>gh.2.1) ((id,l.length+1,0,L,G1)) (by exact (H.dV (Pl:=[_,_]) (dL:=[_,_]) [1,0] Q1 O).sub ⟨O,O,O,O,aB⟩) ?_ ?_
 ·exact ⟨fun _ _ h=>h,⟨hJ,fun i a h=>by rw [fO,pJ];rw [show zQ l (l.length+1) id=JE l id from rfl] at h;rw [h];rfl,fO _⟩,fO _⟩
 clear H;rintro ⟨i,f,j1,Lt,g⟩ a w hI H;dsimp only at hI H;obtain ⟨hgm,fP,hjf⟩:=hI;have hbg:=aK hgm hb;dsimp only [lca,bD] at H;refine kP H (SQ fun _ K8=>SR fun _ K9=>Ro aD 1 O (Rc O (Kz K9 (Cd O ?_ ?_)))) <;> clear H K9
 ·intro h23 a H
  try have qL:=dT h23
  have h0:¬ i=0:=by simpa using h23
  obtain ⟨an,han⟩:∃ an,an=wP i 0 (l.map cB.id):=⟨_,O⟩;have hfn:=WH i 0 0 (l.map cB.id);rw [<- han] at hfn;refine kP H (Kc K8 (SB (SR fun _ aT=>Rm O (Ro aD 1 O ?_))));clear H K8;intro a H;refine aAX (i:=0) (zv:=vi 0) _ IQ mQ Z H wn O O O (by trivial) (by simpa using hfn) O ?_;clear H;intro a H;refine kH H (Rm O ?_);clear H;intro a H;(iterate 2 refine ko H wn O O O ?_;clear H;intro a H);refine kH H (Ra O (au aT O (SQ fun _ bJ=>SR fun _ bO=>Rm O (Rn O (Rm O (Sp 32 O ?_ ?_)))))) <;> clear H aT
  ·intro h32 a H
   try have p32:=dT h32
   obtain rfl:an=none:=by
    cases an with
    | none=>rfl
    | some n=>simp [Ej] at h32
   rw [aot h0 han.symm] at fP;refine kH H (bg h32 O (aR h32 O (aR h32 O (Pt h32 O (Kz bO (Ct O O ?_))))));clear H bO;intro a H;refine gu ?_;refine (leave0 H results226 ?_).1;refine H.hp.kJ (L':=Lt) (by repeat (first|exact lV _|apply List.Sublist.cons)) (.inl ?_);have h:=fP.len
   simp only [List.length_nil,wB] at h
   rw [<- h];exact fP.now
  intro h32 a H
  try have p32:=dF h32
  obtain ⟨n,rfl⟩:∃ n,an=some n:=by
   cases an with
   | none=>simp [Ej] at h32
   | some n=>exact ⟨n,O⟩
  have hnl:n < l.length:=by have:=aij han.symm;simpa using this
  obtain ⟨f',rfl⟩:∃ f',f=f'+1:=by
   cases f with
   | succ f'=>exact ⟨f',O⟩
   | zero =>
    exfalso
    have hl:=fP.len
    simp only [zQ,List.length_nil,wB] at hl
    refine hfin (oP V) g Lt ?_;rw [<- hl];exact fP.now
  rw [aou h0 han.symm hnl] at fP;dsimp only [Ej,Option.map_some] at H;obtain ⟨b,o,pA,pc,rfl,hrow,hp,hrep⟩:=Et (hv.mono hgm) hnl;refine kH H (YM h32 O (YR sM h32 O (by assumption) ?_));clear H;intro a H;refine kH H (YM h32 O (YI mq kr h32 O O ?_));clear H;intro a H;refine bq kr (cs:=[_,_,_,_,_,_]) H (wg H O O h32) O O (fun j v hj=>H.hp.aI (hrow j v hj)) O ?_;clear H;intro a H;refine Ai (Li:=[_,_]) (L:=Lt) H (wg H O O h32) O O (hcb j1 _ _ _ _ ⟨_,fP.head,_,O,hrep⟩ hgm fP.now (Hp.owns (Li:=[_,_]) H.hp)) O ?_;clear H;rintro v38 O8 aas a w ⟨b38,rfl,hb1,hb2⟩ H7 H;have hbg:=aK H7 hbg;have r3:=aK H7 (hrow 3 _ O);refine kH H (YN h32 O (Pf h32 O (Kz bO (Cd O ?_ ?_)))) <;> clear H bO
  ·intro nK a H
   try have p40:=dT nK
   refine gu ?_;refine (leave0 H results226 ?_).1;exact H.hp.kJ (L':=aas) (by repeat (first|exact lV _|apply List.Sublist.cons)) (.inr (hb2 (by simpa using nK)))
  intro nK a H
  try have p40:=dF nK
  refine kP H (Kc bJ (SC (Rg sM O (by assumption) ?_)));clear H bJ;intro a H;refine kH H (Rm O (Ri mq kr O O (Rf Wz O (Rg aD O (by assumption) ?_))));clear H;intro a H;refine bM aD 1 (vs:=[_]) H wn O ?_;clear H;intro w H;refine aF ?_;refine dS ((l[n].base,f',j1+1,aas,O8)) (by exact H.sub ⟨O,O,O,O,aB⟩) ?_
  (try dsimp only);exact ⟨fun b o h=>H7 b o (hgm b o h),fP.step (hb1 (by simpa using nK)),V⟩
 intro h23 a H
 try have qL:=dF h23
 refine dX ?_;refine (leave0 H results226 ?_).2;rw [aov (by simpa using h23)] at fP;refine H.hp.kJ (L':=Lt) (by repeat (first|exact lV _|apply List.Sublist.cons)) (.inl ?_);have h:=fP.len
 simp only [List.length_nil,wB] at h
 rw [<- h];exact fP.now
theorem aqs:aW 179:=aY func179 O
theorem aqr:aW 177:=aY func177 O
theorem Wm:aW 178:=aY func178 O
theorem Qz:dz prog 183 4 4:=⟨Z⟩
theorem aox {G:GH} {w0:World} (hO:fM G [] w0) (l:List cB) (id:Int) (v:ah) (hv:av G (.sl 6 (l.map cB.dat)) v) :
  Calls prog 179 #[v,vi id] w0 (fB w0 G [] fun u G' L'=>∃ bl bi,u=.func (.func 226) #[] #[(aJ bl 0),(aJ bi 0)]∧L'=[bI bi id]∧aI G' bl 0=some v):=by
 obtain ⟨A,c,rfl,hc1,hc2,-⟩:=hv.slice;refine iB (N:=6) (T:=[(0,_),(1,_)]) func179 O ntmps179 O O hO ?_;intro a H;refine dH (fun _ K1=>?_);refine eB (cs:=[_]) H wn O O O ?_;clear H;intro b2 a w hb2 H;refine eB (cs:=[_]) H wn O O O ?_;clear H;intro b3 a w hb3 H;refine kH H (au K1 O (SR fun _ K2=>?_));clear H K1;intro a H;refine wV H wn O O ?_;clear H;intro a H;refine kH H (au K2 O ?_);clear H K2;intro a H;refine lr H results179 O ?_;have H:=H.dV (Pl:=[_,_]) (dL:=[_,_]) [1,0] Q1 O;obtain ⟨Ga,hma,hb2',H⟩:=H.fJ;exact H.hp.gI ⟨b2,b3,O,O,by unfold aI;rw [hb2'];rfl⟩
def vB (p:Nat->Int):Nat->Nat->Int
 | _,0=>0
 | k,n+1=>if p k=0 then vB p (k+1) n else p k
theorem asF {p:Nat->Int} {k m:Nat} (h:k < m):vB p k (m - k)=if p k=0 then vB p (k+1) (m - (k+1)) else p k:=by
 obtain ⟨n,hn⟩:∃ n,m - k=n+1:=⟨m - k - 1,V⟩;rw [hn,vB,show m - (k+1)=n by omega]
theorem asE {p:Nat->Int} {k m:Nat} (h:m<=k):vB p k (m - k)=0:=by rw [show m - k=0 by omega];rfl
theorem afr {p:Nat->Int}:∀ {n k:Nat},vB p k n=0->∀ j,k<=j->j < k+n->p j=0
 | 0,k,_,j,h1,h2=>by omega
 | n+1,k,h,j,h1,h2=>by
  rw [vB] at h;split at h
  ·rename_i hp
   by_cases e:j=k
   ·rw [e];exact hp
   exact afr h j V V
  rename_i hp;exact absurd h hp
def BI (l:List cB) (k:Nat):Int:=match l[k]? with|some s=>nk l k s|none=>0
theorem ajy {l:List cB} {k:Nat} (h:k < l.length):BI l k=nk l k l[k]:=by unfold BI;rw [fF h]
def yD (l:List cB) (s:cB):Bool:=(decide (s.base≠0) && !Ob l s.kind s.base) || (decide (s.next≠0) && (decide (s.kind=2) || !Ob l 1 s.next))
def VY (l:List cB) (s:cB):Bool:=decide (l.length < (JE l s.id).length)
def AX (l:List cB):Int:=if 128 < l.length then 9 else if vB (BI l) 0 l.length≠0 then vB (BI l) 0 l.length else if l.any (yD l)=true then 25 else if l.any (VY l)=true then 16 else 0
theorem azf {l:List cB} (h:vB (BI l) 0 l.length=0) {k:Nat} (hk:k+1 < l.length):l[k].id < l[k+1].id:=by
 have h1:=afr h (k+1) (jL _) V;rw [ajy hk,nk,xU] at h1
 have hp:Af l (k+1)=some l[k].id:=by rw [Af,cu,Nat.add_sub_cancel,fF V];rfl
 rw [hp] at h1
 split at h1
 ·cases h1
 split at h1
 ·cases h1
 split at h1
 ·cases h1
 rename_i _ h2 h3
 have h2':¬ l[k].id=l[k+1].id:=fun e=>h2 (by rw [e]);have h3':¬ l[k+1].id < l[k].id:=fun e=>h3 (aG e)
 omega
theorem ajz {l:List cB} (h:vB (BI l) 0 l.length=0):∀ {k j:Nat} (hk:k < l.length) (hj:j < k),l[j].id < l[k].id
 | k+1,j,hk,hj=>by
  have h1:=azf h hk
  by_cases e:j=k
  ·subst e;exact h1
  have:=ajz h (k:=k) (j:=j) V V
  omega
theorem ajA {l:List cB} (h:vB (BI l) 0 l.length=0) (k:Nat) (hk:k < l.length):l[k].id∉(l.take k).map cB.id:=by
 intro hm;obtain ⟨x,hx1,hx2⟩:=List.mem_map.1 hm;obtain ⟨j,hj,rfl⟩:=List.getElem_of_mem hx1;rw [List.getElem_take] at hx2;rw [List.length_take] at hj;have:=ajz h hk (j:=j) V
 omega
theorem aaU {α:Type} {p:α->Bool} {l:List α} {k:Nat} (hk:k < l.length) (h:(l.take k).any p=false) (hp:p l[k]=false):(l.take (k+1)).any p=false:=by
 rw [jk hk,List.any_append,h];simp [hp]
theorem Jo {α:Type} {p:α->Bool} {l:List α} {k:Nat} (hk:k < l.length) (hp:p l[k]=true):l.any p=true:=List.any_eq_true.2 ⟨_,jl hk,hp⟩
theorem aaT {α:Type} {p:α->Bool} {l:List α} {k:Nat} (hk:l.length<=k) (h:(l.take k).any p=false):¬ l.any p=true:=by
 rw [lU hk] at h;rw [h];decide
theorem PX {p:Prop} (h:p:=by
 first
  | exact H.rt (dh vi (by rw [AX,jZ]))
  | exact H.rt (dh vi (by rw [ay (by simpa using oI)] at heq;rw [AX,cu,<- heq,aH (by simpa using oI)]))
  | exact H.rt (dh vi (by rw [AX,cu,ay (by rw [hok];decide),aH hbad]))
  | exact H.rt (dh vi (by rw [AX,cu,ay (by rw [hok];decide),ay hbad,aH (Jo hj2 hI)]))
  | exact H.rt (dh vi (by rw [AX,cu,ay (by rw [hok];decide),ay hbad,ay (aaT V hnc)]))):p:=h
theorem UR {p:Prop} (h:p:=by
 exact ⟨V,aaU hk4 hno (by unfold yD;simp_all),mM⟩):p:=h
theorem Mw {p:Prop} (h:p:=by
 refine gu ?_;refine (leave1 H results98 (.cons (CQ jm H O (H.hp.tO 1 O O)) .nil) ?_).1
 exact PX):p:=h
theorem acO {p:Prop} (h:p:=by
 intro iC a H
 try have p59:=dF iC
 refine kP H (Kc eX (SC (Rd O (Rm O ?_))));clear H eX;intro a H;refine aF ?_;refine dS ((k+1,g2)) (by exact (H.dV (Pl:=[_,_,_]) (dL:=[_,_]) [1,2] Q1 O).sub ⟨O,O,O,O,O,aB⟩) ?_
 (try dsimp only);exact UR):p:=h
theorem adu {p:Prop} (h:p:=by
 refine gu ?_;refine (leave1 H results98 (.cons (CQ jm H O (H.hp.tO 0 O O)) .nil) ?_).1
 exact PX):p:=h
set_option maxHeartbeats 1000000 in
theorem aoE (G:GH) (w0:World) (hG:Hold G w0) (l:List cB) (v:ah) (hv:av G (.sl 6 (l.map cB.dat)) v) (hN:∀ s∈l,s.name.size<=4611686018427387904) :
  Calls prog 98 #[v] w0 (bG w0 G fun u G'=>u=vi (AX l)):=by
 obtain ⟨A,c,rfl,hc1,hc2,-⟩:=hv.slice;have hml:maxLen=9223372036854775807:=rfl;rw [bR] at *;refine eN [(0,_)] func98 O ntmps98 O O hG ?_;intro a H;refine dH (fun _ K1=>?_);refine eB (cs:=[_]) H wn O O O ?_;clear H;intro b1 a w hb1 H;refine dR jm H wn O ?_;clear H;intro b2 a w hb2 H;refine K1 _ _ ?_;clear K1;refine kP H (SQ fun _ K2=>SR fun _ K3=>Ro sM 1 O (Rl mq O (Rc O (Kz K3 (Cd O ?_ ?_))))) <;> clear H K3
 ·intro h12 a H
  try have pq:=dT h12
  refine dH (fun _ K4=>?_);refine bM jm 0 (vs:=[_]) H wn O ?_;clear H;intro w H;refine K4 _ _ ?_;clear K4;exact adu
 intro h12 a H
 try have pq:=dF h12
 refine kP H (Kc K2 (SQ fun _ K5=>SR fun _ K6=>Ro sM 1 O (Rl mq O (Rm O (Kz K6 (SB ?_))))));clear H K2 K6;intro a H;skip;refine eO (ι:=Nat × GH) (Tc:=[(1,_),(2,_),(14,_)]) (Lc:=[(_,_),(_,_)]) (fun gh=>[(15,vi gh.1)]) (fun gh=>[]) (fun gh=>gh.2) (fun gh=>gh.1<=l.length∧vB (BI l) gh.1 (l.length - gh.1)=vB (BI l) 0 l.length∧(∀ b o,G b=some o->gh.2 b=some o)) (fun gh=>l.length - gh.1) ((0,G)) (by exact H.sub ⟨O,O,O,O,aB⟩) ?_ ?_
 ·exact EK
 clear H;rintro ⟨k,g⟩ a w hI H;dsimp only at hI H;obtain ⟨hk,heq,hgm⟩:=hI;dsimp only [lca,bD] at H;refine kP H (SR fun _ K7=>Rc O (Kz K7 (SQ fun _ K8=>Cd O ?_ ?_))) <;> clear H K7
 ·intro h16 a H
  try have p16:=dT h16
  have hk2:k < l.length:=by omega
  rw [asF hk2,ajy hk2] at heq;refine kP H (Kc K8 (SQ fun _ K9=>SB (SR fun _ aT=>Rm O (au aT O (SR fun _ bJ=>Ro sM 1 O (Rm O ?_))))));clear H K8 aT;intro a H;refine s_call aqr H wn O (azg _ _ H.ro l k _ (hv.mono hgm) hk2 (hN _ (jl hk2))) O ?_;clear H;rintro v20 I8 a w rfl Fb H;refine kH H (au bJ O (SR fun _ bO=>Rm O (Rc O (Kz bO (Cd O ?_ ?_))))) <;> clear H bJ bO
  ·intro h22 a H
   try have oI:=dT h22
   refine kP H (SR fun _ bU=>Rm O ?_);clear H;intro a H;refine bM jm 0 (vs:=[_]) H wn O ?_;clear H;intro w H;refine bU _ _ ?_;clear bU;exact adu
  intro h22 a H
  try have oI:=dF h22
  refine kP H (Kc K9 (SC (Rd O (Rm O ?_))));clear H K9;intro a H;refine aF ?_;refine dS ((k+1,I8)) (by exact H.sub ⟨O,O,O,O,aB⟩) ?_
  (try dsimp only);exact ⟨V,by rw [aH (by simpa using oI)] at heq;exact heq,fun b o h=>Fb b o (hgm b o h)⟩
 intro h16 a H
 try have p16:=dF h16
 have hok:vB (BI l) 0 l.length=0:=by rw [<- heq];exact asE V
 clear heq;have Ig:=hv.mono hgm;refine dX ?_;refine K5 _ _ ?_;clear K5;refine kP H (SQ fun _ bZ=>SR fun _ dP=>Ro sM 1 O (Rl mq O (Rm O (Kz dP (SB ?_)))));clear H dP;intro a H;skip;refine eO (ι:=Nat × GH) (Tc:=[(1,_),(2,_),(25,_),(26,_)]) (Lc:=[(_,_),(_,_)]) (fun gh=>[(27,vi gh.1)]) (fun gh=>[]) (fun gh=>gh.2) (fun gh=>gh.1<=l.length∧(l.take gh.1).any (yD l)=false∧(∀ b o,g b=some o->gh.2 b=some o)) (fun gh=>l.length - gh.1) ((0,g)) (by exact H.sub ⟨O,O,O,O,O,aB⟩) ?_ ?_
 ·exact EK
 clear H;rintro ⟨k,g2⟩ a w hI H;dsimp only at hI H;obtain ⟨hk3,hno,mM⟩:=hI;have BA:=Ig.mono mM;dsimp only [lca,bD] at H;refine kP H (SR fun _ dY=>Rc O (Kz dY (SQ fun _ dQ=>Cd O ?_ ?_))) <;> clear H dY
 ·intro eY a H
  try have p28:=dT eY
  have hk4:k < l.length:=by omega
  obtain ⟨b,o,pA,pc,rfl,hrow,hp,hrep⟩:=Et BA hk4;refine kP H (Kc dQ (SQ fun _ eX=>SB (SR fun _ gM=>Ri mq kr O O ?_)));clear H dQ;intro a H;refine bq kr (cs:=[_,_,_,_,_,_]) H wn O O (fun j v hj=>H.hp.aI (hrow j v hj)) O ?_;clear H;intro a H;refine dR kr H wn O ?_;clear H;intro b6 a w hb6 H;refine bM kr 0 (vs:=[_,_,_,_,_,_]) H wn O ?_;clear H;intro w H;refine gM _ _ ?_;clear gM;refine kP H (SR fun _ fI=>aU Wz aD 0 O O (Rc O (Rm O (Sp 34 O ?_ ?_)))) <;> clear H
  ·intro gP a H
   try have p34:=dT gP
   refine kH H (YO sM 2 gP O (YF zR gP O (YO aD 0 gP O (YF Wz gP O (YO aD 0 gP O ?_)))));clear H;intro a H;refine s_call Wm H (wg H O O gP) O (Yr _ _ H.ro l l[k].kind l[k].base _ BA) O ?_;clear H;rintro v40 g2 a w rfl Ed H;replace mM:=fun b o (h:g b=some o)=>Ed b o (mM b o h);replace BA:=BA.mono Ed;refine kH H (YN gP O (Pt gP O (Rm O (Sp 43 O ?_ ?_)))) <;> clear H
   ·intro h43 a H
    try have p43:=dT h43
    refine kH H (aR h43 O (aR h43 O (Ku O (Ku O (Ku O (Ku O (Ku O (Ku O (Ku O (Ku O (Ku O (Ku O (Ks h43 O (Pt h43 O (Kz fI (Ct O O (SQ fun _ gQ=>?_)))))))))))))))));clear H fI;intro a H;have hbad:l.any (yD l)=true:=Jo hk4 (by unfold yD;simp_all);refine mX ?_;refine bM jm 1 (vs:=[_]) H wn O ?_;clear H;intro w H;refine aF ?_;refine gQ _ _ ?_;clear gQ;exact Mw
   intro h43 a H
   try have p43:=dF h43
   refine kH H (YF Qz h43 O (YO aD 0 h43 O (YC h43 O (YM h43 O (Sp 47 O ?_ ?_))))) <;> clear H
   ·intro h47 a H
    try have p47:=dT h47
    refine kH H (YF zR h47 O (YO aD 0 h47 O (YC h47 O (YM h47 O (Sp 51 O ?_ ?_))))) <;> clear H
    ·intro jO a H
     try have p51:=dT jO
     refine kH H (bg jO O (aR jO O (PT h47 jO O (PT h43 h47 O (Pf h43 O (Kz fI (Ct O O (SQ fun _ jw=>?_))))))));clear H fI;intro a H;have hbad:l.any (yD l)=true:=Jo hk4 (by unfold yD;simp_all);refine mX ?_;refine bM jm 1 (vs:=[_]) H wn O ?_;clear H;intro w H;refine aF ?_;refine jw _ _ ?_;clear jw;exact Mw
    intro jO a H
    try have p51:=dF jO
    refine kH H (YO sM 2 jO O (YF Qz jO O (YO aD 0 jO O ?_)));clear H;intro a H;refine s_call Wm H (wg H O O jO) O (Yr _ _ H.ro l 1 l[k].next _ BA) O ?_;clear H;rintro v55 g2 a w rfl Aa H;replace mM:=fun b o (h:g b=some o)=>Aa b o (mM b o h);replace BA:=BA.mono Aa;refine kH H (YN jO O (PF h47 jO O (PT h43 h47 O (Pf h43 O (Kz fI (Cd O ?_ ?_)))))) <;> clear H fI
    ·intro iC a H
     try have p59:=dT iC
     refine bP (fun _ kK=>?_);have hbad:l.any (yD l)=true:=Jo hk4 (by unfold yD;simp_all);refine mX ?_;refine bM jm 1 (vs:=[_]) H wn O ?_;clear H;intro w H;refine aF ?_;refine kK _ _ ?_;clear kK;exact Mw
    exact acO
   intro h47 a H
   try have p47:=dF h47
   refine kH H (aR h47 O (aR h47 O (Ku O (Ku O (Ku O (Ku O (Ku O (Ks h47 O (PF h43 h47 O (Pf h43 O (Kz fI (Cf O O (Kc eX (SC (Rd O (Rm O ?_))))))))))))))));clear H fI eX;intro a H;refine aF ?_;refine dS ((k+1,g2)) (by exact (H.dV (Pl:=[_,_,_]) (dL:=[_,_]) [1,2] Q1 O).sub ⟨O,O,O,O,O,aB⟩) ?_
   (try dsimp only);exact UR
  intro gP a H
  try have p34:=dF gP
  refine kH H (bg gP O (aR gP O (aR gP O (Pf gP O (Rm O ?_)))));clear H;intro a H;refine CX Qz H (wg H O O O) O O ?_;clear H;intro a H;refine tQ aD H (wg H O O O) O (H.hp.tO 0 O O) O ?_;clear H;intro a H;refine IE H (wg H O O O) O O O O ?_;clear H;intro a H;refine FI H (wg H O O O) O O ?_;clear H;intro a H;refine SY H 47 O ?_ ?_
  ·intro h47
   try have p47:=dT h47
   refine kH H (YF zR h47 O (YO aD 0 h47 O (YC h47 O (YM h47 O (Sp 51 O ?_ ?_))))) <;> clear H
   ·intro jO a H
    try have p51:=dT jO
    refine kH H (bg jO O (aR jO O (PT h47 jO O ?_)));clear H;intro a H;refine Le H (wg H O O O) O h47 O O ?_;clear H;intro a H;refine kH H (Pf O O (Kz fI (Ct O O (SQ fun _ kD=>?_))));clear H fI;intro a H;have hbad:l.any (yD l)=true:=Jo hk4 (by unfold yD;simp_all);refine mX ?_;refine bM jm 1 (vs:=[_]) H wn O ?_;clear H;intro w H;refine aF ?_;refine kD _ _ ?_;clear kD;exact Mw
   intro jO a H
   try have p51:=dF jO
   refine kH H (YO sM 2 jO O (YF Qz jO O (YO aD 0 jO O ?_)));clear H;intro a H;refine s_call Wm H (wg H O O jO) O (Yr _ _ H.ro l 1 l[k].next _ BA) O ?_;clear H;rintro v55 g2 a w rfl Aa H;replace mM:=fun b o (h:g b=some o)=>Aa b o (mM b o h);replace BA:=BA.mono Aa;refine kH H (YN jO O (PF h47 jO O ?_));clear H;intro a H;refine Le H (wg H O O O) O h47 O O ?_;clear H;intro a H;refine kH H (Pf O O (Kz fI (Cd O ?_ ?_))) <;> clear H fI
   ·intro iC a H
    try have p59:=dT iC
    refine bP (fun _ jF=>?_);have hbad:l.any (yD l)=true:=Jo hk4 (by unfold yD;simp_all);refine mX ?_;refine bM jm 1 (vs:=[_]) H wn O ?_;clear H;intro w H;refine aF ?_;refine jF _ _ ?_;clear jF;exact Mw
   exact acO
  intro h47
  try have p47:=dF h47
  refine kH H (aR h47 O (aR h47 O (Ku O (Ku O (Ku O (Ku O (Ku O (Ks h47 O ?_))))))));clear H;intro a H;refine Ov H (wg H O O O) O h47 O O ?_;clear H;intro a H;refine kH H (Pf O O (Kz fI (Cf O O (Kc eX (SC (Rd O (Rm O ?_)))))));clear H fI eX;intro a H;refine aF ?_;refine dS ((k+1,g2)) (by exact (H.dV (Pl:=[_,_,_]) (dL:=[_,_]) [1,2] Q1 O).sub ⟨O,O,O,O,O,aB⟩) ?_
  (try dsimp only);exact UR
 intro eY a H
 try have p28:=dF eY
 have hbad:=aaT V hno;refine dX ?_;refine bZ _ _ ?_;clear bZ;refine kP H (SQ fun _ kR=>SR fun _ lN=>Ro sM 1 O (Rl mq O (Rm O (Kz lN (SB ?_)))));clear H lN;intro a H;skip;refine aoc (ι:=Nat × GH × List Nat) (Tc:=[(1,_),(2,_),(61,_),(62,_)]) (Lc:=[(_,_),(_,_)]) (fun gh=>YK gh.2.2) (fun gh=>[(63,vi gh.1)]) (fun gh=>[]++(Iw gh.2.2++[])) (fun gh=>gh.2.1) (fun gh=>gh.1<=l.length∧(l.take gh.1).any (VY l)=false∧(∀ b o,g2 b=some o->gh.2.1 b=some o)) (fun gh=>l.length - gh.1) ((0,g2,[])) (by exact H.sub ⟨O,O,O,O,O,aB⟩) ?_ ?_
 ·exact EK
 clear H;rintro ⟨j,g3,ds⟩ a w hI H;dsimp only at hI H;obtain ⟨hj,hnc,yX⟩:=hI;have Yi:=BA.mono yX;dsimp only [lca,bD] at H;refine kP H (SR fun _ jJ=>Rc O (Kz jJ (SQ fun _ qV=>Cd O ?_ ?_))) <;> clear H jJ
 ·intro h64 a H
  try have p64:=dT h64
  have hj2:j < l.length:=by omega
  obtain ⟨b,o,pA,pc,rfl,hrow,hp,hrep⟩:=Et Yi hj2;refine kP H (Kc qV (SQ fun _ rT=>SB (SR fun _ sQ=>Ri mq kr O O ?_)));clear H qV;intro a H;refine bq kr (cs:=[_,_,_,_,_,_]) H wn O O (fun j v hj=>H.hp.aI (hrow j v hj)) O ?_;clear H;intro a H;refine dR kr H wn O ?_;clear H;intro b8 a w Ea H;refine bM kr 0 (vs:=[_,_,_,_,_,_]) H wn O ?_;clear H;intro w H;refine sQ _ _ ?_;clear sQ;refine dH (fun _ ug=>?_);refine dR aD H wn O ?_;clear H;intro b9 a w uG H;refine bM aD 0 (vs:=[_]) H wn O ?_;clear H;intro w H;refine ug _ _ ?_;clear ug;refine kP H (SR fun _ sS=>Ro sM 3 O (aU xG aD 1 O O ?_));clear H;intro a H;refine gD aqs (Li:=[_,_,_,_]++Iw ds) (L:=[]) (St.un (A:=[_,_,_,_]) H) wn O (aox (Hp.owns (Li:=[_,_,_,_]++Iw ds) (St.un (A:=[_,_,_,_]) H).hp) l l[j].id _ Yi) O ?_;clear H;rintro v70 g4 L70 a w ⟨bl,bi,rfl,rfl,hbl⟩ ahg H;have H:=(St.KR (A:=[_,_,_,_,_]) (B:=Iw ds) (H.perm um));dsimp only [lca,bD] at H;have hit:=aow (l:=l) (id:=l[j].id) (bi:=bi) hbl (Yi.mono ahg) (ajA hok);refine sS _ _ ?_;clear sS;refine AU ?_;skip;refine aof (B:=[(_,_)]) (ι:=Unit) (κ:=Int) (Lc:=[(_,_),(_,_)]) (fun (k:Nat) (gh:Unit)=>[(b9,.cells #[vi k] 3 (0,0)),(b2,.cells #[vi 0] 41 (0,0))]) (fun (k:Nat) (gh:Unit)=>(Iw ds++[])) (fun (k:Nat) (gh:Unit) (g:GH)=>k<=l.length) (fun (gx:Int)=>Code.ret) (fun (gx:Int)=>[(b9,.cells #[vi gx] 3 (0,0)),(b2,.cells #[vi 16] 41 (0,0))]) (fun (gx:Int)=>(Iw ds++[])) (fun (gx:Int) (g:GH)=>VY l l[j]=true) (()) (by exact H.dV (Pl:=[_,_,_,_,_]) (dL:=[_,_,_,_,_]) [0,2,4,1,3] Q1 O) O aeZ (hit) (fun _ _ h=>h) (fun e i g h=>absurd (of_decide_eq_false e) (by rw [bR] at h;omega)) rfl (fun k args g h=>by obtain ⟨_,_,rfl,_⟩:=akY h;rfl) (fun _ _ _ _ _ h=>h) (fun _ _ _ _ h=>h) (jL _) ?_ ?_ ?_
  ·clear H;intro l21 Em AQ bk k args gh O5 w21 F21 B21 a agY zY hI auT avS awL H;obtain ⟨agY,aDd,rfl,aDW⟩:=akY agY;dsimp only [zM,List.cons_append,List.nil_append] at H;refine gT ?_;refine auT _ _ _ _ _ _ (by exact H) ?_;clear H;intro w H;refine kP H (SB (SR fun _ wo=>Ro aD 3 O (Rd O ?_)));clear H;intro a H;refine bM aD 3 (vs:=[_]) H wn O ?_;clear H;intro w H;refine wo _ _ ?_;clear wo;refine kP H (SR fun _ yw=>Ro aD 3 O (Ro sM 2 O (Rl mq O (Rc O (Kz yw (Cd O ?_ ?_)))))) <;> clear H yw
   ·intro Hq a H
    try have KV:=dT Hq
    refine dH (fun _ uV=>?_);refine bM jm 4 (vs:=[_]) H wn O ?_;clear H;intro w H;refine uV _ _ ?_;clear uV;refine gu ?_;refine (awL ((k:Int)+1) _ _ _ _ _ (by exact H) ?_).1 O;exact lT V
   intro Hq a H
   try have KV:=dF Hq
   refine gT ?_;refine avS (()) _ _ _ _ _ (by exact H) ?_
   omega
  ·clear H;intro aaj gh aam a w zY hI H;dsimp only [lca,bD] at H;refine rT _ _ ?_;clear rT;refine kP H (SC (Rd O (Rm O ?_)));clear H;intro a H;refine aF ?_;refine axZ ((j+1,aam,aaj :: ds)) (by exact (H.dV (Pl:=[_,_,_,_,_]) (dL:=[_,_,_]) [4,2,0] Q1 O).sub ⟨O,O,O,O,O,aB⟩) ?_ ?_
   ·(try dsimp only);exact ⟨V,aaU hj2 hnc (oP (by rw [bR] at hI;omega)),fun b o h=>zY b o (ahg b o (yX b o h))⟩
   first|omega|(dsimp only;omega)
  clear H;intro aaj x aam a w zY hI H;dsimp only [lca,bD] at H;refine gu ?_;refine (KM H 0 O ?_).1;clear H;intro a w H;dsimp only [List.eraseIdx_cons_succ,List.eraseIdx_cons_zero] at H;refine (Yy (Lh:=[_,_,_,_]) _ H ?_).1;clear H;intro a w H;dsimp only [lca,bD] at H;refine (leave1 H results98 (.cons (CQ jm H O (H.hp.tO 3 O O)) .nil) ?_).1
  exact PX
 intro h64 a H
 try have p64:=dF h64
 refine dX ?_;refine kR _ _ ?_;clear kR;refine dH (fun _ Az=>?_);refine bM jm 0 (vs:=[_]) H wn O ?_;clear H;intro w H;refine Az _ _ ?_;clear Az;refine gu ?_;refine (Yy (Lh:=[_,_]) _ H ?_).1;clear H;intro a w H;dsimp only [lca,bD] at H;refine (leave1 H results98 (.cons (CQ jm H O (H.hp.tO 0 O O)) .nil) ?_).1
 exact PX
theorem zD:Ty prog 34 1 24 [.slice none 0 0] false:=⟨Z,Z⟩
theorem wX:prog.underlying 34=some (.slice 193):=by kernel_rfl
theorem BR:Ty prog 193 2 32 [.string ⟨#[]⟩,.string ⟨#[]⟩] true:=⟨Z,Z⟩
theorem JO:dz prog 193 0 0:=⟨Z⟩
theorem afn:aW 80:=aY func80 O
theorem afE:dz prog 193 1 1:=⟨Z⟩
theorem JU:dz prog 36 0 0:=⟨Z⟩
theorem asb:aW 98:=aY func98 O
theorem JV:dz prog 36 1 1:=⟨Z⟩
theorem apW:aW 125:=aY func125 O
theorem WB:dz prog 36 2 2:=⟨Z⟩
theorem apX:aW 126:=aY func126 O
theorem WC:dz prog 36 3 3:=⟨Z⟩
theorem apY:aW 127:=aY func127 O
theorem aqL:aW 205:=aY func205 O
theorem alA {G:GH} {l:List mF} {A:Option Addr} {n c k:Nat} (hv:av G (.sl 2 (l.map mF.dat)) (.slice A n c)) (hk:k < l.length):∃ b o,A=some ⟨b,o,none⟩∧(∀ j u,l[k].cells[j]?=some u->aI G b (o+k*2+j)=some u):=by
 obtain ⟨A',c',he,_,_,hg⟩:=hv.slice
 injection he with e1 e2 e3
 subst e1;obtain ⟨b,o,cs,h1,h2,h3,h4⟩:=hg k l[k].dat (by simp [hk]);have:=aCA h4;subst this;exact Jq
def alz (k:Nat) (x:mF) (pn:ByteArray):Int:=eu [dN (!wC x.name) 13,dN (decide (0 < (k:Int)) && (x.name.toList == pn.toList)) 7,dN (decide (0 < (k:Int)) && Op.bytesLess x.name.toList pn.toList) 6,Ev x.value]
def LJ (l:List mF) (k:Nat):Int:=match l[k]? with|some x=>alz k x ((l[k - 1]?.map mF.name).getD ⟨#[]⟩)|none=>0
theorem PY {p:Prop} (h:p:=by
 exact fin H iJ (iq (by first|(rw [lT c0,Jk];done)|(rw [oP c0,Bool.false_and];done)))):p:=h
theorem Qc {p:Prop} (h:p:=by
 clear H;intro a H;exact UL):p:=h
theorem ada {p:Prop} (h:p:=by
 refine gX 48 52 O O fun _ a w G1 hG HT H fin=>?_;refine s_call aeV H wn O (alc _ _ H.ro x.value hte.2) O ?_;clear H;rintro v53 G53 a w rfl Xn H;exact fin H Xn (rfl)):p:=h
theorem adb {p:Prop} (h:p:=by
 refine gX 4 8 O O fun _ a w G1 hG HT H fin=>?_;refine s_call afn H wn O (aeh _ _ H.ro x.name hte.1) O ?_;clear H;rintro v9 G9 a w ⟨rfl,-⟩ auo H;exact fin H auo (rfl)):p:=h
theorem ade {p:Prop} (h:p:=by
 refine gX 24 28 O O fun _ a w G1 hG HT H fin=>?_;refine s_call lX H wn O (mD _ _ H.ro _ 7) O ?_;clear H;rintro v29 I9 a w ⟨rfl,-⟩ atX H;exact fin H atX (rfl)):p:=h
theorem adf {p:Prop} (h:p:=by
 refine gX 42 46 O O fun _ a w G1 hG HT H fin=>?_;refine s_call lX H wn O (mD _ _ H.ro _ 6) O ?_;clear H;rintro v47 G47 a w ⟨rfl,-⟩ aud H;exact fin H aud (rfl)):p:=h
theorem adh {p:Prop} (h:p:=by
 refine gX 6 10 O O fun _ a w G1 hG HT H fin=>?_;refine s_call lX H wn O (mD _ _ H.ro _ 13) O ?_;clear H;rintro v11 Dl a w ⟨rfl,-⟩ lH H;exact aby):p:=h
set_option maxHeartbeats 2000000 in
theorem aCz {G:GH} {bl:Nat} {l:List mF} {A:Option Addr} {n c:Nat} (hb:aI G bl 0=some (.slice A n c)) (hv:av G (.sl 2 (l.map mF.dat)) (.slice A n c)) (hl:l.length<=4294967296) (ht:∀ x∈l,x.name.size < 4611686018427387904∧x.value.size < 4611686018427387904):uU (.func (.func 205) #[] #[(aJ bl 0)]) G l.length (LJ l):=by
 intro k hk G1 w0 hm hG;refine kG (caps:=[(aJ bl 0)]) aqL ?_;replace hb:=aK hm hb;replace hv:=hv.mono hm
 obtain rfl:n=l.length:=by have:=hv.len;simpa using this
 obtain ⟨b,o,rfl,hrow⟩:=alA hv hk
 have hk1:k - 1 < l.length:=by omega
 obtain ⟨b',o',he',hrow'⟩:=alA hv hk1
 injection he' with he'
 injection he' with e1 e2
 subst e1;subst e2;have hte:=ht _ (jl hk)
 have he:LJ l k=alz k l[k] l[k - 1].name:=by unfold LJ;rw [fF hk,fF hk1];rfl
 obtain ⟨x,hx⟩:∃ x,x=l[k]:=⟨_,O⟩;obtain ⟨y,hy⟩:∃ y,y=l[k - 1]:=⟨_,O⟩;rw [<- hx] at hrow hte he;rw [<- hy] at hrow' he;refine eN [(0,_),(1,_)] func205 O ntmps205 O O hG ?_;intro a H;refine kP H (SR fun _ K1=>au K1 O (SQ fun _ K2=>?_));clear H K1;intro a H;have H:=H.sub (T':=[(0,_),(1,_)]) ⟨O,O,aB⟩
 by_cases c0:0 < (k:Int)
 ·skip;refine dI hmx [[],[],[0,1],[0,1,2],ra 0 4,ra 0 5,ra 0 6,ra 0 7,[],[8],ra 0 10,ra 0 11,ra 0 11,ra 0 13,ra 0 14,ra 0 15,ra 0 11,ra 0 11,(ra 0 11++[17]),(ra 0 11++[17,18]),(ra 0 11++ra 16 4),(ra 0 11++ra 16 5),(ra 0 11++ra 16 6),ra 0 23,ra 0 24,ra 0 25,[],[26],ra 0 28,ra 0 29,ra 0 29,ra 0 31,ra 0 32,ra 0 33,ra 0 29,ra 0 29,(ra 0 29++[35]),(ra 0 29++[35,36]),(ra 0 29++ra 34 4),(ra 0 29++ra 34 5),(ra 0 29++ra 34 6),ra 0 41,ra 0 42,ra 0 43,[],[],[44,45],[44,45,46],ra 44 4,ra 0 49,ra 0 50,ra 0 51,ra 0 52] [50,51,52] Z [_,_,_,_,_,.bool (wC x.name),_,vi (dN (!wC x.name) 13),_,_,_,_,_,_,_,_,_,_,vi ((max k 1:Nat):Int),vi ((k - 1:Nat):Int),_,_,_,.bool (x.name.toList == y.name.toList),.bool (decide (0 < (k:Int)) && (x.name.toList == y.name.toList)),vi (dN (decide (0 < (k:Int)) && (x.name.toList == y.name.toList)) 7),_,_,_,_,_,_,_,_,_,_,vi ((max k 1:Nat):Int),vi ((k - 1:Nat):Int),_,_,_,.bool (Op.bytesLess x.name.toList y.name.toList),.bool (decide (0 < (k:Int)) && Op.bytesLess x.name.toList y.name.toList),vi (dN (decide (0 < (k:Int)) && Op.bytesLess x.name.toList y.name.toList) 6),_,_,_,_,_,vi (Ev x.value)] H (aC (X0 O fun hG=>Rg zD O (aK hG hb)) (Z0 O (Rm O)) (Z2 0 4 1 5 O (Ri wX BR O O)) (Z1 2 6 O (Rf JO O)) (aC (X1 3 7 O fun hG=>Rg gV O (aK hG (hrow 0 _ O))) ?_ (Z1 5 9 O (Rn O)) ?_ (aC (Z0 O (Rm O)) (Z1 8 12 O (Rc O)) (Z1 9 13 O (Rm O)) (X1 10 14 O fun hG=>YR zD (aG c0) O (aK hG hb)) (aC (Z1 10 14 O (YM (aG c0) O)) (Z3 11 15 12 16 10 14 O (YI wX BR (aG c0) O O)) (Z2 13 17 10 14 O (YF JO (aG c0) O)) (X2 14 18 10 14 O fun hG=>YR gV (aG c0) O (aK hG (hrow 0 _ O))) (aC (X1 10 14 O fun hG=>YR zD (aG c0) O (aK hG hb)) (Z1 10 14 O (YM (aG c0) O)) ?_ ?_ (aC (Z3 16 20 19 23 10 14 O (YI wX BR (aG c0) O O)) (Z2 20 24 10 14 O (YF JO (aG c0) O)) (X2 21 25 10 14 O fun hG=>YR gV (aG c0) O (aK hG (hrow' 0 _ O))) ?_ (aC ?_ ?_ (Z0 O (Rm O)) (Z1 26 30 O (Rc O)) (aC (Z1 27 31 O (Rm O)) (X1 28 32 O fun hG=>YR zD (aG c0) O (aK hG hb)) (Z1 28 32 O (YM (aG c0) O)) (Z3 29 33 30 34 28 32 O (YI wX BR (aG c0) O O)) (aC (Z2 31 35 28 32 O (YF JO (aG c0) O)) (X2 32 36 28 32 O fun hG=>YR gV (aG c0) O (aK hG (hrow 0 _ O))) (X1 28 32 O fun hG=>YR zD (aG c0) O (aK hG hb)) (Z1 28 32 O (YM (aG c0) O)) (aC ?_ ?_ (Z3 34 38 37 41 28 32 O (YI wX BR (aG c0) O O)) (Z2 38 42 28 32 O (YF JO (aG c0) O)) (aC (X2 39 43 28 32 O fun hG=>YR gV (aG c0) O (aK hG (hrow' 0 _ O))) ?_ ?_ ?_ (aC (X0 O fun hG=>Rg zD O (aK hG hb)) (Z0 O (Rm O)) (Z2 44 48 45 49 O (Ri wX BR O O)) (Z1 46 50 O (Rf afE O)) (aC (X1 47 51 O fun hG=>Rg gV O (aK hG (hrow 1 _ O))) ?_ (bQ O) (bQ O) (bK (bQ O) dG)))))))))))))) ?_
  ·exact adb
  ·exact adh
  ·refine eU 17 21 10 14 O O fun _ a w G1 hG HT H fin=>?_;refine SX H (wg H O O (aG c0)) O O O ?_;exact Qc
  ·refine eU 18 22 10 14 O O fun _ a w G1 hG HT H fin=>?_;exact zP
  ·refine uh 15 19 22 26 10 14 O O fun _ a w G1 hG HT H fin=>?_;refine CW H (wg H O O (aG c0)) O O O ?_;exact iX
  ·refine eU 10 14 23 27 O O fun _ a w G1 hG HT H fin=>?_;refine kH H (Pt (aG c0) O ?_);clear H;intro a H;exact PY
  ·exact ade
  ·refine eU 35 39 28 32 O O fun _ a w G1 hG HT H fin=>?_;refine SX H (wg H O O (aG c0)) O O O ?_;exact Qc
  ·refine eU 36 40 28 32 O O fun _ a w G1 hG HT H fin=>?_;exact zP
  ·refine uh 33 37 40 44 28 32 O O fun _ a w G1 hG HT H fin=>?_;refine aAZ H (wg H O O (aG c0)) O O O ?_;exact iX
  ·refine eU 28 32 41 45 O O fun _ a w G1 hG HT H fin=>?_;refine kH H (Pt (aG c0) O ?_);clear H;intro a H;exact PY
  ·exact adf
  ·exact ada
  clear H;intro a w G jA H hv;have H:=H.aQ (hv 7 11 O O) O;have H:=H.aQ (hv 25 29 O O) O;have H:=H.aQ (hv 43 47 O O) O;have H:=H.aQ (hv 49 53 O O) O;clear hv;refine iG qO jm [_,_,_,_] [_,_,_,_] H wn O O O O O (by intro i q h;match i,h with|0,h=>exact h|1,h=>exact h|2,h=>exact h|3,h=>exact h|n+4,h=>simp at h) O O ?_;clear H;intro b54 a w auP H;obtain ⟨G54,avH,Xt,H⟩:=H.fJ;refine s_call sj H wn O (sw _ _ H.ro _ _ (Ij [dN (!wC x.name) 13,dN (decide (0 < (k:Int)) && (x.name.toList == y.name.toList)) 7,dN (decide (0 < (k:Int)) && Op.bytesLess x.name.toList y.name.toList) 6,Ev x.value] Xt (show 4<=maxLen by decide))) rfl ?_;clear H;rintro v55 _ a w ⟨rfl,rfl⟩ - H;refine kH H (Ra O ?_);clear H;intro a H;refine aF ⟨O,?_⟩;refine K2 _ _ ?_;clear K2;refine lr H results205 O ?_;exact H.rt (by rw [he];rfl)
 skip;refine dI hmx [[],[],[0,1],[0,1,2],ra 0 4,ra 0 5,ra 0 6,ra 0 7,[],[8],ra 0 10,ra 0 11,ra 0 11,ra 0 13,ra 0 14,ra 0 15,ra 0 11,ra 0 11,(ra 0 11++[17]),(ra 0 11++[17,18]),(ra 0 11++ra 16 4),(ra 0 11++ra 16 5),(ra 0 11++ra 16 6),ra 0 23,ra 0 24,ra 0 25,[],[26],ra 0 28,ra 0 29,ra 0 29,ra 0 31,ra 0 32,ra 0 33,ra 0 29,ra 0 29,(ra 0 29++[35]),(ra 0 29++[35,36]),(ra 0 29++ra 34 4),(ra 0 29++ra 34 5),(ra 0 29++ra 34 6),ra 0 41,ra 0 42,ra 0 43,[],[],[44,45],[44,45,46],ra 44 4,ra 0 49,ra 0 50,ra 0 51,ra 0 52] [50,51,52] Z [_,_,_,_,_,.bool (wC x.name),_,vi (dN (!wC x.name) 13),_,_,_,undef,undef,undef,undef,undef,undef,undef,undef,undef,undef,undef,undef,undef,.bool (decide (0 < (k:Int)) && (x.name.toList == y.name.toList)),vi (dN (decide (0 < (k:Int)) && (x.name.toList == y.name.toList)) 7),_,_,_,undef,undef,undef,undef,undef,undef,undef,undef,undef,undef,undef,undef,undef,.bool (decide (0 < (k:Int)) && Op.bytesLess x.name.toList y.name.toList),vi (dN (decide (0 < (k:Int)) && Op.bytesLess x.name.toList y.name.toList) 6),_,_,_,_,_,vi (Ev x.value)] H (aC (X0 O fun hG=>Rg zD O (aK hG hb)) (Z0 O (Rm O)) (Z2 0 4 1 5 O (Ri wX BR O O)) (Z1 2 6 O (Rf JO O)) (aC (X1 3 7 O fun hG=>Rg gV O (aK hG (hrow 0 _ O))) ?_ (Z1 5 9 O (Rn O)) ?_ (aC (Z0 O (Rm O)) (Z1 8 12 O (Rc O)) (Z1 9 13 O (Rm O)) (aO 10 (aS c0) O O) (aC (aO 10 (aS c0) O O) (aO 10 (aS c0) O O) (aO 10 (aS c0) O O) (aO 10 (aS c0) O O) (aC (aO 10 (aS c0) O O) (aO 10 (aS c0) O O) (aO 10 (aS c0) O O) (aO 10 (aS c0) O O) (aC (aO 10 (aS c0) O O) (aO 10 (aS c0) O O) (aO 10 (aS c0) O O) (aO 10 (aS c0) O O) (aC ?_ ?_ (Z0 O (Rm O)) (Z1 26 30 O (Rc O)) (aC (Z1 27 31 O (Rm O)) (aO 28 (aS c0) O O) (aO 28 (aS c0) O O) (aO 28 (aS c0) O O) (aC (aO 28 (aS c0) O O) (aO 28 (aS c0) O O) (aO 28 (aS c0) O O) (aO 28 (aS c0) O O) (aC (aO 28 (aS c0) O O) (aO 28 (aS c0) O O) (aO 28 (aS c0) O O) (aO 28 (aS c0) O O) (aC (aO 28 (aS c0) O O) (aO 28 (aS c0) O O) ?_ ?_ (aC (X0 O fun hG=>Rg zD O (aK hG hb)) (Z0 O (Rm O)) (Z2 44 48 45 49 O (Ri wX BR O O)) (Z1 46 50 O (Rf afE O)) (aC (X1 47 51 O fun hG=>Rg gV O (aK hG (hrow 1 _ O))) ?_ (bQ O) (bQ O) (bK (bQ O) dG)))))))))))))) ?_
 ·exact adb
 ·exact adh
 ·refine eU 10 14 23 27 O O fun _ a w G1 hG HT H fin=>?_;refine kH H (Pf (aS c0) O ?_);clear H;intro a H;exact PY
 ·exact ade
 ·refine eU 28 32 41 45 O O fun _ a w G1 hG HT H fin=>?_;refine kH H (Pf (aS c0) O ?_);clear H;intro a H;exact PY
 ·exact adf
 ·exact ada
 clear H;intro a w G jA H hv;have H:=H.aQ (hv 7 11 O O) O;have H:=H.aQ (hv 25 29 O O) O;have H:=H.aQ (hv 43 47 O O) O;have H:=H.aQ (hv 49 53 O O) O;clear hv;refine iG qO jm [_,_,_,_] [_,_,_,_] H wn O O O O O (by intro i q h;match i,h with|0,h=>exact h|1,h=>exact h|2,h=>exact h|3,h=>exact h|n+4,h=>simp at h) O O ?_;clear H;intro b54 a w auP H;obtain ⟨G54,avH,Xt,H⟩:=H.fJ;refine s_call sj H wn O (sw _ _ H.ro _ _ (Ij [dN (!wC x.name) 13,dN (decide (0 < (k:Int)) && (x.name.toList == y.name.toList)) 7,dN (decide (0 < (k:Int)) && Op.bytesLess x.name.toList y.name.toList) 6,Ev x.value] Xt (show 4<=maxLen by decide))) rfl ?_;clear H;rintro v55 _ a w ⟨rfl,rfl⟩ - H;refine kH H (Ra O ?_);clear H;intro a H;refine aF ⟨O,?_⟩;refine K2 _ _ ?_;clear K2;refine lr H results205 O ?_;exact H.rt (by rw [he];rfl)
def Qk (l:List mF):Int:=eu [dN (decide (128 < (l.length:Int))) 9,kF (LJ l) (min l.length 128)]
theorem aoD (G:GH) (w0:World) (hG:Hold G w0) (l:List mF) (v:ah) (hv:av G (.sl 2 (l.map mF.dat)) v) (hl:l.length<=4294967296) (ht:∀ x∈l,x.name.size < 4611686018427387904∧x.value.size < 4611686018427387904) :
  Calls prog 127 #[v] w0 (bG w0 G fun u G'=>u=vi (Qk l)):=by
 obtain ⟨A,c,rfl,hc1,hc2,-⟩:=hv.slice;rw [bR] at *;refine eN [(0,_)] func127 O ntmps127 O O hG ?_;intro a H;refine dH (fun _ K1=>?_);refine eB (cs:=[_]) H wn O O O ?_;clear H;intro b1 a w hb1 H;refine kH H (au K1 O (SQ fun _ K2=>?_));clear H K1;intro a H;have H:=H.sub (T':=[(1,_)]) ⟨O,aB⟩;obtain ⟨Ga,hma,hb1',H⟩:=H.fJ
 have hbl:aI Ga b1 0=some (.slice A l.length c):=by unfold aI;rw [hb1'];rfl
 have hcb:=aCz hbl (hv.mono hma) hl ht;refine dI hmx [[],[0],[0,1],[0,1,2],[],[4],[4,5],[],ra 0 8,ra 0 9,ra 0 10,ra 0 11] [9,10,11] Z [_,_,_,vi (dN (decide (128 < (l.length:Int))) 9),_,_,vi ((min l.length 128:Nat):Int),.func (.func 205) #[] #[(aJ b1 0)],vi (kF (LJ l) (min l.length 128))] H (aC (X0 O fun hG=>Rg zD O (aK hG hbl)) (Z1 0 3 O (Rl wX O)) (Z1 1 4 O (Rc O)) ?_ (aC (X0 O fun hG=>Rg zD O (aK hG hbl)) (Z1 4 7 O (Rl wX O)) ?_ ?_ (aC ?_ (bQ O) (bQ O) (bQ O) dG))) ?_
 ·exact Qb
 ·exact Qe
 ·exact GI
 ·refine eU 6 9 7 10 O O fun _ a w G1 hG HT H fin=>?_;refine s_call JK H wn O (Ml _ _ H.ro (min l.length 128) (LJ l) _ V ((hcb.mono hG).le (Nat.min_le_left _ _))) O ?_;exact ME
 clear H;intro a w G jA H hv;have H:=H.aQ (hv 3 6 O O) O;have H:=H.aQ (hv 8 11 O O) O;clear hv;refine iG qO jm [_,_] [_,_] H wn O O O O O (by intro i q h;match i,h with|0,h=>exact h|1,h=>exact h|n+2,h=>simp at h) O O ?_;clear H;intro b12 a w D9 H;obtain ⟨Dm,Bt,HV,H⟩:=H.fJ;refine s_call sj H wn O (sw _ _ H.ro _ _ (Al HV)) O ?_;clear H;rintro v13 _ a w ⟨rfl,rfl⟩ - H;refine kH H (Ra O ?_);clear H;intro a H;refine aF ⟨O,?_⟩;refine K2 _ _ ?_;clear K2;refine lr H results127 O ?_;exact EJ
structure Ch where
 styles:List cB
 lists:List fK
 comments:List jc
 vars:List mF
structure AB (G:GH) (s:Ch) (a b c d:ah):Prop where
 st:av G (.sl 6 (s.styles.map cB.dat)) a
 li:av G (.sl 2 (s.lists.map fK.dat)) b
 cm:av G (.sl 6 (s.comments.map jc.dat)) c
 va:av G (.sl 2 (s.vars.map mF.dat)) d
structure Uu (s:Ch):Prop where
 sn:∀ x∈s.styles,x.name.size<=4611686018427387904
 ln:s.lists.length<=4294967296
 lt:∀ x∈s.lists,∀ y∈x.levels,y.BO.size < 4611686018427387904
 cn:s.comments.length<=4294967296
 ct:∀ x∈s.comments,x.author.size < 4611686018427387904∧x.text.size < 4611686018427387904
 vn:s.vars.length<=4294967296
 vt:∀ x∈s.vars,x.name.size < 4611686018427387904∧x.value.size < 4611686018427387904
 pl:∀ x∈s.styles,x.props.length<=4294967296
 ll:∀ x∈s.lists,x.levels.length<=4294967296
def MK (s:Ch):Int:=eu [AX s.styles,MJ s.lists,Qj s.comments,Qk s.vars]
theorem aoC (G:GH) (w0:World) (hG:Hold G w0) (s:Ch) (a b c d:ah) (hR:AB G s a b c d) (hz:Uu s) :
  Calls prog 52 #[.agg #[a,b,c,d]] w0 (bG w0 G fun u G'=>u=vi (MK s)):=by
 obtain ⟨sA,sn,sc,rfl⟩:=hR.st.form;obtain ⟨lA,ln,lc,rfl⟩:=hR.li.form;obtain ⟨cA,cn,cc,rfl⟩:=hR.cm.form;obtain ⟨vA,vn,vc,rfl⟩:=hR.va.form;refine eN [(0,_)] func52 O ntmps52 O O hG ?_;intro a H;refine dH (fun _ K1=>?_);refine eB (cs:=[_,_,_,_]) H wn O O O ?_;clear H;intro b1 a w hb1 H;refine kH H (au K1 O (SQ fun _ K2=>?_));clear H K1;intro a H;have H:=H.sub (T':=[(1,_)]) ⟨O,aB⟩;obtain ⟨Ga,hma,hb1',H⟩:=H.fJ
 have hc0:aI Ga b1 0=some (.slice sA sn sc):=by unfold aI;rw [hb1'];rfl
 have hc1:aI Ga b1 1=some (.slice lA ln lc):=by unfold aI;rw [hb1'];rfl
 have hc2:aI Ga b1 2=some (.slice cA cn cc):=by unfold aI;rw [hb1'];rfl
 have hc3:aI Ga b1 3=some (.slice vA vn vc):=by unfold aI;rw [hb1'];rfl
 refine dI hmx [[],[0],[0,1],[],[3],ra 0 5,[],[6],ra 0 8,[],[9],ra 0 11,ra 0 12,ra 0 13,ra 0 14] [12,13,14] Z [_,_,vi (AX s.styles),_,_,vi (MJ s.lists),_,_,vi (Qj s.comments),_,_,vi (Qk s.vars)] H (aC (Z0 O (Rf JU O)) (X1 0 3 O fun hG=>Rg sM O (aK hG hc0)) ?_ (Z0 O (Rf JV O)) (aC (X1 3 6 O fun hG=>Rg Dc O (aK hG hc1)) ?_ (Z0 O (Rf WB O)) (X1 6 9 O fun hG=>Rg FM O (aK hG hc2)) (aC ?_ (Z0 O (Rf WC O)) (X1 9 12 O fun hG=>Rg zD O (aK hG hc3)) ?_ (bK (bQ O) (bK (bQ O) (bK (bQ O) dG)))))) ?_
 ·refine gX 1 4 O O fun _ a w G1 hG HT H fin=>?_;refine s_call asb H wn O (aoE _ _ H.ro s.styles _ ((hR.st.mono hma).mono hG) hz.sn) O ?_;clear H;rintro v5 G5 a w rfl Bn H;exact fin H Bn (rfl)
 ·refine gX 4 7 O O fun _ a w G1 hG HT H fin=>?_;refine s_call apW H wn O (aoA _ _ H.ro s.lists _ ((hR.li.mono hma).mono hG) hz.ln hz.lt) O ?_;clear H;rintro v8 G8 a w rfl vE H;exact fin H vE (rfl)
 ·refine gX 7 10 O O fun _ a w G1 hG HT H fin=>?_;refine s_call apX H wn O (aoy _ _ H.ro s.comments _ ((hR.cm.mono hma).mono hG) hz.cn hz.ct) O ?_;exact ME
 ·refine gX 10 13 O O fun _ a w G1 hG HT H fin=>?_;refine s_call apY H wn O (aoD _ _ H.ro s.vars _ ((hR.va.mono hma).mono hG) hz.vn hz.vt) O ?_;clear H;rintro v14 EA a w rfl Bl H;exact fin H Bl (rfl)
 clear H;intro a w G jA H hv;have H:=H.aQ (hv 2 5 O O) O;have H:=H.aQ (hv 5 8 O O) O;have H:=H.aQ (hv 8 11 O O) O;have H:=H.aQ (hv 11 14 O O) O;clear hv;refine iG qO jm [_,_,_,_] [_,_,_,_] H wn O O O O O (by intro i q h;match i,h with|0,h=>exact h|1,h=>exact h|2,h=>exact h|3,h=>exact h|n+4,h=>simp at h) O O ?_;clear H;intro b15 a w auK H;obtain ⟨EB,tJ,auL,H⟩:=H.fJ;refine s_call sj H wn O (sw _ _ H.ro _ _ (Ij [AX s.styles,MJ s.lists,Qj s.comments,Qk s.vars] auL (show 4<=maxLen by decide))) rfl ?_;clear H;rintro v16 _ a w ⟨rfl,rfl⟩ - H;refine kH H (Ra O ?_);clear H;intro a H;refine aF ⟨O,?_⟩;refine K2 _ _ ?_;clear K2;refine lr H results52 O ?_;exact EJ
section
def jh:Nat->List (Int × ah)->List MapEntry
 | _,[]=>[]
 | i,(k,v) :: r=>⟨.int .i64 k,v,i⟩ :: jh (i+1) r
theorem aiQ (x:Int × ah):∀ (i:Nat) (l:List (Int × ah)),jh i (l++[x])=jh i l++[⟨.int .i64 x.1,x.2,i+l.length⟩]
 | _,[]=>rfl
 | i,k :: r=>by
  rw [iT,jh,aiQ x (i+1) r,jh,iT,lD,show i+1+r.length=i+(r.length+1) by omega]
def vQ (x:Int):List (Int × ah)->Option ah
 | []=>none
 | (k,v) :: r=>if k=x then some v else vQ x r
theorem Oe {x:Int}:∀ {l:List (Int × ah)},x∉l.map (·.1)->vQ x l=none
 | [],_=>rfl
 | (k,v) :: r,h=>by
  rw [vQ,ay (fun e=>h (by simp [e])),Oe (fun hm=>h (gH _ hm))]
theorem WI (x:Int):∀ (i j:Nat) (l:List (Int × ah)),∃ an,Instr.findNow (.int .i64) (.int .i64 x) (jh i l) j=some an∧an.map (·.2)=vQ x l
 | _,_,[]=>⟨none,O,O⟩
 | i,j,(k,v) :: r=>by
  obtain ⟨an,h1,h2⟩:=WI x (i+1) (j+1) r
  by_cases e:k=x
  ·subst e
   exact ⟨some (j,v),by simp only [jh,Instr.findNow,Instr.sameNow,aH,beq_self_eq_true],by rw [vQ,aH O];rfl⟩
  ·have hb:(x == k)=false:=by simp;exact fun h=>e h.symm
   exact ⟨an,by simpa only [jh,Instr.findNow,Instr.sameNow,aH,hb] using h1,by rw [vQ,ay e];exact h2⟩
abbrev fG (l:List (Int × ah)):Obj:=.map (jh 0 l).toArray l.length
section
variable {N:Nat} {D:List Deferred} {w0:World} {F:Nat->Prop} {G0 G:GH} {L:OL} {T:List (Nat × ah)}
variable {r:Option Nat} {P:Program} {ops:Array Oper} {Q:Exit->Act->World->Prop} {rest:List Oper} {a:Act} {w:World}
variable {d:Nat} {ty:TypeId} {pos:String} {aL:Array Edge} {g:Option (Nat × Bool)}
theorem CY {t kt et:TypeId} {x y:Operand} {b:Nat} {l:List (Int × ah)} {ky:Int} {zv:ah} (hm:P.underlying t=some (.map kt et)) (hk:P.underlying kt=some (.int .i64)) (hz:(P.info? et).map (fun i=>i.zero)=some (some zv)) (H:St N D w0 F G0 G L T a w)
  (hw:Region.wanted ⟨some d,.lookup t x y false,ty,pos,aL,g⟩ (yielded ops a.tmps)=true) (hx:ev T x=some (.map (some b))) (hy:ev T y=some (.int .i64 ky)) (hb:w.heap[b]?=some (fG l)) (hd:Nat.blt d N=true)
  (k:∀ a',St N D w0 F G0 G L ((d,(vQ ky l).getD zv) :: T) a' w->WL r P ops Q rest a' w):WL r P ops Q (⟨some d,.lookup t x y false,ty,pos,aL,g⟩ :: rest) a w:=by
 obtain ⟨an,hf,han⟩:=WI ky 0 0 l
 obtain ⟨inf,hi1,hi2⟩:=nG.1 hz
 refine fQ (v:=(vQ ky l).getD zv) (w':=w) hw O ?_ (k _ (H.put hd _ H.hp))
 have hkey:MapKept.IsKey (.int .i64) (.int .i64 ky):=by trivial
 have hf2:Instr.findNow (.int .i64) (.int .i64 ky) (jh 0 l).toArray.toList 0=some an:=by simpa using hf
 replace hb:w.heap[b]?=some (.map (jh 0 l).toArray l.length):=hb
 generalize (jh 0 l).toArray=es at hb hf2
 have h1:=MapKept.run_checkKey (P:=P) (w:=w) hk hkey es.isEmpty 9999
 have h2:=MapKept.run_findKey (P:=P) (w:=w) hk hf2
 rw [<- han]
 cases an with
 | none=>simp [execOp,Instr.lookup,H.ev hx,H.ev hy,dM,lC hm,MapKept.run_getObj_map hb,h1,h2,Result.andThen,zeroValue,CO hi1,hi2]
 | some q=>simp [execOp,Instr.lookup,H.ev hx,H.ev hy,dM,lC hm,MapKept.run_getObj_map hb,h1,h2,Result.andThen]
theorem Ow {t kt et:TypeId} {x y z:Operand} {b i:Nat} {l:List (Int × ah)} {ky:Int} {v:ah} (hm:P.underlying t=some (.map kt et)) (hk:P.underlying kt=some (.int .i64)) (H:St N D w0 F G0 G L T a w)
  (hw:Region.wanted ⟨none,.mapUpdate t x y z,ty,pos,aL,g⟩ (yielded ops a.tmps)=true) (hx:ev T x=some (.map (some b))) (hy:ev T y=some (.int .i64 ky)) (hzv:ev T z=some v) (hi:L[i]?=some (b,fG l)) (hn:vQ ky l=none)
  (k:∀ w',St N D w0 F G0 G (L.set i (b,fG (l++[(ky,v)]))) T a w'->WL r P ops Q rest a w'):WL r P ops Q (⟨none,.mapUpdate t x y z,ty,pos,aL,g⟩ :: rest) a w:=by
 obtain ⟨an,hf,han⟩:=WI ky 0 0 l
 have hnone:an=none:=by
  rw [hn] at han
  cases an with
  | none=>rfl
  | some q=>cases han
 subst hnone
 refine akt (i:=i) hm hk H hw hx hy hzv hi (by trivial) (by simpa using hf) ?_
 intro w' H'
 have e:(jh 0 l).toArray.push ⟨.int .i64 ky,v,l.length⟩=(jh 0 (l++[(ky,v)])).toArray:=by
  rw [aiQ,List.push_toArray,fO]
 refine k w' ?_
 rw [e] at H'
 rw [fG,iK]
 exact H'
end
end
theorem zF:prog.underlying 113=some (.map 3 4):=by kernel_rfl
theorem qg:Ty prog 91 3 32 [.int .i64 0,.string ⟨#[]⟩,.int .i64 0] true:=⟨Z,Z⟩
theorem aBU:qW prog 115 [(0,1),(1,1),(2,1),(3,1),(4,1),(5,1)] [.map none,.map none,.map none,.map none,.map none,.int .i64 0]:=⟨Z,Z⟩
theorem Nf:dz prog 38 3 7:=⟨Z⟩
theorem M7:dz prog 115 0 0:=⟨Z⟩
theorem OB:Ty prog 112 1 8 [.map none] false:=⟨Z,Z⟩
theorem afz:dz prog 115 1 1:=⟨Z⟩
theorem uO:Ty prog 113 1 8 [.map none] false:=⟨Z,Z⟩
theorem JX:dz prog 38 2 6:=⟨Z⟩
theorem BU:Ty prog 30 1 24 [.slice none 0 0] false:=⟨Z,Z⟩
theorem rQ:prog.underlying 30=some (.slice 91):=by kernel_rfl
theorem M8:dz prog 115 2 2:=⟨Z⟩
theorem WG:dz prog 91 0 0:=⟨Z⟩
structure dw where
 id:Int
 author:ByteArray
 time:Int
def dw.dat (x:dw):List Dat:=[li x.id,.lf (.string x.author),li x.time]
abbrev dw.cells (x:dw):List ah:=[vi x.id,.string x.author,vi x.time]
theorem Zx {G:GH} {x:dw} {cs:List ah} (h:aX G x.dat cs):cs=x.cells:=by
 simp only [dw.dat,aX,av] at h
 exact acj
theorem Zw {G:GH} {l:List dw} {A:Option Addr} {n c k:Nat} (hv:av G (.sl 3 (l.map dw.dat)) (.slice A n c)) (hk:k < l.length):∃ b o,A=some ⟨b,o,none⟩∧(∀ j u,l[k].cells[j]?=some u->aI G b (o+k*3+j)=some u):=by
 obtain ⟨A',c',he,_,_,hg⟩:=hv.slice
 injection he with e1 e2 e3
 subst e1;obtain ⟨b,o,cs,h1,h2,h3,h4⟩:=hg k l[k].dat (by simp [hk]);have:=Zx h4;subst this;exact Jq
abbrev gU (b ms ml mr mb mu:Nat) (n:Int):Nat × Obj:=(b,.cells #[.map (some ms),.map (some ml),.map (some mr),.map (some mb),.map (some mu),vi n] 115 (0,0))
def BG (l:List cB):List (Int × ah):=l.map fun s=>(s.id,vi s.kind)
def gB (l:List Int):List (Int × ah):=l.map fun k=>(k,.bool true)
structure wY (us:List Int) (G:GH) (st:List cB) (li:List fK) (rv:List dw) (ms ml mr mu:Nat):Prop where
 sty:G ms=some (fG (BG st))
 nP:G ml=some (fG (gB (li.map fK.id)))
 rev:G mr=some (fG (gB (rv.map dw.id)))
 use:G mu=some (fG (gB us))
theorem wY.mono {us:List Int} {G G':GH} {st:List cB} {li:List fK} {rv:List dw} {ms ml mr mu:Nat} (h:wY us G st li rv ms ml mr mu) (hm:∀ b o,G b=some o->G' b=some o):wY us G' st li rv ms ml mr mu:=⟨hm _ _ h.sty,hm _ _ h.nP,hm _ _ h.rev,hm _ _ h.use⟩
structure TU (G:GH) (st:List cB) (li:List fK) (rv:List dw) (ms ml mr:Nat):Prop where
 sty:G ms=some (fG (BG st))
 nP:G ml=some (fG (gB (li.map fK.id)))
 rev:G mr=some (fG (gB (rv.map dw.id)))
theorem TU.with {us:List Int} {G G':GH} {st:List cB} {li:List fK} {rv:List dw} {ms ml mr mu:Nat} (h:TU G st li rv ms ml mr) (hm:∀ b o,G b=some o->G' b=some o) (hu:G' mu=some (fG (gB us))):wY us G' st li rv ms ml mr mu:=⟨hm _ _ h.sty,hm _ _ h.nP,hm _ _ h.rev,hu⟩
def Dj (l:List Int):Prop:=∀ (k:Nat) (h:k < l.length),l[k]∉l.take k
theorem ayh {l:List cB} {k:Nat} (h:k < l.length):BG (l.take (k+1))=BG (l.take k)++[(l[k].id,vi l[k].kind)]:=by rw [BG,jk h,jM];rfl
theorem aiN {l:List Int} {k:Nat} (h:k < l.length):gB (l.take (k+1))=gB (l.take k)++[(l[k],.bool true)]:=by rw [gB,jk h,jM];rfl
theorem ayg {l:List cB} {k:Nat} (f:Dj (l.map cB.id)) (h:k < l.length):vQ l[k].id (BG (l.take k))=none:=by
 refine Oe ?_;have:=f k (by simpa using h)
 simpa [BG,List.map_take,List.map_map,Function.comp_def] using this
theorem aiM {l:List Int} {k:Nat} (f:Dj l) (h:k < l.length):vQ l[k] (gB (l.take k))=none:=by
 refine Oe ?_;have:=f k h
 simpa [gB,List.map_map,Function.comp_def] using this
theorem UU {p:Prop} (h:p:=by
 exact ⟨jL _,fun _ _ h=>h⟩):p:=h
theorem ayL (G:GH) (w0:World) (hO:fM G [] w0) (D:jd) (st:List cB) (li:List fK) (rv:List dw) (hst:av G (.sl 6 (st.map cB.dat)) (bX D.s1)) (Nw:av G (.sl 2 (li.map fK.dat)) (bX D.s2)) (wO:av G (.sl 3 (rv.map dw.dat)) (bX D.r))
  (f1:Dj (st.map cB.id)) (f2:Dj (li.map fK.id)) (f3:Dj (rv.map dw.id)) (z1:st.length<=4294967296) (z2:li.length<=4294967296) (z3:rv.length<=4294967296) :
  Calls prog 54 #[D.val] w0 (fB w0 G [] fun u G' L'=>∃ b ms ml mr mb mu,u=(aJ b 0)∧L'=[gU b ms ml mr mb mu 0,(mb,fG []),(mu,fG [])]∧TU G' st li rv ms ml mr):=by
 obtain ⟨df,dp,dd,dy,⟨rA,rn,rc⟩,⟨sA,sn,sc⟩,⟨lA,ln,lc⟩,d3,d4,ins,mv⟩:=D;dsimp only at hst Nw wO
 obtain rfl:sn=st.length:=by have:=hst.len;simpa using this
 obtain rfl:ln=li.length:=by have:=Nw.len;simpa using this
 obtain rfl:rn=rv.length:=by have:=wO.len;simpa using this
 have hml:maxLen=9223372036854775807:=rfl;refine iB (N:=64) (T:=[(0,_)]) func54 O ntmps54 O O hO ?_;intro a H;refine dH (fun _ K1=>?_);refine eB (cs:=[_,_,_,_,_,_,_,_,_,_,_]) H wn O O O ?_;clear H;intro b1 a w hb1 H;refine kH H (au K1 O (SQ fun _ K2=>?_));clear H K1;intro a H;obtain ⟨Ga,hma,hb1',H⟩:=H.fJ
 have hc7:aI Ga b1 7=some (.slice sA st.length sc):=by unfold aI;rw [hb1'];rfl
 have hc8:aI Ga b1 8=some (.slice lA li.length lc):=by unfold aI;rw [hb1'];rfl
 have hc6:aI Ga b1 6=some (.slice rA rv.length rc):=by unfold aI;rw [hb1'];rfl
 replace hst:=hst.mono hma;replace Nw:=Nw.mono hma;replace wO:=wO.mono hma;refine mX ?_;refine FH H wn O ?_;clear H;intro b10 a w Xq H;refine FH H wn O ?_;clear H;intro b11 a w Nn H;refine FH H wn O ?_;clear H;intro b12 a w D9 H;refine FH H wn O ?_;clear H;intro b13 a w Xr H;refine FH H wn O ?_;clear H;intro b14 a w QV H;refine kg aBU [_,_,_,_,_,_] H wn O O O O ?_;clear H;intro a H;refine eB (cs:=[_,_,_,_,_,_]) H wn O O O ?_;clear H;intro b16 a w aDk H;refine kH H (aZ K2 O (SQ fun _ K3=>SR fun _ K4=>Rf Nf O (Rf JU O (Rg sM O (by assumption) ?_))));clear H K2;intro a H;refine kH H (Rl mq O (Rm O (Kz K4 (SB ?_))));clear H K4;intro a H;skip;refine eO (ι:=Nat × GH) (Tc:=[(1,_),(3,_),(19,_),(20,_)]) (Lc:=[(_,_),(_,_),(_,_),(_,_),(_,_)]) (fun gh=>[(21,vi gh.1)]) (fun gh=>[(b10,fG (BG (st.take gh.1)))]) (fun gh=>gh.2) (fun gh=>gh.1<=st.length∧(∀ b o,Ga b=some o->gh.2 b=some o)) (fun gh=>st.length - gh.1) ((0,Ga)) (by exact H.sub ⟨O,O,O,O,O,aB⟩) ?_ ?_
 ·exact UU
 clear H;rintro ⟨k,g1⟩ a w hI H;dsimp only at hI H;obtain ⟨hk,Ko⟩:=hI;dsimp only [lca,bD] at H;refine kP H (SR fun _ K5=>Rc O (Kz K5 (SQ fun _ K6=>Cd O ?_ ?_))) <;> clear H K5
 ·intro h22 a H
  try have oI:=dT h22
  have hk2:k < st.length:=by omega
  obtain ⟨xb,xo,pA,pc,rfl,hrow,-,-⟩:=Et (hst.mono Ko) hk2;have hnew:=ayg f1 hk2;refine kP H (Kc K6 (SQ fun _ K7=>SB (SR fun _ K8=>Ri mq kr O O ?_)));clear H K6;intro a H;refine bq kr (cs:=_) H wn O O (fun j v hj=>H.hp.aI (hrow j v hj)) O ?_;clear H;intro a H;refine dR kr H wn O ?_;clear H;intro b5 a w hb5 H;refine bM kr 0 (vs:=[_,_,_,_,_,_]) H wn O ?_;clear H;intro w H;refine K8 _ _ ?_;clear K8;refine dI hmx [[],[0],[0,1],[0,1,2],[],[4],[],[6],ra 0 8] [8] Z [_,_,_,.map (some b10),_,vi st[k].id,_,vi st[k].kind] H (aC (Z0 O (Rm O)) (Z1 0 25 O (Rk O)) (Z1 1 26 O (Rf M7 O)) (Z1 2 27 O (Ro OB 1 O)) (aC (Z0 O (Rf xG O)) (Z1 4 29 O (Ro aD 0 O)) (Z0 O (Rf zR O)) (Z1 6 31 O (Ro aD 0 O)) (bK (bQ O) dG))) ?_
  clear H;intro a w G Bn H hv;have H:=H.aQ (hv 3 28 O O) O;have H:=H.aQ (hv 5 30 O O) O;have H:=H.aQ (hv 7 32 O O) O;clear hv;refine Ow (i:=6) IQ mQ H wn O O O O hnew ?_;clear H;intro w H;dsimp only [List.set,List.append,lca,bD] at H;rw [<- ayh hk2] at H;refine aF ⟨O,?_⟩;refine K7 _ _ ?_;clear K7;refine kP H (SC (Rd O (Rm O ?_)));clear H;intro a H;refine aF ?_;refine dS ((k+1,G)) (by exact (H.dV (Pl:=[_,_,_,_,_,_,_]) (dL:=[_,_,_,_,_,_]) [1,2,3,4,5,6] Q1 O).sub ⟨O,O,O,O,O,aB⟩) ?_
  (try dsimp only);exact ⟨V,fun b o h=>Bn b o (Ko b o h)⟩
 intro h22 a H
 try have oI:=dF h22
 obtain rfl:k=st.length:=by omega
 rw [vg] at H;have aDB:=aK Ko hc8;refine dX ?_;refine K3 _ _ ?_;clear K3;refine kP H (SQ fun _ K9=>SR fun _ aT=>Rf Nf O (Rf JV O (Rg Dc O (by assumption) ?_)));clear H;intro a H;refine kH H (Rl xY O (Rm O (Kz aT (SB ?_))));clear H aT;intro a H;skip;refine eO (ι:=Nat × GH) (Tc:=[(1,_),(3,_),(36,_),(37,_)]) (Lc:=[(_,_),(_,_),(_,_),(_,_),(_,_)]) (fun gh=>[(38,vi gh.1)]) (fun gh=>[(b11,fG (gB ((li.map fK.id).take gh.1)))]) (fun gh=>gh.2) (fun gh=>gh.1<=li.length∧(∀ b o,g1 b=some o->gh.2 b=some o)) (fun gh=>li.length - gh.1) ((0,g1)) (by exact (H.dV (Pl:=[_,_,_,_,_,_]) (dL:=[_,_,_,_,_,_]) [0,1,2,3,5,4] Q1 O).sub ⟨O,O,O,O,O,aB⟩) ?_ ?_
 ·exact UU
 clear H;rintro ⟨k,g2⟩ a w hI H;dsimp only at hI H;obtain ⟨hk,Ru⟩:=hI;dsimp only [lca,bD] at H;refine kP H (SR fun _ bJ=>Rc O (Kz bJ (SQ fun _ bO=>Cd O ?_ ?_))) <;> clear H bJ
 ·intro mY a H
  try have p39:=dT mY
  have hk2:k < li.length:=by omega
  obtain ⟨xb,xo,B,d,rfl,hrow,-⟩:=YA ((Nw.mono Ko).mono Ru) hk2
  have hk3:k < (li.map fK.id).length:=by simpa using hk2
  have hnew:=aiM f2 hk3
  have Nt:(li.map fK.id)[k]=li[k].id:=by simp
  rw [Nt] at hnew;refine kP H (Kc bO (SQ fun _ bU=>SB (SR fun _ bZ=>Ri xY BP O O ?_)));clear H bO;intro a H;refine bq BP (cs:=_) H wn O O (fun j v hj=>H.hp.aI (hrow j v hj)) O ?_;clear H;intro a H;refine dR BP H wn O ?_;clear H;intro b7 a w Cq H;refine bM BP 0 (vs:=[_,_]) H wn O ?_;clear H;intro w H;refine bZ _ _ ?_;clear bZ;refine dI hmx [[],[0],[0,1],[0,1,2],[],[4],ra 0 6] [6] Z [_,_,_,.map (some b11),_,vi li[k].id] H (aC (Z0 O (Rm O)) (Z1 0 42 O (Rk O)) (Z1 1 43 O (Rf afz O)) (Z1 2 44 O (Ro uO 1 O)) (bK (Z0 O (Rf afB O)) (bK (Z1 4 46 O (Ro aD 0 O)) (bK (bQ O) dG)))) ?_
  clear H;intro a w G wM H hv;have H:=H.aQ (hv 3 45 O O) O;have H:=H.aQ (hv 5 47 O O) O;clear hv;refine Ow (i:=6) zF mQ H wn O O O O hnew ?_;clear H;intro w H;dsimp only [List.set,List.append,lca,bD] at H;rw [<- Nt,<- aiN hk3] at H;refine aF ⟨O,?_⟩;refine bU _ _ ?_;clear bU;refine kP H (SC (Rd O (Rm O ?_)));clear H;intro a H;refine aF ?_;refine dS ((k+1,G)) (by exact (H.dV (Pl:=[_,_,_,_,_,_,_]) (dL:=[_,_,_,_,_,_]) [1,2,3,4,5,6] Q1 O).sub ⟨O,O,O,O,O,aB⟩) ?_
  (try dsimp only);exact ⟨V,fun b o h=>wM b o (Ru b o h)⟩
 intro mY a H
 try have p39:=dF mY
 obtain rfl:k=li.length:=by omega
 rw [lU (by simp)] at H;have aDA:=aK Ru (aK Ko hc6);refine dX ?_;refine K9 _ _ ?_;clear K9;refine kP H (SQ fun _ dP=>SR fun _ dY=>Rf JX O (Rg BU O (by assumption) ?_));clear H;intro a H;refine kH H (Rl rQ O (Rm O (Kz dY (SB ?_))));clear H dY;intro a H;skip;refine eO (ι:=Nat × GH) (Tc:=[(3,_),(50,_),(51,_)]) (Lc:=[(_,_),(_,_),(_,_),(_,_),(_,_)]) (fun gh=>[(52,vi gh.1)]) (fun gh=>[(b12,fG (gB ((rv.map dw.id).take gh.1)))]) (fun gh=>gh.2) (fun gh=>gh.1<=rv.length∧(∀ b o,g2 b=some o->gh.2 b=some o)) (fun gh=>rv.length - gh.1) ((0,g2)) (by exact (H.dV (Pl:=[_,_,_,_,_,_]) (dL:=[_,_,_,_,_,_]) [0,1,2,4,5,3] Q1 O).sub ⟨O,O,O,O,aB⟩) ?_ ?_
 ·exact UU
 clear H;rintro ⟨k,g3⟩ a w hI H;dsimp only at hI H;obtain ⟨hk,ahh⟩:=hI;dsimp only [lca,bD] at H;refine kP H (SR fun _ dQ=>Rc O (Kz dQ (SQ fun _ eX=>Cd O ?_ ?_))) <;> clear H dQ
 ·intro WZ a H
  try have p53:=dT WZ
  have hk2:k < rv.length:=by omega
  obtain ⟨xb,xo,rfl,hrow⟩:=Zw (((wO.mono Ko).mono Ru).mono ahh) hk2
  have hk3:k < (rv.map dw.id).length:=by simpa using hk2
  have hnew:=aiM f3 hk3
  have Nt:(rv.map dw.id)[k]=rv[k].id:=by simp
  rw [Nt] at hnew;refine kP H (Kc eX (SQ fun _ gM=>SB (SR fun _ fI=>Ri rQ qg O O ?_)));clear H eX;intro a H;refine bq qg (cs:=_) H wn O O (fun j v hj=>H.hp.aI (hrow j v hj)) O ?_;clear H;intro a H;refine dR qg H wn O ?_;clear H;intro b9 a w uG H;refine bM qg 0 (vs:=[_,_,_]) H wn O ?_;clear H;intro w H;refine fI _ _ ?_;clear fI;refine dI hmx [[],[0],[0,1],[0,1,2],[],[4],ra 0 6] [6] Z [_,_,_,.map (some b12),_,vi rv[k].id] H (aC (Z0 O (Rm O)) (Z1 0 56 O (Rk O)) (Z1 1 57 O (Rf M8 O)) (Z1 2 58 O (Ro uO 1 O)) (bK (Z0 O (Rf WG O)) (bK (Z1 4 60 O (Ro aD 0 O)) (bK (bQ O) dG)))) ?_
  clear H;intro a w G Ht H hv;have H:=H.aQ (hv 3 59 O O) O;have H:=H.aQ (hv 5 61 O O) O;clear hv;refine Ow (i:=6) zF mQ H wn O O O O hnew ?_;clear H;intro w H;dsimp only [List.set,List.append,lca,bD] at H;rw [<- Nt,<- aiN hk3] at H;refine aF ⟨O,?_⟩;refine gM _ _ ?_;clear gM;refine kP H (SC (Rd O (Rm O ?_)));clear H;intro a H;refine aF ?_;refine dS ((k+1,G)) (by exact (H.dV (Pl:=[_,_,_,_,_,_,_]) (dL:=[_,_,_,_,_,_]) [1,2,3,4,5,6] Q1 O).sub ⟨O,O,O,O,aB⟩) ?_
  (try dsimp only);exact ⟨V,fun b o h=>Ht b o (ahh b o h)⟩
 intro WZ a H
 try have p53:=dF WZ
 obtain rfl:k=rv.length:=by omega
 rw [lU (by simp)] at H;refine dX ?_;refine dP _ _ ?_;clear dP;refine kP H (SR fun _ gQ=>Rm O (au gQ O ?_));clear H gQ;intro a H;refine gu ?_;have H:=H.dV (Pl:=[_,_,_,_,_,_]) (dL:=[_,_,_,_,_,_]) [3,4,5,0,2,1] Q1 O;obtain ⟨Gs,hms,hs,H⟩:=H.fJ;obtain ⟨Gl,NH,hl,H⟩:=H.fJ;obtain ⟨Gr,hmr,hr,H⟩:=H.fJ;refine lv H results54 O ?_;exact H.hp.gI ⟨b16,b10,b11,b12,b13,b14,O,O,⟨hmr _ _ (NH _ _ hs),hmr _ _ hl,hr⟩⟩
end Go.Proofs.YtggpjlchglgodaaGreat
