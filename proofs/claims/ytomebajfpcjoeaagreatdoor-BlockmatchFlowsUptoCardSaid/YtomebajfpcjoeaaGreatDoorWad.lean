/-
  What the claim stands on, part 4: Pts Fnd Wrd Ro Tok Seg Sgc Txs Utf3 Cy Slc Aln Sol.
-/
import Derived.Test.YtomebajfpcjoeaaGreatDoorWac
import Derived.Lib.BufferWrite
namespace Go.Proofs.YtomebajfpcjoeaaGreatDoor
set_option linter.all false
open Go.Proofs.Tryz
open Go.RowKit
def wB (s:ByteArray):Nat->Nat->List Int
 | 0,_=>[]
 | f+1,i=>if i < s.size then (gB s i).1 :: wB s f (i+(gB s i).2.1) else []
def xS (s:ByteArray):List Int:=wB s s.size 0
theorem V5 (s:ByteArray):∀ f i,(wB s f i).length<=f
 | 0,_=>by simp [wB]
 | f+1,i=>by
  rw [wB];split
  ·rw [ko];have:=V5 s f (i+(gB s i).2.1);omega
  simp
theorem V4 {s:ByteArray} {f i:Nat} (hf:s.size - i<=f) (h:i < s.size):wB s f i=(gB s i).1 :: wB s (f - 1) (i+(gB s i).2.1):=by
 match f,hf with
 | 0,hf=>omega
 | f+1,_=>rw [wB,aN h];rfl
theorem Pb {s:ByteArray} {f i:Nat} (h:¬ i < s.size):wB s f i=[]:=by
 match f with
 | 0=>rfl
 | f+1=>rw [wB,aL h]
theorem afZ (G:GH) (w0:World) (hG:Hold G w0) (s:ByteArray) (hs:s.size<=1073741824) (hv:gq s=true) :
  Calls prog 74 #[.string s] w0 (bQ w0 G fun u G'=>∃ x,u=.tuple #[x,vi 0]∧aF G' (.sl 1 ((xS s).map gJ)) x):=by
 have hv1:iN s 0 < 0:=by simpa [gq] using hv
 have hpl:=V5 s s.size 0;have hml:maxLen=9223372036854775807:=rfl;refine eN [(0,_)] func74 O ntmps74 O O hG ?_;intro a H;refine kP H (SR fun _ K1=>Ra O (av K1 O (SQ fun _ K2=>SR fun _ K3=>av K3 O (SB ?_))));clear H K1 K3;intro a H;skip;refine dY (ι:=Nat × Nat × List Int × ak × OL) (Tc:=[(0,_)]) (Lc:=[]) (fun gh=>[(2,gh.2.2.2.1),(4,vi gh.1)]) (fun gh=>[]++gh.2.2.2.2) (fun gh=>G) (fun gh=>gh.1<=s.size∧iN s 0=iN s gh.1∧s.size - gh.1<=gh.2.1∧gh.2.2.1++wB s gh.2.1 gh.1=xS s∧aW 3 1 gh.2.2.2.1 gh.2.2.1.length (gh.2.2.1.map vi) gh.2.2.2.2) (fun gh=>s.size - gh.1) ((0,s.size,[],.slice none 0 0,[])) (by exact H.sub ⟨O,O,O,aI⟩) ?_ ?_
 ·exact ⟨fC _,O,Nat.sub_le _ _,O,aW.nil⟩
 clear H;rintro ⟨i,f,B,v,Lo⟩ a w hI H;dsimp only at hI H;obtain ⟨hi,hf,hfu,heq,hrw⟩:=hI
 have hBl:B.length<=s.size:=by have:=gZ List.length heq;rw [fQ] at this;unfold xS at this;omega
 dsimp only [lca,bW] at H;refine kP H (SQ fun _ K4=>SR fun _ K5=>Rm O (Rm O (Rv kL O (Rc O (Kz K5 (Cd O ?_ ?_)))))) <;> clear H K5
 ·intro h11 a H
  try have oI:=dT h11
  refine kP H (Kc K4 (SB (SR fun _ K6=>Rm O (Rm O ?_))));clear H K4;intro a H;refine s_call Tq H wn O (SL _ _ H.ro s i V V) O ?_;clear H;rintro v15 _ a w ⟨rfl,rfl⟩ - H;have hd:=DR s i V
  have hok:(gB s i).2.2=true:=by
   by_cases h:(gB s i).2.2=true
   ·exact h
   have h3:iN s i=i:=by rw [iN,dif_pos V,dif_neg h]
   omega
  have hd2:=hd.2 hok;refine kH H (Rm O ?_);clear H;intro a H;(iterate 3 refine eZ H wn O O O ?_;clear H;intro a H);refine kH H (Ra O (Ra O (av K6 O (SQ fun _ K7=>SR fun _ K8=>Rm O (Rn O (Kz K8 (Cd O ?_ ?_))))))) <;> clear H K6 K8
  ·intro h20 a H
   exact absurd h20 (by rw [hok];decide)
  intro h20 a H
  try have vG:=dF h20
  refine kP H (Kc K7 (SR fun _ K9=>Rm O (Rm O ?_)));clear H K7;intro a H;refine eU cB aC [_] [_] H wn O O O O O (by intro i q h;match i,h with|0,h=>exact h|n+1,h=>simp at h) O O ?_;clear H;intro Y9 a w adI H;refine dX (Li:=[_]) (Lo:=Lo) (news:=[vi (gB s i).1]) cB aC O O H wn O O hrw O (H.hp.bR 0 O O) O V V O ?_;clear H;intro v24 LQ a w CJ H;obtain ⟨akp,akq,e24,-,-⟩:=CJ.shape;refine kH H (av K9 O (SC (Rm O (Rm O (Rd O (Ra O ?_))))));clear H K9;intro a H;refine aj ?_;refine OO ((i+(gB s i).2.1,f - 1,B++[(gB s i).1],v24,LQ)) (by exact (H.dz (Pl:=[_]) (bZ:=[]) [] Y O).sub ⟨O,O,O,aI⟩) ?_ ?_
  ·(try dsimp only);exact ⟨V,by rw [hf,iN,dif_pos V,dif_pos hok],V,by rw [V4 hfu V] at heq;simpa using heq,by rw [fQ,jw];exact CJ⟩
  omega
 intro h11 a H
 try have oI:=dF h11
 refine dJ ?_;refine K2 _ _ ?_;clear K2;refine kP H (SR fun _ aP=>Rm O (Ra O (av aP O ?_)));clear H aP;intro a H;refine aU ?_;rw [Pb V,lU] at heq;obtain ⟨Gr,hmr,hrep,H⟩:=St.kF (Li:=[]) (Lo:=Lo) H hrw (rows:=B.map gJ) (by simp) (yQ _ _);rw [heq] at hrep;refine (bK H results74 (.cons (aG H O) (.cons (aG H O) .nil)) ?_).1;exact H.rt ⟨_,O,hrep⟩
theorem acM:gL prog 189 1 1:=⟨Z⟩
theorem acL:gL prog 189 0 0:=⟨Z⟩
theorem TF:bL 93:=bN func93 O
theorem acg:bL 92:=bN func92 O
theorem acN:gL prog 189 2 2:=⟨Z⟩
theorem abb:bL 124:=bN func124 O
theorem aaP:bL 110:=bN func110 O
theorem acI:gL prog 169 0 0:=⟨Z⟩
def yJ (x:gQ) (p:Int):Int:=if x.high < p then -1 else if x.low > p then 1 else 0
theorem Sq (G:GH) (w0:World) (hG:Hold G w0) (x:gQ) (p:Int):Calls prog 93 #[.agg #[vi x.low,vi x.high,vi x.cls],vi p] w0 (bQ w0 G fun u G'=>u=vi (yJ x p)):=by
 refine eN [(0,_),(1,_)] func93 O ntmps93 O O hG ?_;intro a H;refine gU (fun _ K1=>?_);refine jQ (cs:=[_,_,_]) H wn O O O ?_;clear H;intro b2 a w hb2 H;refine kH H (av K1 O (SQ fun _ K2=>SB (SR fun _ K3=>fG acM aC 0 O O (Rm O (Rc O (av K3 O (Cd O ?_ ?_))))))) <;> clear H K1 K3
 ·intro h5 a H
  try have p5:=dT h5
  exact kP H (SR fun _ K4=>av K4 O (LR results93 O fun H=>H.rt (by unfold yJ;repeat (first|rw [dS]|rw [aZ]))))
 intro h5 a H
 try have p5:=dF h5
 refine kP H (SR fun _ K5=>fG acL aC 0 O O (Rm O (Rc O (av K5 O (Cd O ?_ ?_))))) <;> clear H K5
 ·intro h10 a H
  try have mG:=dT h10
  exact kP H (SR fun _ K6=>av K6 O (LR results93 O fun H=>H.rt (by unfold yJ;repeat (first|rw [dS]|rw [aZ]))))
 intro h10 a H
 try have mG:=dF h10
 exact kP H (Kc K2 (SR fun _ K7=>av K7 O (LR results93 O fun H=>H.rt (by unfold yJ;repeat (first|rw [dS]|rw [aZ])))))
def Jm (l:List gQ) (p:Int) (i:Nat):Bool:=match l[i]? with|some x=>decide (¬ yJ x p < 0)|none=>false
def F7 (l:List gQ) (p:Int):Nat:=bs (Jm l p) l.length 0 l.length
def yL (l:List gQ) (p:Int):Bool:=match l[F7 l p]? with|some x=>decide (yJ x p=0)|none=>false
def um (l:List gQ) (p:Int):Int:=match l[F7 l p]? with|some x=>if yJ x p=0 then x.cls else 0|none=>0
theorem Zy (G:GH) (w0:World) (hG:Hold G w0) (l:List gQ) (p:Int) (v:ak) (hv:aF G (.sl 3 (l.map gQ.dat)) v) (hl:l.length<=4294967296) :
  Calls prog 92 #[v,vi p,.func (.func 93) #[] #[]] w0 (bQ w0 G fun u G'=>u=.tuple #[vi (F7 l p),.bool (yL l p)]):=by
 obtain ⟨A,c,rfl,hc1,hc2,-⟩:=hv.slice;rw [bJ] at *;refine eN [(0,_),(1,_),(2,_)] func92 O ntmps92 O O hG ?_;intro a H;refine kP H (SR fun _ K1=>Ra O (av K1 O (SR fun _ K2=>Rm O (Rl Dl O (av K2 O (SR fun _ K3=>Rm O (Ra O (av K3 O (SQ fun _ K4=>SB ?_)))))))));clear H K1 K2 K3;intro a H;skip;refine dY (ι:=Nat × Nat × Nat × GH) (Tc:=[(0,_),(1,_),(2,_),(8,_)]) (Lc:=[]) (fun gh=>[(9,vi gh.1),(10,vi gh.2.1)]) (fun gh=>[]) (fun gh=>gh.2.2.2) (fun gh=>gh.1<=gh.2.1∧gh.2.1<=l.length∧gh.2.1 - gh.1<=gh.2.2.1∧bs (Jm l p) gh.2.2.1 gh.1 gh.2.1=F7 l p∧(∀ b o,G b=some o->gh.2.2.2 b=some o)) (fun gh=>gh.2.1 - gh.1) ((0,l.length,l.length,G)) (by exact H.sub ⟨O,O,O,O,O,O,aI⟩) ?_ ?_
 ·exact ⟨fC _,bS _,Nat.sub_le _ _,O,fun _ _ h=>h⟩
 clear H;rintro ⟨i,j,f,g⟩ a w hI H;dsimp only at hI H;obtain ⟨hij,hj,hf1,heq,hgm⟩:=hI;dsimp only [lca,bW] at H;refine kP H (SQ fun _ K5=>SR fun _ K6=>Rm O (Rm O (Rc O (Kz K6 (Cd O ?_ ?_))))) <;> clear H K6
 ·intro eO a H
  try have mW:=dT eO
  have hlt:i < j:=by omega
  have hh:(i+j) / 2 < l.length:=by omega
  rw [RQ hf1 hlt] at heq
  have hge:Jm l p ((i+j) / 2)=decide (¬ yJ l[(i+j) / 2] p < 0):=by simp only [Jm,iR hh]
  rw [hge] at heq;obtain ⟨b,o,rfl,hrow⟩:=EJ hv hh;replace hrow:=fun j u hj=>aK hgm (hrow j u hj);refine kP H (Kc K5 (SB (SR fun _ K7=>Rm O (Rm O (Rd O ?_)))));clear H K5;intro a H;rw [show ((i:Int)+(j:Int))=((i+j:Nat):Int) by push_cast;rfl] at H;refine Bv ((i+j:Nat):Int) KW Am H wn O (XT V V) O ?_;clear H;intro a H;refine PE _ H wn O O O Y O ?_;clear H;intro a H;rw [Xa] at H;refine Bv (((i+j) / 2:Nat):Int) Am KW H wn O (Aa V V) O ?_;clear H;intro a H;refine kH H (av K7 O (SR fun _ K8=>Rm O (Rm O (Rm O ?_))));clear H K7;intro a H;refine bD Dl BD ((i+j) / 2) H wn O O O hh O ?_;clear H;intro a H;refine bV BD (cs:=[_,_,_]) H wn O O (fun j v hj=>H.hp.aS (hrow j v hj)) O ?_;clear H;intro a H;refine kH H (Rm O ?_);clear H;intro a H;refine yV H wn O O (sI (caps:=[]) (args:=[_,_]) TF (Sq _ _ H.ro l[(i+j) / 2] p)) O ?_;clear H;rintro v30 Dr a w rfl jr H;refine kH H (Rc O (Kz K8 (Cd O ?_ ?_))) <;> clear H K8
  ·intro h31 a H
   try have p31:=dT h31
   rw [aL (by simpa using p31)] at heq;refine kP H (SC (Rm O (Rd O (Ra O ?_))));clear H;intro a H;refine aj ?_;refine bE (((i+j) / 2+1,j,f - 1,Dr)) (by exact H.sub ⟨O,O,O,O,O,O,aI⟩) ?_
   (try dsimp only);exact ⟨V,hj,V,heq,fun b o h=>jr b o (hgm b o h)⟩
  intro h31 a H
  try have p31:=dF h31
  rw [aN (by simpa using p31)] at heq;refine kP H (SC (Rm O (Ra O ?_)));clear H;intro a H;refine aj ?_;refine bE ((i,(i+j) / 2,f - 1,Dr)) (by exact H.sub ⟨O,O,O,O,O,O,aI⟩) ?_
  (try dsimp only);exact ⟨V,V,V,heq,fun b o h=>jr b o (hgm b o h)⟩
 intro eO a H
 try have mW:=dF eO
 refine dJ ?_;refine K4 _ _ ?_;clear K4;refine gy (fun _ K9=>?_);rw [RP V] at heq;refine kP H (SC (Rm O (Rm O (Rm O (Rc O (Rm O (Sp 39 O ?_ ?_))))))) <;> clear H
 ·intro jB a H
  try have p39:=dT jB
  have hh:i < l.length:=by omega
  have sN:yL l p=decide (yJ l[i] p=0):=by simp only [yL,<- heq,iR hh]
  obtain ⟨b,o,rfl,hrow⟩:=EJ hv hh;replace hrow:=fun j u hj=>aK hgm (hrow j u hj);refine kH H (YM jB O (YM jB O (YM jB O ?_)));clear H;intro a H;refine bD Dl BD i H (wg H O O jB) O O O hh O ?_;clear H;intro a H;refine bV BD (cs:=[_,_,_]) H (wg H O O jB) O O (fun j v hj=>H.hp.aS (hrow j v hj)) O ?_;clear H;intro a H;refine kH H (YM jB O ?_);clear H;intro a H;refine yV H (wg H O O jB) O O (sI (caps:=[]) (args:=[_,_]) TF (Sq _ _ H.ro l[i] p)) O ?_;clear H;rintro v46 QL a w rfl UD H;refine kH H (YC jB O (Pt jB O (Ra O (bO K9 O ?_))));clear H K9;intro a H;refine aU ?_;refine (bK H results92 (.cons (aG H O) (.cons (aG H O) .nil)) ?_).1;exact H.rt (by rw [sN,<- heq];try rfl)
 intro jB a H
 try have p39:=dF jB
 have sN:yL l p=false:=by simp only [yL,<- heq,List.getElem?_eq_none (show l.length<=i by omega)]
 refine kH H (aV jB O (aV jB O (aO jB O (Pf jB O (Ra O (bO K9 O ?_))))));clear H K9;intro a H;refine aU ?_;refine (bK H results92 (.cons (aG H O) (.cons (aG H O) .nil)) ?_).1;exact H.rt (by rw [sN,<- heq];try rfl)
theorem find_spec (G:GH) (w0:World) (hG:Hold G w0) (l:List gQ) (p:Int) (v:ak) (hv:aF G (.sl 3 (l.map gQ.dat)) v) (hl:l.length<=4294967296) :
  Calls prog 77 #[v,vi p] w0 (bQ w0 G fun u G'=>u=vi (um l p)):=by
 obtain ⟨A,c,rfl,hc1,hc2,-⟩:=hv.slice;rw [bJ] at *;obtain ⟨k,hk⟩:∃ k,k=F7 l p:=⟨_,O⟩;refine eN [(0,_),(1,_)] func77 O ntmps77 O O hG ?_;intro a H;refine kP H (SR fun _ K1=>av K1 O (SR fun _ K2=>Rm O (Rm O ?_)));clear H K1;intro a H;refine s_call acg H wn O (Zy _ _ H.ro l p _ hv hl) O ?_;clear H;rintro v10 vL a w rfl rT H;rw [<- hk] at H;refine kH H (Rm O ?_);clear H;intro a H;(iterate 2 refine eZ H wn O O O ?_;clear H;intro a H);refine kH H (Ra O (av K2 O (SQ fun _ K3=>SR fun _ K4=>Rm O (Rn O (Kz K4 (Cd O ?_ ?_)))))) <;> clear H K2 K4
 ·intro eD a H
  refine kP H (SR fun _ K5=>av K5 O ?_);clear H K5;intro a H;refine lr H results77 O ?_
  have sN:yL l p=false:=by simpa using eD
  exact H.rt (by
   rw [yL,<- hk] at sN;rw [um,<- hk]
   cases h:l[k]? with
   | none=>rfl
   | some x=>rw [h] at sN;dsimp only at sN |-;rw [aL (by simpa using sN)])
 intro eD a H
 try have jC:=dF eD
 have sN:yL l p=true:=by simpa using eD
 have hkl:k < l.length:=by
  by_cases h:k < l.length
  ·exact h
  rw [yL,<- hk,List.getElem?_eq_none V] at sN;cases sN
 have hcm:yJ l[k] p=0:=by rw [yL,<- hk,iR hkl] at sN;simpa using sN
 obtain ⟨b,o,rfl,hrow⟩:=EJ hv hkl;have h2:=aK rT (hrow 2 _ O);refine kP H (Kc K3 (SR fun _ K6=>Rm O (Rm O ?_)));clear H K3;intro a H;refine bD Dl BD k H wn O O O hkl O ?_;clear H;intro a H;refine kH H (Rf acN O (Rg aC O (by assumption) ?_));clear H;intro a H;exact kH H (av K6 O (LR results77 O fun H=>H.rt (by rw [um,<- hk,iR hkl];dsimp only;rw [aN hcm])))
theorem index_spec (G:GH) (w0:World) (hG:Hold G w0) (l:List Int) (x:Int) (v:ak) (hv:aF G (.sl 1 (l.map gJ)) v) :
  Calls prog 124 #[v,vi x] w0 (bQ w0 G fun u G'=>G=G'∧∃ z:Int,u=vi z∧(0<=z↔x∈l)):=by
 obtain ⟨A,c,rfl,hc1,hc2,-⟩:=hv.slice;have hml:maxLen=9223372036854775807:=rfl;rw [bJ] at *;refine eN [(0,_),(1,_)] func124 O ntmps124 O O hG ?_;intro a H;refine kP H (SR fun _ K1=>av K1 O (SQ fun _ K2=>SR fun _ K3=>Rm O (Rl cB O (Rm O (Kz K3 (SB ?_))))));clear H K1 K3;intro a H;skip;refine dY (ι:=Nat) (Tc:=[(0,_),(1,_),(7,_)]) (Lc:=[]) (fun gh=>[(8,vi gh)]) (fun gh=>[]) (fun gh=>G) (fun gh=>gh<=l.length∧∀ q (hq:q < gh) (hq2:q < l.length),¬ l[q]=x) (fun gh=>l.length - gh) (0) (by exact H.sub ⟨O,O,O,O,aI⟩) ?_ ?_
 ·exact ⟨fC _,fun q hq=>absurd hq (Nat.not_lt_zero _)⟩
 clear H;intro k a w hI H;obtain ⟨hk,hno⟩:=hI;dsimp only [lca,bW] at H;refine kP H (SR fun _ K4=>Rc O (Kz K4 (SQ fun _ K5=>Cd O ?_ ?_))) <;> clear H K4
 ·intro h9 a H
  try have p9:=dT h9
  have hk2:k < l.length:=by omega
  obtain ⟨b,o,rfl,hrow⟩:=rU hv hk2;refine kP H (Kc K5 (SQ fun _ K6=>SB (SR fun _ K7=>Rm O (av K7 O (SR fun _ K8=>Rm O (Rm O (Rm O (Ri cB aC O O (Rg aC O (by assumption) ?_)))))))));clear H K5 K7;intro a H;refine kH H (Rc O (Kz K8 (Cd O ?_ ?_))) <;> clear H K8
  ·intro h16 a H
   try have p16:=dT h16
   exact kP H (SR fun _ K9=>Rm O (av K9 O (LR results124 O fun H=>H.rt ⟨O,_,O,⟨fun _=>by rw [p16];exact dV hk2,fun _=>by omega⟩⟩)))
  intro h16 a H
  try have p16:=dF h16
  refine kP H (Kc K6 (SC (Rd O (Rm O ?_))));clear H K6;intro a H;refine aj ?_;refine bE ((k+1)) (by exact H.sub ⟨O,O,O,O,aI⟩) ?_
  exact ⟨V,fun q hq hq2=>by
    by_cases e:q=k
    ·subst e;omega
    exact hno q V hq2⟩
 intro h9 a H
 try have p9:=dF h9
 refine dJ ?_;refine K2 _ _ ?_;clear K2;refine kP H (SR fun _ aP=>av aP O ?_);clear H aP;intro a H;refine lr H results124 O ?_
 exact H.rt ⟨O,_,O,⟨fun h=>absurd h Y,fun h=>by
 obtain ⟨q,hq,e⟩:=List.getElem_of_mem h
 exact absurd e (hno q V hq)⟩⟩
theorem aam (G:GH) (w0:World) (hG:Hold G w0) (l:List Int) (x:Int) (v:ak) (hv:aF G (.sl 1 (l.map gJ)) v) :
  Calls prog 110 #[v,vi x] w0 (bQ w0 G fun u G'=>G=G'∧u=.bool (decide (x∈l))):=by
 refine eN [(0,_),(1,_)] func110 O ntmps110 O O hG ?_;intro a H;refine kP H (SR fun _ K1=>av K1 O (SR fun _ K2=>Rm O (Rm O ?_)));clear H K1;intro a H;refine s_call abb H wn O (index_spec _ _ H.ro l x _ hv) O ?_;clear H;rintro v7 _ a w ⟨rfl,z,rfl,hz⟩ - H;exact kH H (Rc O (av K2 O (LR results110 O fun H=>H.rt ⟨O,by congr 1;rw [decide_eq_decide];exact hz⟩)))
structure fO where
 cls:Int
 from_:Int
 dx:Int
def fO.dat (x:fO):List Dat:=[li x.cls,li x.from_,li x.dx]
def fO.cells (x:fO):List ak:=[vi x.cls,vi x.from_,vi x.dx]
theorem mF (G:GH) (w0:World) (hG:Hold G w0) (x:fO) (l:List Int) (v:ak) (hv:aF G (.sl 1 (l.map gJ)) v) :
  Calls prog 94 #[.agg #[vi x.cls,vi x.from_,vi x.dx],v] w0 (bQ w0 G fun u G'=>G=G'∧u=.bool (decide (x.cls∈l))):=by
 refine eN [(0,_),(1,_)] func94 O ntmps94 O O hG ?_;intro a H;refine gU (fun _ K1=>?_);refine jQ (cs:=[_,_,_]) H wn O O O ?_;clear H;intro b2 a w hb2 H;refine kH H (av K1 O (SR fun _ K2=>Rm O (fG acI aC 0 O O ?_)));clear H K1;intro a H;refine s_call aaP H wn O (aam _ _ H.ro l x.cls _ hv) O ?_;clear H;rintro v8 _ a w ⟨rfl,rfl⟩ - H;exact kH H (av K2 O (LR results94 O fun H=>H.rt ⟨O,O⟩))
theorem fZ:Ty prog 169 3 24 [.int .i64 0,.int .i64 0,.int .i64 0] true:=⟨Z,Z⟩
theorem jv:prog.underlying 134=some (.slice 169):=by kernel_rfl
theorem mq:bL 94:=bN func94 O
theorem ach:bL 95:=bN func95 O
theorem Z5 (G:GH) (x:fO):aY G x.dat x.cells:=by
 simp only [fO.dat,fO.cells,aY]
 exact ⟨_,_,O,by simp [aF,Value.oneCell'],_,_,O,by simp [aF,Value.oneCell'],_,_,O,by simp [aF,Value.oneCell'],O⟩
theorem Z4 {G:GH} {x:fO} {cs:List ak} (h:aY G x.dat cs):cs=x.cells:=by
 simp only [fO.dat,aY,aF] at h
 obtain ⟨v1,_,rfl,⟨rfl,-⟩,v2,_,rfl,⟨rfl,-⟩,v3,_,rfl,⟨rfl,-⟩,rfl⟩:=h
 rfl
theorem IX {G:GH} {l:List fO} {A:Option Addr} {n c k:Nat} (hv:aF G (.sl 3 (l.map fO.dat)) (.slice A n c)) (hk:k < l.length):∃ b o,A=some ⟨b,o,none⟩∧(∀ j u,l[k].cells[j]?=some u->aS G b (o+k*3+j)=some u):=by
 obtain ⟨A',c',he,_,_,hg⟩:=hv.slice
 injection he with e1 e2 e3
 subst e1;obtain ⟨b,o,cs,h1,h2,h3,h4⟩:=hg k l[k].dat (by simp [hk]);obtain rfl:=Z4 h4;exact ⟨b,o,h1,h3⟩
theorem lu {G:GH} {l:List fO} {b o n c k:Nat} (hv:aF G (.sl 3 (l.map fO.dat)) (.slice (some ⟨b,o,none⟩) n c)) (hk:k < l.length):∀ j u,[vi l[k].cls,vi l[k].from_,vi l[k].dx][j]?=some u->aS G b (o+k*3+j)=some u:=by
 obtain ⟨b',o',e,h⟩:=IX hv hk
 injection e with e;injection e with e1 e2;subst e1;subst e2
 exact h
def jF (l:List fO) (i:Nat):Int:=match l[i]? with|some x=>x.cls|none=>-1
theorem Sm {l:List fO} {i:Nat} (h:i < l.length):jF l i=l[i].cls:=by simp only [jF,iR h]
theorem is1 {l:List fO} {i:Nat} (h:i < l.length) (c:Int):decide (l[i].cls∈[c])=decide (jF l i=c):=by rw [Sm h];simp
theorem is2 {l:List fO} {i:Nat} (h:i < l.length) (c d:Int):decide (l[i].cls∈[c,d])=decide (jF l i=c∨jF l i=d):=by rw [Sm h];simp
def okW (l:List fO) (n:Nat):Bool:=decide (jF l n=5∨jF l n=6∨(0 < n∧n+1 < l.length∧jF l n=11∧jF l (n - 1)=5∧jF l (n+1)=5)∨(0 < n∧n+1 < l.length∧jF l n=10∧jF l (n - 1)=6∧jF l (n+1)=6))
def yh (l:List fO):Nat->Nat->Int->Nat × Int
 | 0,n,k=>(n,k)
 | f+1,n,k=>if n < l.length then (if okW l n=true then yh l f (n+1) (if jF l n=5 then 1 else k) else (n,k)) else (n,k)
theorem Yg {l:List fO} {f n:Nat} {k:Int} (hf:l.length - n<=f) (h:n < l.length):yh l f n k=if okW l n=true then yh l (f - 1) (n+1) (if jF l n=5 then 1 else k) else (n,k):=by
 match f,hf with
 | 0,hf=>omega
 | f+1,_=>rw [yh,aN h];rfl
theorem aiY {l:List fO} {f n:Nat} {k:Int} (h:¬ n < l.length):yh l f n k=(n,k):=by
 match f with
 | 0=>rfl
 | f+1=>rw [yh,aL h]
def jY (l:List fO):Nat × Int:=yh l l.length 0 2
theorem aiW (G:GH) (w0:World) (hG:Hold G w0) (l:List fO) (v:ak) (hv:aF G (.sl 3 (l.map fO.dat)) v) :
  Calls prog 95 #[v] w0 (bQ w0 G fun u G'=>u=.tuple #[vi (jY l).1,vi (jY l).2]):=by
 obtain ⟨A,c,rfl,hc1,hc2,-⟩:=hv.slice;have hml:maxLen=9223372036854775807:=rfl;rw [bJ] at *;refine eN [(0,_)] func95 O ntmps95 O O hG ?_;intro a H;refine kP H (SR fun _ K1=>Ra O (av K1 O (SR fun _ K2=>av K2 O (SQ fun _ K3=>SB ?_))));clear H K1 K2;intro a H;skip;refine dY (ι:=Nat × Nat × Int × GH) (Tc:=[(0,_)]) (Lc:=[]) (fun gh=>[(2,vi gh.1),(3,vi gh.2.2.1)]) (fun gh=>[]) (fun gh=>gh.2.2.2) (fun gh=>gh.1<=l.length∧l.length - gh.1<=gh.2.1∧yh l gh.2.1 gh.1 gh.2.2.1=jY l∧aF gh.2.2.2 (.sl 3 (l.map fO.dat)) (.slice A l.length c)) (fun gh=>l.length - gh.1) ((0,l.length,2,G)) (by exact H.sub ⟨O,O,O,aI⟩) ?_ ?_
 ·exact ⟨fC _,Nat.sub_le _ _,O,hv⟩
 clear H;rintro ⟨n,f,kd,g⟩ a w hI H;dsimp only at hI H;obtain ⟨hn,hf,heq,dh⟩:=hI;dsimp only [lca,bW] at H;refine kP H (SQ fun _ K4=>SR fun _ K5=>Rm O (Rm O (Rl jv O (Rc O (Kz K5 (Cd O ?_ ?_)))))) <;> clear H K5
 ·intro h7 a H
  try have p7:=dT h7
  first
  | (exfalso;omega)
  | (exact absurd h7 Y)
  |skip
   have hn2:n < l.length:=by omega
   rw [Yg hf hn2] at heq;obtain ⟨b,o,rfl,-⟩:=IX dh hn2;refine kP H (Kc K4 (SB (SQ fun _ K6=>SB (SR fun _ K7=>Rm O (Rm O ?_)))));clear H K4;intro a H;refine bD jv fZ n H wn O O V V O ?_;clear H;intro a H;refine bV fZ (cs:=[_,_,_]) H wn O O (fun j v hj=>H.hp.aS (lu dh (k:=n) V j v hj)) O ?_;clear H;intro a H;refine eU cB aC [_] [_] H wn O O O O O (by intro i q h;match i,h with|0,h=>exact h|n+1,h=>simp at h) O O ?_;clear H;intro b15 a w ajz H;obtain ⟨Gq,iw,hq,H⟩:=H.nu (sz:=1) (d:=gJ 5) O (ny _ 5);replace dh:=dh.mono iw;refine s_call mq H wn O (mF _ _ H.ro l[n] [5] _ hq) O ?_;clear H;rintro v16 _ a w ⟨rfl,rfl⟩ - H;rw [is1 V 5] at H;refine kH H (av K7 O (Cd O ?_ ?_)) <;> clear H K7
   ·intro h10 a H
    try have mG:=dT h10
    first
    | (exfalso;omega)
    | (exact absurd h10 Y)
    |skip
     refine kP H (SC (bO K6 O (SC (Rm O (Rd O (Ra O ?_))))));clear H K6;intro a H;refine aj ?_;refine bE ((n+1,f - 1,1,Gq)) (by exact H.sub ⟨O,O,O,aI⟩) ?_
     (try dsimp only);exact ⟨V,V,by rw [aN (show okW l n=true by simp only [okW,dU];omega),aN mG] at heq;exact heq,dh⟩
   intro h10 a H
   try have mG:=dF h10
   first
   | (exfalso;omega)
   | (exact absurd h10 Y)
   |skip
    refine kP H (SR fun _ K8=>Rm O (Rm O ?_));clear H;intro a H;refine bD jv fZ n H wn O O V V O ?_;clear H;intro a H;refine bV fZ (cs:=[_,_,_]) H wn O O (fun j v hj=>H.hp.aS (lu dh (k:=n) V j v hj)) O ?_;clear H;intro a H;refine eU cB aC [_] [_] H wn O O O O O (by intro i q h;match i,h with|0,h=>exact h|n+1,h=>simp at h) O O ?_;clear H;intro rM a w NM H;obtain ⟨Gq,iw,hq,H⟩:=H.nu (sz:=1) (d:=gJ 6) O (ny _ 6);replace dh:=dh.mono iw;refine s_call mq H wn O (mF _ _ H.ro l[n] [6] _ hq) O ?_;clear H;rintro v23 _ a w ⟨rfl,rfl⟩ - H;rw [is1 V 6] at H;refine kH H (av K8 O (Cd O ?_ ?_)) <;> clear H K8
    ·intro eO a H
     try have mW:=dT eO
     first
     | (exfalso;omega)
     | (exact absurd eO Y)
     |skip
      refine kP H (Kc K6 (SC (Rm O (Rd O (Ra O ?_)))));clear H K6;intro a H;refine aj ?_;refine bE ((n+1,f - 1,kd,Gq)) (by exact H.sub ⟨O,O,O,aI⟩) ?_
      (try dsimp only);exact ⟨V,V,by rw [aN (show okW l n=true by simp only [okW,dU];omega),aL (show ¬ jF l n=5 by omega)] at heq;exact heq,dh⟩
    intro eO a H
    try have mW:=dF eO
    first
    | (exfalso;omega)
    | (exact absurd eO Y)
    |skip
     refine kP H (SR fun _ K9=>Rm O (Rc O (Rm O (Sp 27 O ?_ ?_)))) <;> clear H
     ·intro h27 a H
      try have p27:=dT h27
      first
      | (exfalso;omega)
      | (exact absurd h27 Y)
      |skip
       refine kH H (YM h27 O ?_);clear H;intro a H;refine nQ _ H (wg H O O h27) O O O V V O ?_;clear H;intro a H;refine kH H (YM h27 O (YL jv h27 O (YC h27 O (Pt h27 O (Rm O (Sp 34 O ?_ ?_)))))) <;> clear H
       ·intro kG a H
        try have p34:=dT kG
        first
        | (exfalso;omega)
        | (exact absurd kG Y)
        |skip
         refine kH H (YM kG O (YM kG O ?_));clear H;intro a H;refine bD jv fZ n H (wg H O O kG) O O V V O ?_;clear H;intro a H;refine bV fZ (cs:=[_,_,_]) H (wg H O O kG) O O (fun j v hj=>H.hp.aS (lu dh (k:=n) V j v hj)) O ?_;clear H;intro a H;refine eU cB aC [_] [_] H (wg H O O kG) O O O O O (by intro i q h;match i,h with|0,h=>exact h|n+1,h=>simp at h) O O ?_;clear H;intro vS a w NQ H;obtain ⟨Gq,iw,hq,H⟩:=H.nu (sz:=1) (d:=gJ 11) O (ny _ 11);replace dh:=dh.mono iw;refine s_call mq H (wg H O O kG) O (mF _ _ H.ro l[n] [11] _ hq) O ?_;clear H;rintro v40 _ a w ⟨rfl,rfl⟩ - H;rw [is1 V 11] at H;refine kH H (Pt kG O (Rm O (Sp 42 O ?_ ?_))) <;> clear H
         ·intro iQ a H
          try have p42:=dT iQ
          first
          | (exfalso;omega)
          | (exact absurd iQ Y)
          |skip
           refine kH H (YM iQ O (YM iQ O ?_));clear H;intro a H;refine wE _ H (wg H O O iQ) O O O V V O ?_;clear H;intro a H;refine bD jv fZ (n - 1) H (wg H O O iQ) O O V V O ?_;clear H;intro a H;refine bV fZ (cs:=[_,_,_]) H (wg H O O iQ) O O (fun j v hj=>H.hp.aS (lu dh (k:=(n - 1)) V j v hj)) O ?_;clear H;intro a H;refine eU cB aC [_] [_] H (wg H O O iQ) O O O O O (by intro i q h;match i,h with|0,h=>exact h|n+1,h=>simp at h) O O ?_;clear H;intro b48 a w hb48 H;obtain ⟨Gq,iw,hq,H⟩:=H.nu (sz:=1) (d:=gJ 5) O (ny _ 5);replace dh:=dh.mono iw;refine s_call mq H (wg H O O iQ) O (mF _ _ H.ro l[(n - 1)] [5] _ hq) O ?_;clear H;rintro v49 _ a w ⟨rfl,rfl⟩ - H;rw [is1 V 5] at H;refine kH H (Pt iQ O (Rm O (Sp 51 O ?_ ?_))) <;> clear H
           ·intro kI a H
            try have p51:=dT kI
            first
            | (exfalso;omega)
            | (exact absurd kI Y)
            |skip
             refine kH H (YM kI O (YM kI O ?_));clear H;intro a H;refine nQ _ H (wg H O O kI) O O O V V O ?_;clear H;intro a H;refine bD jv fZ (n+1) H (wg H O O kI) O O V V O ?_;clear H;intro a H;refine bV fZ (cs:=[_,_,_]) H (wg H O O kI) O O (fun j v hj=>H.hp.aS (lu dh (k:=(n+1)) V j v hj)) O ?_;clear H;intro a H;refine eU cB aC [_] [_] H (wg H O O kI) O O O O O (by intro i q h;match i,h with|0,h=>exact h|n+1,h=>simp at h) O O ?_;clear H;intro Zb a w adK H;obtain ⟨Gq,iw,hq,H⟩:=H.nu (sz:=1) (d:=gJ 5) O (ny _ 5);replace dh:=dh.mono iw;refine s_call mq H (wg H O O kI) O (mF _ _ H.ro l[(n+1)] [5] _ hq) O ?_;clear H;rintro v58 _ a w ⟨rfl,rfl⟩ - H;rw [is1 V 5] at H;refine kH H (Pt kI O (av K9 O (Cd O ?_ ?_))) <;> clear H K9
             ·intro aQ a H
              try have gP:=dT aQ
              first
              | (exfalso;omega)
              | (exact absurd aQ Y)
              |skip
               refine kP H (Kc K6 (SC (Rm O (Rd O (Ra O ?_)))));clear H K6;intro a H;refine aj ?_;refine bE ((n+1,f - 1,kd,Gq)) (by exact H.sub ⟨O,O,O,aI⟩) ?_
               (try dsimp only);exact ⟨V,V,by rw [aN (show okW l n=true by simp only [okW,dU];omega),aL (show ¬ jF l n=5 by omega)] at heq;exact heq,dh⟩
             intro aQ a H
             try have gP:=dF aQ
             first
             | (exfalso;omega)
             | (exact absurd aQ Y)
             |skip
              refine kP H (SR fun _ aP=>Rm O (Rc O (Rm O (Sp 63 O ?_ ?_)))) <;> clear H
              ·intro h63 a H
               try have p63:=dT h63
               first
               | (exfalso;omega)
               | (exact absurd h63 Y)
               |skip
                refine kH H (YM h63 O ?_);clear H;intro a H;refine nQ _ H (wg H O O h63) O O O V V O ?_;clear H;intro a H;refine kH H (YM h63 O (YL jv h63 O (YC h63 O (Pt h63 O (Rm O (Sp 70 O ?_ ?_)))))) <;> clear H
                ·intro dN a H
                 try have p70:=dT dN
                 first
                 | (exfalso;omega)
                 | (exact absurd dN Y)
                 |skip
                  refine kH H (YM dN O (YM dN O ?_));clear H;intro a H;refine bD jv fZ n H (wg H O O dN) O O V V O ?_;clear H;intro a H;refine bV fZ (cs:=[_,_,_]) H (wg H O O dN) O O (fun j v hj=>H.hp.aS (lu dh (k:=n) V j v hj)) O ?_;clear H;intro a H;refine eU cB aC [_] [_] H (wg H O O dN) O O O O O (by intro i q h;match i,h with|0,h=>exact h|n+1,h=>simp at h) O O ?_;clear H;intro IC a w JA H;obtain ⟨Gq,iw,hq,H⟩:=H.nu (sz:=1) (d:=gJ 10) O (ny _ 10);replace dh:=dh.mono iw;refine s_call mq H (wg H O O dN) O (mF _ _ H.ro l[n] [10] _ hq) O ?_;clear H;rintro v76 _ a w ⟨rfl,rfl⟩ - H;rw [is1 V 10] at H;refine kH H (Pt dN O (Rm O (Sp 78 O ?_ ?_))) <;> clear H
                  ·intro dH a H
                   try have Af:=dT dH
                   first
                   | (exfalso;omega)
                   | (exact absurd dH Y)
                   |skip
                    refine kH H (YM dH O (YM dH O ?_));clear H;intro a H;refine wE _ H (wg H O O dH) O O O V V O ?_;clear H;intro a H;refine bD jv fZ (n - 1) H (wg H O O dH) O O V V O ?_;clear H;intro a H;refine bV fZ (cs:=[_,_,_]) H (wg H O O dH) O O (fun j v hj=>H.hp.aS (lu dh (k:=(n - 1)) V j v hj)) O ?_;clear H;intro a H;refine eU cB aC [_] [_] H (wg H O O dH) O O O O O (by intro i q h;match i,h with|0,h=>exact h|n+1,h=>simp at h) O O ?_;clear H;intro IE a w JB H;obtain ⟨Gq,iw,hq,H⟩:=H.nu (sz:=1) (d:=gJ 6) O (ny _ 6);replace dh:=dh.mono iw;refine s_call mq H (wg H O O dH) O (mF _ _ H.ro l[(n - 1)] [6] _ hq) O ?_;clear H;rintro v85 _ a w ⟨rfl,rfl⟩ - H;rw [is1 V 6] at H;refine kH H (Pt dH O (Rm O (Sp 87 O ?_ ?_))) <;> clear H
                    ·intro h87 a H
                     try have Ag:=dT h87
                     first
                     | (exfalso;omega)
                     | (exact absurd h87 Y)
                     |skip
                      refine kH H (YM h87 O (YM h87 O ?_));clear H;intro a H;refine nQ _ H (wg H O O h87) O O O V V O ?_;clear H;intro a H;refine bD jv fZ (n+1) H (wg H O O h87) O O V V O ?_;clear H;intro a H;refine bV fZ (cs:=[_,_,_]) H (wg H O O h87) O O (fun j v hj=>H.hp.aS (lu dh (k:=(n+1)) V j v hj)) O ?_;clear H;intro a H;refine eU cB aC [_] [_] H (wg H O O h87) O O O O O (by intro i q h;match i,h with|0,h=>exact h|n+1,h=>simp at h) O O ?_;clear H;intro IG a w JC H;obtain ⟨Gq,iw,hq,H⟩:=H.nu (sz:=1) (d:=gJ 6) O (ny _ 6);replace dh:=dh.mono iw;refine s_call mq H (wg H O O h87) O (mF _ _ H.ro l[(n+1)] [6] _ hq) O ?_;clear H;rintro KZ _ a w ⟨rfl,rfl⟩ - H;rw [is1 V 6] at H;refine kH H (Pt h87 O (av aP O (Cd O ?_ ?_))) <;> clear H aP
                      ·intro iH a H
                       try have p60:=dT iH
                       first
                       | (exfalso;omega)
                       | (exact absurd iH Y)
                       |skip
                        refine kP H (Kc K6 (SC (Rm O (Rd O (Ra O ?_)))));clear H K6;intro a H;refine aj ?_;refine bE ((n+1,f - 1,kd,Gq)) (by exact H.sub ⟨O,O,O,aI⟩) ?_
                        (try dsimp only);exact ⟨V,V,by rw [aN (show okW l n=true by simp only [okW,dU];omega),aL (show ¬ jF l n=5 by omega)] at heq;exact heq,dh⟩
                      intro iH a H
                      try have p60:=dF iH
                      first
                      | (exfalso;omega)
                      | (exact absurd iH Y)
                      |skip
                       refine kP H (SR fun _ aT=>Rm O (Rm O (Ra O (av aT O ?_))));clear H aT;intro a H;refine aU ?_;refine (bK H results95 (.cons (aG H O) (.cons (aG H O) .nil)) ?_).1
                       have hfin:(n,kd)=jY l:=by
                        first
                         | exact heq
                         | (rw [aL (show ¬ okW l n=true by simp only [okW,dU];omega)] at heq;exact heq)
                       exact H.rt (by rw [<- hfin])
                    intro h87 a H
                    try have Ag:=dF h87
                    first
                    | (exfalso;omega)
                    | (exact absurd h87 Y)
                    |skip
                     refine kH H (aV h87 O (aO h87 O (aO h87 O (Pf h87 O (av aP O (Cf O O (SR fun _ bH=>Rm O (Rm O (Ra O (av bH O ?_))))))))));clear H aP bH;intro a H;refine aU ?_;refine (bK H results95 (.cons (aG H O) (.cons (aG H O) .nil)) ?_).1
                     have hfin:(n,kd)=jY l:=by
                      first
                       | exact heq
                       | (rw [aL (show ¬ okW l n=true by simp only [okW,dU];omega)] at heq;exact heq)
                     exact H.rt (by rw [<- hfin])
                  intro dH a H
                  try have Af:=dF dH
                  first
                  | (exfalso;omega)
                  | (exact absurd dH Y)
                  |skip
                   refine kH H (aV dH O (aO dH O (aO dH O (Pf dH O (Rm O (aV O O (aO O O (aO O O (Pf O O (av aP O (Cf O O (SR fun _ bG=>Rm O (Rm O (Ra O (av bG O ?_)))))))))))))));clear H aP bG;intro a H;refine aU ?_;refine (bK H results95 (.cons (aG H O) (.cons (aG H O) .nil)) ?_).1
                   have hfin:(n,kd)=jY l:=by
                    first
                     | exact heq
                     | (rw [aL (show ¬ okW l n=true by simp only [okW,dU];omega)] at heq;exact heq)
                   exact H.rt (by rw [<- hfin])
                intro dN a H
                try have p70:=dF dN
                first
                | (exfalso;omega)
                | (exact absurd dN Y)
                |skip
                 refine kH H (aV dN O (aV dN O (Pf dN O (Rm O (aV O O (aO O O (aO O O (Pf O O (Rm O (aV O O (aO O O (aO O O (Pf O O (av aP O (Cf O O (SR fun _ bX=>Rm O (Rm O (Ra O (av bX O ?_)))))))))))))))))));clear H aP bX;intro a H;refine aU ?_;refine (bK H results95 (.cons (aG H O) (.cons (aG H O) .nil)) ?_).1
                 have hfin:(n,kd)=jY l:=by
                  first
                   | exact heq
                   | (rw [aL (show ¬ okW l n=true by simp only [okW,dU];omega)] at heq;exact heq)
                 exact H.rt (by rw [<- hfin])
              intro h63 a H
              try have p63:=dF h63
              first
              | (exfalso;omega)
              | (exact absurd h63 Y)
              |skip
               refine kH H (aV h63 O (aO h63 O (Pf h63 O (Rm O (aV O O (aV O O (Pf O O (Rm O (aV O O (aO O O (aO O O (Pf O O (Rm O (aV O O (aO O O (aO O O (Pf O O (av aP O (Cf O O (SR fun _ dG=>Rm O (Rm O (Ra O (Ra O ?_)))))))))))))))))))))));clear H aP;intro a H;refine dG _ _ ?_;clear dG;refine aU ?_;refine (bK H results95 (.cons (aG H O) (.cons (aG H O) .nil)) ?_).1
               have hfin:(n,kd)=jY l:=by
                first
                 | exact heq
                 | (rw [aL (show ¬ okW l n=true by simp only [okW,dU];omega)] at heq;exact heq)
               exact H.rt (by rw [<- hfin])
           intro kI a H
           try have p51:=dF kI
           first
           | (exfalso;omega)
           | (exact absurd kI Y)
           |skip
            refine kH H (aV kI O (aO kI O (aO kI O (Pf kI O (av K9 O (Cf O O (SR fun _ dR=>Rm O (Rc O (Rm O (Sp 63 O ?_ ?_)))))))))) <;> clear H K9
            ·intro h63 a H
             try have p63:=dT h63
             first
             | (exfalso;omega)
             | (exact absurd h63 Y)
             |skip
              refine kH H (YM h63 O ?_);clear H;intro a H;refine nQ _ H (wg H O O h63) O O O V V O ?_;clear H;intro a H;refine kH H (YM h63 O (YL jv h63 O (YC h63 O (Pt h63 O (Rm O (Sp 70 O ?_ ?_)))))) <;> clear H
              ·intro dN a H
               try have p70:=dT dN
               first
               | (exfalso;omega)
               | (exact absurd dN Y)
               |skip
                refine kH H (YM dN O (YM dN O ?_));clear H;intro a H;refine bD jv fZ n H (wg H O O dN) O O V V O ?_;clear H;intro a H;refine bV fZ (cs:=[_,_,_]) H (wg H O O dN) O O (fun j v hj=>H.hp.aS (lu dh (k:=n) V j v hj)) O ?_;clear H;intro a H;refine eU cB aC [_] [_] H (wg H O O dN) O O O O O (by intro i q h;match i,h with|0,h=>exact h|n+1,h=>simp at h) O O ?_;clear H;intro IC a w JA H;obtain ⟨Gq,iw,hq,H⟩:=H.nu (sz:=1) (d:=gJ 10) O (ny _ 10);replace dh:=dh.mono iw;refine s_call mq H (wg H O O dN) O (mF _ _ H.ro l[n] [10] _ hq) O ?_;clear H;rintro v76 _ a w ⟨rfl,rfl⟩ - H;rw [is1 V 10] at H;refine kH H (Pt dN O (Rm O (Sp 78 O ?_ ?_))) <;> clear H
                ·intro dH a H
                 try have Af:=dT dH
                 first
                 | (exfalso;omega)
                 | (exact absurd dH Y)
                 |skip
                  refine kH H (YM dH O (YM dH O ?_));clear H;intro a H;refine wE _ H (wg H O O dH) O O O V V O ?_;clear H;intro a H;refine bD jv fZ (n - 1) H (wg H O O dH) O O V V O ?_;clear H;intro a H;refine bV fZ (cs:=[_,_,_]) H (wg H O O dH) O O (fun j v hj=>H.hp.aS (lu dh (k:=(n - 1)) V j v hj)) O ?_;clear H;intro a H;refine eU cB aC [_] [_] H (wg H O O dH) O O O O O (by intro i q h;match i,h with|0,h=>exact h|n+1,h=>simp at h) O O ?_;clear H;intro IE a w JB H;obtain ⟨Gq,iw,hq,H⟩:=H.nu (sz:=1) (d:=gJ 6) O (ny _ 6);replace dh:=dh.mono iw;refine s_call mq H (wg H O O dH) O (mF _ _ H.ro l[(n - 1)] [6] _ hq) O ?_;clear H;rintro v85 _ a w ⟨rfl,rfl⟩ - H;rw [is1 V 6] at H;refine kH H (Pt dH O (Rm O (Sp 87 O ?_ ?_))) <;> clear H
                  ·intro h87 a H
                   try have Ag:=dT h87
                   first
                   | (exfalso;omega)
                   | (exact absurd h87 Y)
                   |skip
                    refine kH H (YM h87 O (YM h87 O ?_));clear H;intro a H;refine nQ _ H (wg H O O h87) O O O V V O ?_;clear H;intro a H;refine bD jv fZ (n+1) H (wg H O O h87) O O V V O ?_;clear H;intro a H;refine bV fZ (cs:=[_,_,_]) H (wg H O O h87) O O (fun j v hj=>H.hp.aS (lu dh (k:=(n+1)) V j v hj)) O ?_;clear H;intro a H;refine eU cB aC [_] [_] H (wg H O O h87) O O O O O (by intro i q h;match i,h with|0,h=>exact h|n+1,h=>simp at h) O O ?_;clear H;intro IG a w JC H;obtain ⟨Gq,iw,hq,H⟩:=H.nu (sz:=1) (d:=gJ 6) O (ny _ 6);replace dh:=dh.mono iw;refine s_call mq H (wg H O O h87) O (mF _ _ H.ro l[(n+1)] [6] _ hq) O ?_;clear H;rintro KZ _ a w ⟨rfl,rfl⟩ - H;rw [is1 V 6] at H;refine kH H (Pt h87 O (av dR O (Cd O ?_ ?_))) <;> clear H dR
                    ·intro iH a H
                     try have p60:=dT iH
                     first
                     | (exfalso;omega)
                     | (exact absurd iH Y)
                     |skip
                      refine kP H (Kc K6 (SC (Rm O (Rd O (Ra O ?_)))));clear H K6;intro a H;refine aj ?_;refine bE ((n+1,f - 1,kd,Gq)) (by exact H.sub ⟨O,O,O,aI⟩) ?_
                      (try dsimp only);exact ⟨V,V,by rw [aN (show okW l n=true by simp only [okW,dU];omega),aL (show ¬ jF l n=5 by omega)] at heq;exact heq,dh⟩
                    intro iH a H
                    try have p60:=dF iH
                    first
                    | (exfalso;omega)
                    | (exact absurd iH Y)
                    |skip
                     refine kP H (SR fun _ fu=>Rm O (Rm O (Ra O (av fu O ?_))));clear H fu;intro a H;refine aU ?_;refine (bK H results95 (.cons (aG H O) (.cons (aG H O) .nil)) ?_).1
                     have hfin:(n,kd)=jY l:=by
                      first
                       | exact heq
                       | (rw [aL (show ¬ okW l n=true by simp only [okW,dU];omega)] at heq;exact heq)
                     exact H.rt (by rw [<- hfin])
                  intro h87 a H
                  try have Ag:=dF h87
                  first
                  | (exfalso;omega)
                  | (exact absurd h87 Y)
                  |skip
                   refine kH H (aV h87 O (aO h87 O (aO h87 O (Pf h87 O (av dR O (Cf O O (SR fun _ gF=>Rm O (Rm O (Ra O (av gF O ?_))))))))));clear H dR gF;intro a H;refine aU ?_;refine (bK H results95 (.cons (aG H O) (.cons (aG H O) .nil)) ?_).1
                   have hfin:(n,kd)=jY l:=by
                    first
                     | exact heq
                     | (rw [aL (show ¬ okW l n=true by simp only [okW,dU];omega)] at heq;exact heq)
                   exact H.rt (by rw [<- hfin])
                intro dH a H
                try have Af:=dF dH
                first
                | (exfalso;omega)
                | (exact absurd dH Y)
                |skip
                 refine kH H (aV dH O (aO dH O (aO dH O (Pf dH O (Rm O (aV O O (aO O O (aO O O (Pf O O (av dR O (Cf O O (SR fun _ fU=>Rm O (Rm O (Ra O (av fU O ?_)))))))))))))));clear H dR fU;intro a H;refine aU ?_;refine (bK H results95 (.cons (aG H O) (.cons (aG H O) .nil)) ?_).1
                 have hfin:(n,kd)=jY l:=by
                  first
                   | exact heq
                   | (rw [aL (show ¬ okW l n=true by simp only [okW,dU];omega)] at heq;exact heq)
                 exact H.rt (by rw [<- hfin])
              intro dN a H
              try have p70:=dF dN
              first
              | (exfalso;omega)
              | (exact absurd dN Y)
              |skip
               refine kH H (aV dN O (aV dN O (Pf dN O (Rm O (aV O O (aO O O (aO O O (Pf O O (Rm O (aV O O (aO O O (aO O O (Pf O O (av dR O (Cf O O (SR fun _ jd=>Rm O (Rm O (Ra O (av jd O ?_)))))))))))))))))));clear H dR jd;intro a H;refine aU ?_;refine (bK H results95 (.cons (aG H O) (.cons (aG H O) .nil)) ?_).1
               have hfin:(n,kd)=jY l:=by
                first
                 | exact heq
                 | (rw [aL (show ¬ okW l n=true by simp only [okW,dU];omega)] at heq;exact heq)
               exact H.rt (by rw [<- hfin])
            intro h63 a H
            try have p63:=dF h63
            first
            | (exfalso;omega)
            | (exact absurd h63 Y)
            |skip
             refine kH H (aV h63 O (aO h63 O (Pf h63 O (Rm O (aV O O (aV O O (Pf O O (Rm O (aV O O (aO O O (aO O O (Pf O O (Rm O (aV O O (aO O O (aO O O (Pf O O (av dR O (Cf O O (SR fun _ jf=>Rm O (Rm O (Ra O (Ra O ?_)))))))))))))))))))))));clear H dR;intro a H;refine jf _ _ ?_;clear jf;refine aU ?_;refine (bK H results95 (.cons (aG H O) (.cons (aG H O) .nil)) ?_).1
             have hfin:(n,kd)=jY l:=by
              first
               | exact heq
               | (rw [aL (show ¬ okW l n=true by simp only [okW,dU];omega)] at heq;exact heq)
             exact H.rt (by rw [<- hfin])
         intro iQ a H
         try have p42:=dF iQ
         first
         | (exfalso;omega)
         | (exact absurd iQ Y)
         |skip
          refine kH H (aV iQ O (aO iQ O (aO iQ O (Pf iQ O (Rm O (aV O O (aO O O (aO O O (Pf O O (av K9 O (Cf O O (SR fun _ iF=>Rm O (Rc O (Rm O (Sp 63 O ?_ ?_))))))))))))))) <;> clear H K9
          ·intro h63 a H
           try have p63:=dT h63
           first
           | (exfalso;omega)
           | (exact absurd h63 Y)
           |skip
            refine kH H (YM h63 O ?_);clear H;intro a H;refine nQ _ H (wg H O O h63) O O O V V O ?_;clear H;intro a H;refine kH H (YM h63 O (YL jv h63 O (YC h63 O (Pt h63 O (Rm O (Sp 70 O ?_ ?_)))))) <;> clear H
            ·intro dN a H
             try have p70:=dT dN
             first
             | (exfalso;omega)
             | (exact absurd dN Y)
             |skip
              refine kH H (YM dN O (YM dN O ?_));clear H;intro a H;refine bD jv fZ n H (wg H O O dN) O O V V O ?_;clear H;intro a H;refine bV fZ (cs:=[_,_,_]) H (wg H O O dN) O O (fun j v hj=>H.hp.aS (lu dh (k:=n) V j v hj)) O ?_;clear H;intro a H;refine eU cB aC [_] [_] H (wg H O O dN) O O O O O (by intro i q h;match i,h with|0,h=>exact h|n+1,h=>simp at h) O O ?_;clear H;intro IC a w JA H;obtain ⟨Gq,iw,hq,H⟩:=H.nu (sz:=1) (d:=gJ 10) O (ny _ 10);replace dh:=dh.mono iw;refine s_call mq H (wg H O O dN) O (mF _ _ H.ro l[n] [10] _ hq) O ?_;clear H;rintro v76 _ a w ⟨rfl,rfl⟩ - H;rw [is1 V 10] at H;refine kH H (Pt dN O (Rm O (Sp 78 O ?_ ?_))) <;> clear H
              ·intro dH a H
               try have Af:=dT dH
               first
               | (exfalso;omega)
               | (exact absurd dH Y)
               |skip
                refine kH H (YM dH O (YM dH O ?_));clear H;intro a H;refine wE _ H (wg H O O dH) O O O V V O ?_;clear H;intro a H;refine bD jv fZ (n - 1) H (wg H O O dH) O O V V O ?_;clear H;intro a H;refine bV fZ (cs:=[_,_,_]) H (wg H O O dH) O O (fun j v hj=>H.hp.aS (lu dh (k:=(n - 1)) V j v hj)) O ?_;clear H;intro a H;refine eU cB aC [_] [_] H (wg H O O dH) O O O O O (by intro i q h;match i,h with|0,h=>exact h|n+1,h=>simp at h) O O ?_;clear H;intro IE a w JB H;obtain ⟨Gq,iw,hq,H⟩:=H.nu (sz:=1) (d:=gJ 6) O (ny _ 6);replace dh:=dh.mono iw;refine s_call mq H (wg H O O dH) O (mF _ _ H.ro l[(n - 1)] [6] _ hq) O ?_;clear H;rintro v85 _ a w ⟨rfl,rfl⟩ - H;rw [is1 V 6] at H;refine kH H (Pt dH O (Rm O (Sp 87 O ?_ ?_))) <;> clear H
                ·intro h87 a H
                 try have Ag:=dT h87
                 first
                 | (exfalso;omega)
                 | (exact absurd h87 Y)
                 |skip
                  refine kH H (YM h87 O (YM h87 O ?_));clear H;intro a H;refine nQ _ H (wg H O O h87) O O O V V O ?_;clear H;intro a H;refine bD jv fZ (n+1) H (wg H O O h87) O O V V O ?_;clear H;intro a H;refine bV fZ (cs:=[_,_,_]) H (wg H O O h87) O O (fun j v hj=>H.hp.aS (lu dh (k:=(n+1)) V j v hj)) O ?_;clear H;intro a H;refine eU cB aC [_] [_] H (wg H O O h87) O O O O O (by intro i q h;match i,h with|0,h=>exact h|n+1,h=>simp at h) O O ?_;clear H;intro IG a w JC H;obtain ⟨Gq,iw,hq,H⟩:=H.nu (sz:=1) (d:=gJ 6) O (ny _ 6);replace dh:=dh.mono iw;refine s_call mq H (wg H O O h87) O (mF _ _ H.ro l[(n+1)] [6] _ hq) O ?_;clear H;rintro KZ _ a w ⟨rfl,rfl⟩ - H;rw [is1 V 6] at H;refine kH H (Pt h87 O (av iF O (Cd O ?_ ?_))) <;> clear H iF
                  ·intro iH a H
                   try have p60:=dT iH
                   first
                   | (exfalso;omega)
                   | (exact absurd iH Y)
                   |skip
                    refine kP H (Kc K6 (SC (Rm O (Rd O (Ra O ?_)))));clear H K6;intro a H;refine aj ?_;refine bE ((n+1,f - 1,kd,Gq)) (by exact H.sub ⟨O,O,O,aI⟩) ?_
                    (try dsimp only);exact ⟨V,V,by rw [aN (show okW l n=true by simp only [okW,dU];omega),aL (show ¬ jF l n=5 by omega)] at heq;exact heq,dh⟩
                  intro iH a H
                  try have p60:=dF iH
                  first
                  | (exfalso;omega)
                  | (exact absurd iH Y)
                  |skip
                   refine kP H (SR fun _ jM=>Rm O (Rm O (Ra O (av jM O ?_))));clear H jM;intro a H;refine aU ?_;refine (bK H results95 (.cons (aG H O) (.cons (aG H O) .nil)) ?_).1
                   have hfin:(n,kd)=jY l:=by
                    first
                     | exact heq
                     | (rw [aL (show ¬ okW l n=true by simp only [okW,dU];omega)] at heq;exact heq)
                   exact H.rt (by rw [<- hfin])
                intro h87 a H
                try have Ag:=dF h87
                first
                | (exfalso;omega)
                | (exact absurd h87 Y)
                |skip
                 refine kH H (aV h87 O (aO h87 O (aO h87 O (Pf h87 O (av iF O (Cf O O (SR fun _ iI=>Rm O (Rm O (Ra O (av iI O ?_))))))))));clear H iF iI;intro a H;refine aU ?_;refine (bK H results95 (.cons (aG H O) (.cons (aG H O) .nil)) ?_).1
                 have hfin:(n,kd)=jY l:=by
                  first
                   | exact heq
                   | (rw [aL (show ¬ okW l n=true by simp only [okW,dU];omega)] at heq;exact heq)
                 exact H.rt (by rw [<- hfin])
              intro dH a H
              try have Af:=dF dH
              first
              | (exfalso;omega)
              | (exact absurd dH Y)
              |skip
               refine kH H (aV dH O (aO dH O (aO dH O (Pf dH O (Rm O (aV O O (aO O O (aO O O (Pf O O (av iF O (Cf O O (SR fun _ lJ=>Rm O (Rm O (Ra O (av lJ O ?_)))))))))))))));clear H iF lJ;intro a H;refine aU ?_;refine (bK H results95 (.cons (aG H O) (.cons (aG H O) .nil)) ?_).1
               have hfin:(n,kd)=jY l:=by
                first
                 | exact heq
                 | (rw [aL (show ¬ okW l n=true by simp only [okW,dU];omega)] at heq;exact heq)
               exact H.rt (by rw [<- hfin])
            intro dN a H
            try have p70:=dF dN
            first
            | (exfalso;omega)
            | (exact absurd dN Y)
            |skip
             refine kH H (aV dN O (aV dN O (Pf dN O (Rm O (aV O O (aO O O (aO O O (Pf O O (Rm O (aV O O (aO O O (aO O O (Pf O O (av iF O (Cf O O (SR fun _ lK=>Rm O (Rm O (Ra O (av lK O ?_)))))))))))))))))));clear H iF lK;intro a H;refine aU ?_;refine (bK H results95 (.cons (aG H O) (.cons (aG H O) .nil)) ?_).1
             have hfin:(n,kd)=jY l:=by
              first
               | exact heq
               | (rw [aL (show ¬ okW l n=true by simp only [okW,dU];omega)] at heq;exact heq)
             exact H.rt (by rw [<- hfin])
          intro h63 a H
          try have p63:=dF h63
          first
          | (exfalso;omega)
          | (exact absurd h63 Y)
          |skip
           refine kH H (aV h63 O (aO h63 O (Pf h63 O (Rm O (aV O O (aV O O (Pf O O (Rm O (aV O O (aO O O (aO O O (Pf O O (Rm O (aV O O (aO O O (aO O O (Pf O O (av iF O (Cf O O (SR fun _ oh=>Rm O (Rm O (Ra O (Ra O ?_)))))))))))))))))))))));clear H iF;intro a H;refine oh _ _ ?_;clear oh;refine aU ?_;refine (bK H results95 (.cons (aG H O) (.cons (aG H O) .nil)) ?_).1
           have hfin:(n,kd)=jY l:=by
            first
             | exact heq
             | (rw [aL (show ¬ okW l n=true by simp only [okW,dU];omega)] at heq;exact heq)
           exact H.rt (by rw [<- hfin])
       intro kG a H
       try have p34:=dF kG
       first
       | (exfalso;omega)
       | (exact absurd kG Y)
       |skip
        refine kH H (aV kG O (aV kG O (Pf kG O (Rm O (aV O O (aO O O (aO O O (Pf O O (Rm O (aV O O (aO O O (aO O O (Pf O O (av K9 O (Cf O O (SR fun _ jE=>Rm O (Rc O (Rm O (Sp 63 O ?_ ?_))))))))))))))))))) <;> clear H K9
        ·intro h63 a H
         try have p63:=dT h63
         first
         | (exfalso;omega)
         | (exact absurd h63 Y)
         |skip
          refine kH H (YM h63 O ?_);clear H;intro a H;refine nQ _ H (wg H O O h63) O O O V V O ?_;clear H;intro a H;refine kH H (YM h63 O (YL jv h63 O (YC h63 O (Pt h63 O (Rm O (Sp 70 O ?_ ?_)))))) <;> clear H
          ·intro dN a H
           try have p70:=dT dN
           first
           | (exfalso;omega)
           | (exact absurd dN Y)
           |skip
            refine kH H (YM dN O (YM dN O ?_));clear H;intro a H;refine bD jv fZ n H (wg H O O dN) O O V V O ?_;clear H;intro a H;refine bV fZ (cs:=[_,_,_]) H (wg H O O dN) O O (fun j v hj=>H.hp.aS (lu dh (k:=n) V j v hj)) O ?_;clear H;intro a H;refine eU cB aC [_] [_] H (wg H O O dN) O O O O O (by intro i q h;match i,h with|0,h=>exact h|n+1,h=>simp at h) O O ?_;clear H;intro IC a w JA H;obtain ⟨Gq,iw,hq,H⟩:=H.nu (sz:=1) (d:=gJ 10) O (ny _ 10);replace dh:=dh.mono iw;refine s_call mq H (wg H O O dN) O (mF _ _ H.ro l[n] [10] _ hq) O ?_;clear H;rintro v76 _ a w ⟨rfl,rfl⟩ - H;rw [is1 V 10] at H;refine kH H (Pt dN O (Rm O (Sp 78 O ?_ ?_))) <;> clear H
            ·intro dH a H
             try have Af:=dT dH
             first
             | (exfalso;omega)
             | (exact absurd dH Y)
             |skip
              refine kH H (YM dH O (YM dH O ?_));clear H;intro a H;refine wE _ H (wg H O O dH) O O O V V O ?_;clear H;intro a H;refine bD jv fZ (n - 1) H (wg H O O dH) O O V V O ?_;clear H;intro a H;refine bV fZ (cs:=[_,_,_]) H (wg H O O dH) O O (fun j v hj=>H.hp.aS (lu dh (k:=(n - 1)) V j v hj)) O ?_;clear H;intro a H;refine eU cB aC [_] [_] H (wg H O O dH) O O O O O (by intro i q h;match i,h with|0,h=>exact h|n+1,h=>simp at h) O O ?_;clear H;intro IE a w JB H;obtain ⟨Gq,iw,hq,H⟩:=H.nu (sz:=1) (d:=gJ 6) O (ny _ 6);replace dh:=dh.mono iw;refine s_call mq H (wg H O O dH) O (mF _ _ H.ro l[(n - 1)] [6] _ hq) O ?_;clear H;rintro v85 _ a w ⟨rfl,rfl⟩ - H;rw [is1 V 6] at H;refine kH H (Pt dH O (Rm O (Sp 87 O ?_ ?_))) <;> clear H
              ·intro h87 a H
               try have Ag:=dT h87
               first
               | (exfalso;omega)
               | (exact absurd h87 Y)
               |skip
                refine kH H (YM h87 O (YM h87 O ?_));clear H;intro a H;refine nQ _ H (wg H O O h87) O O O V V O ?_;clear H;intro a H;refine bD jv fZ (n+1) H (wg H O O h87) O O V V O ?_;clear H;intro a H;refine bV fZ (cs:=[_,_,_]) H (wg H O O h87) O O (fun j v hj=>H.hp.aS (lu dh (k:=(n+1)) V j v hj)) O ?_;clear H;intro a H;refine eU cB aC [_] [_] H (wg H O O h87) O O O O O (by intro i q h;match i,h with|0,h=>exact h|n+1,h=>simp at h) O O ?_;clear H;intro IG a w JC H;obtain ⟨Gq,iw,hq,H⟩:=H.nu (sz:=1) (d:=gJ 6) O (ny _ 6);replace dh:=dh.mono iw;refine s_call mq H (wg H O O h87) O (mF _ _ H.ro l[(n+1)] [6] _ hq) O ?_;clear H;rintro KZ _ a w ⟨rfl,rfl⟩ - H;rw [is1 V 6] at H;refine kH H (Pt h87 O (av jE O (Cd O ?_ ?_))) <;> clear H jE
                ·intro iH a H
                 try have p60:=dT iH
                 first
                 | (exfalso;omega)
                 | (exact absurd iH Y)
                 |skip
                  refine kP H (Kc K6 (SC (Rm O (Rd O (Ra O ?_)))));clear H K6;intro a H;refine aj ?_;refine bE ((n+1,f - 1,kd,Gq)) (by exact H.sub ⟨O,O,O,aI⟩) ?_
                  (try dsimp only);exact ⟨V,V,by rw [aN (show okW l n=true by simp only [okW,dU];omega),aL (show ¬ jF l n=5 by omega)] at heq;exact heq,dh⟩
                intro iH a H
                try have p60:=dF iH
                first
                | (exfalso;omega)
                | (exact absurd iH Y)
                |skip
                 refine kP H (SR fun _ mM=>Rm O (Rm O (Ra O (av mM O ?_))));clear H mM;intro a H;refine aU ?_;refine (bK H results95 (.cons (aG H O) (.cons (aG H O) .nil)) ?_).1
                 have hfin:(n,kd)=jY l:=by
                  first
                   | exact heq
                   | (rw [aL (show ¬ okW l n=true by simp only [okW,dU];omega)] at heq;exact heq)
                 exact H.rt (by rw [<- hfin])
              intro h87 a H
              try have Ag:=dF h87
              first
              | (exfalso;omega)
              | (exact absurd h87 Y)
              |skip
               refine kH H (aV h87 O (aO h87 O (aO h87 O (Pf h87 O (av jE O (Cf O O (SR fun _ nI=>Rm O (Rm O (Ra O (av nI O ?_))))))))));clear H jE nI;intro a H;refine aU ?_;refine (bK H results95 (.cons (aG H O) (.cons (aG H O) .nil)) ?_).1
               have hfin:(n,kd)=jY l:=by
                first
                 | exact heq
                 | (rw [aL (show ¬ okW l n=true by simp only [okW,dU];omega)] at heq;exact heq)
               exact H.rt (by rw [<- hfin])
            intro dH a H
            try have Af:=dF dH
            first
            | (exfalso;omega)
            | (exact absurd dH Y)
            |skip
             refine kH H (aV dH O (aO dH O (aO dH O (Pf dH O (Rm O (aV O O (aO O O (aO O O (Pf O O (av jE O (Cf O O (SR fun _ lM=>Rm O (Rm O (Ra O (av lM O ?_)))))))))))))));clear H jE lM;intro a H;refine aU ?_;refine (bK H results95 (.cons (aG H O) (.cons (aG H O) .nil)) ?_).1
             have hfin:(n,kd)=jY l:=by
              first
               | exact heq
               | (rw [aL (show ¬ okW l n=true by simp only [okW,dU];omega)] at heq;exact heq)
             exact H.rt (by rw [<- hfin])
          intro dN a H
          try have p70:=dF dN
          first
          | (exfalso;omega)
          | (exact absurd dN Y)
          |skip
           refine kH H (aV dN O (aV dN O (Pf dN O (Rm O (aV O O (aO O O (aO O O (Pf O O (Rm O (aV O O (aO O O (aO O O (Pf O O (av jE O (Cf O O (SR fun _ qy=>Rm O (Rm O (Ra O (av qy O ?_)))))))))))))))))));clear H jE qy;intro a H;refine aU ?_;refine (bK H results95 (.cons (aG H O) (.cons (aG H O) .nil)) ?_).1
           have hfin:(n,kd)=jY l:=by
            first
             | exact heq
             | (rw [aL (show ¬ okW l n=true by simp only [okW,dU];omega)] at heq;exact heq)
           exact H.rt (by rw [<- hfin])
        intro h63 a H
        try have p63:=dF h63
        first
        | (exfalso;omega)
        | (exact absurd h63 Y)
        |skip
         refine kH H (aV h63 O (aO h63 O (Pf h63 O (Rm O (aV O O (aV O O (Pf O O (Rm O (aV O O (aO O O (aO O O (Pf O O (Rm O (aV O O (aO O O (aO O O (Pf O O (av jE O (Cf O O (SR fun _ qz=>Rm O (Rm O (Ra O (Ra O ?_)))))))))))))))))))))));clear H jE;intro a H;refine qz _ _ ?_;clear qz;refine aU ?_;refine (bK H results95 (.cons (aG H O) (.cons (aG H O) .nil)) ?_).1
         have hfin:(n,kd)=jY l:=by
          first
           | exact heq
           | (rw [aL (show ¬ okW l n=true by simp only [okW,dU];omega)] at heq;exact heq)
         exact H.rt (by rw [<- hfin])
     intro h27 a H
     try have p27:=dF h27
     first
     | (exfalso;omega)
     | (exact absurd h27 Y)
     |skip
      refine kH H (aV h27 O (aO h27 O (Pf h27 O (Rm O (aV O O (aV O O (Pf O O (Rm O (aV O O (aO O O (aO O O (Pf O O (Rm O (aV O O (aO O O (aO O O (Pf O O (av K9 O (Cf O O (SR fun _ nJ=>Rm O (Rc O (Rm O (Sp 63 O ?_ ?_))))))))))))))))))))))) <;> clear H K9
      ·intro h63 a H
       try have p63:=dT h63
       first
       | (exfalso;omega)
       | (exact absurd h63 Y)
       |skip
        refine kH H (YM h63 O ?_);clear H;intro a H;refine nQ _ H (wg H O O h63) O O O V V O ?_;clear H;intro a H;refine kH H (YM h63 O (YL jv h63 O (YC h63 O (Pt h63 O (Rm O (Sp 70 O ?_ ?_)))))) <;> clear H
        ·intro dN a H
         try have p70:=dT dN
         first
         | (exfalso;omega)
         | (exact absurd dN Y)
         |skip
          refine kH H (YM dN O (YM dN O ?_));clear H;intro a H;refine bD jv fZ n H (wg H O O dN) O O V V O ?_;clear H;intro a H;refine bV fZ (cs:=[_,_,_]) H (wg H O O dN) O O (fun j v hj=>H.hp.aS (lu dh (k:=n) V j v hj)) O ?_;clear H;intro a H;refine eU cB aC [_] [_] H (wg H O O dN) O O O O O (by intro i q h;match i,h with|0,h=>exact h|n+1,h=>simp at h) O O ?_;clear H;intro IC a w JA H;obtain ⟨Gq,iw,hq,H⟩:=H.nu (sz:=1) (d:=gJ 10) O (ny _ 10);replace dh:=dh.mono iw;refine s_call mq H (wg H O O dN) O (mF _ _ H.ro l[n] [10] _ hq) O ?_;clear H;rintro v76 _ a w ⟨rfl,rfl⟩ - H;rw [is1 V 10] at H;refine kH H (Pt dN O (Rm O (Sp 78 O ?_ ?_))) <;> clear H
          ·intro dH a H
           try have Af:=dT dH
           first
           | (exfalso;omega)
           | (exact absurd dH Y)
           |skip
            refine kH H (YM dH O (YM dH O ?_));clear H;intro a H;refine wE _ H (wg H O O dH) O O O V V O ?_;clear H;intro a H;refine bD jv fZ (n - 1) H (wg H O O dH) O O V V O ?_;clear H;intro a H;refine bV fZ (cs:=[_,_,_]) H (wg H O O dH) O O (fun j v hj=>H.hp.aS (lu dh (k:=(n - 1)) V j v hj)) O ?_;clear H;intro a H;refine eU cB aC [_] [_] H (wg H O O dH) O O O O O (by intro i q h;match i,h with|0,h=>exact h|n+1,h=>simp at h) O O ?_;clear H;intro IE a w JB H;obtain ⟨Gq,iw,hq,H⟩:=H.nu (sz:=1) (d:=gJ 6) O (ny _ 6);replace dh:=dh.mono iw;refine s_call mq H (wg H O O dH) O (mF _ _ H.ro l[(n - 1)] [6] _ hq) O ?_;clear H;rintro v85 _ a w ⟨rfl,rfl⟩ - H;rw [is1 V 6] at H;refine kH H (Pt dH O (Rm O (Sp 87 O ?_ ?_))) <;> clear H
            ·intro h87 a H
             try have Ag:=dT h87
             first
             | (exfalso;omega)
             | (exact absurd h87 Y)
             |skip
              refine kH H (YM h87 O (YM h87 O ?_));clear H;intro a H;refine nQ _ H (wg H O O h87) O O O V V O ?_;clear H;intro a H;refine bD jv fZ (n+1) H (wg H O O h87) O O V V O ?_;clear H;intro a H;refine bV fZ (cs:=[_,_,_]) H (wg H O O h87) O O (fun j v hj=>H.hp.aS (lu dh (k:=(n+1)) V j v hj)) O ?_;clear H;intro a H;refine eU cB aC [_] [_] H (wg H O O h87) O O O O O (by intro i q h;match i,h with|0,h=>exact h|n+1,h=>simp at h) O O ?_;clear H;intro IG a w JC H;obtain ⟨Gq,iw,hq,H⟩:=H.nu (sz:=1) (d:=gJ 6) O (ny _ 6);replace dh:=dh.mono iw;refine s_call mq H (wg H O O h87) O (mF _ _ H.ro l[(n+1)] [6] _ hq) O ?_;clear H;rintro KZ _ a w ⟨rfl,rfl⟩ - H;rw [is1 V 6] at H;refine kH H (Pt h87 O (av nJ O (Cd O ?_ ?_))) <;> clear H nJ
              ·intro iH a H
               try have p60:=dT iH
               first
               | (exfalso;omega)
               | (exact absurd iH Y)
               |skip
                refine kP H (Kc K6 (SC (Rm O (Rd O (Ra O ?_)))));clear H K6;intro a H;refine aj ?_;refine bE ((n+1,f - 1,kd,Gq)) (by exact H.sub ⟨O,O,O,aI⟩) ?_
                (try dsimp only);exact ⟨V,V,by rw [aN (show okW l n=true by simp only [okW,dU];omega),aL (show ¬ jF l n=5 by omega)] at heq;exact heq,dh⟩
              intro iH a H
              try have p60:=dF iH
              first
              | (exfalso;omega)
              | (exact absurd iH Y)
              |skip
               refine kP H (SR fun _ lN=>Rm O (Rm O (Ra O (av lN O ?_))));clear H lN;intro a H;refine aU ?_;refine (bK H results95 (.cons (aG H O) (.cons (aG H O) .nil)) ?_).1
               have hfin:(n,kd)=jY l:=by
                first
                 | exact heq
                 | (rw [aL (show ¬ okW l n=true by simp only [okW,dU];omega)] at heq;exact heq)
               exact H.rt (by rw [<- hfin])
            intro h87 a H
            try have Ag:=dF h87
            first
            | (exfalso;omega)
            | (exact absurd h87 Y)
            |skip
             refine kH H (aV h87 O (aO h87 O (aO h87 O (Pf h87 O (av nJ O (Cf O O (SR fun _ rz=>Rm O (Rm O (Ra O (av rz O ?_))))))))));clear H nJ rz;intro a H;refine aU ?_;refine (bK H results95 (.cons (aG H O) (.cons (aG H O) .nil)) ?_).1
             have hfin:(n,kd)=jY l:=by
              first
               | exact heq
               | (rw [aL (show ¬ okW l n=true by simp only [okW,dU];omega)] at heq;exact heq)
             exact H.rt (by rw [<- hfin])
          intro dH a H
          try have Af:=dF dH
          first
          | (exfalso;omega)
          | (exact absurd dH Y)
          |skip
           refine kH H (aV dH O (aO dH O (aO dH O (Pf dH O (Rm O (aV O O (aO O O (aO O O (Pf O O (av nJ O (Cf O O (SR fun _ rC=>Rm O (Rm O (Ra O (av rC O ?_)))))))))))))));clear H nJ rC;intro a H;refine aU ?_;refine (bK H results95 (.cons (aG H O) (.cons (aG H O) .nil)) ?_).1
           have hfin:(n,kd)=jY l:=by
            first
             | exact heq
             | (rw [aL (show ¬ okW l n=true by simp only [okW,dU];omega)] at heq;exact heq)
           exact H.rt (by rw [<- hfin])
        intro dN a H
        try have p70:=dF dN
        first
        | (exfalso;omega)
        | (exact absurd dN Y)
        |skip
         refine kH H (aV dN O (aV dN O (Pf dN O (Rm O (aV O O (aO O O (aO O O (Pf O O (Rm O (aV O O (aO O O (aO O O (Pf O O (av nJ O (Cf O O (SR fun _ tJ=>Rm O (Rm O (Ra O (av tJ O ?_)))))))))))))))))));clear H nJ tJ;intro a H;refine aU ?_;refine (bK H results95 (.cons (aG H O) (.cons (aG H O) .nil)) ?_).1
         have hfin:(n,kd)=jY l:=by
          first
           | exact heq
           | (rw [aL (show ¬ okW l n=true by simp only [okW,dU];omega)] at heq;exact heq)
         exact H.rt (by rw [<- hfin])
      intro h63 a H
      try have p63:=dF h63
      first
      | (exfalso;omega)
      | (exact absurd h63 Y)
      |skip
       refine kH H (aV h63 O (aO h63 O (Pf h63 O (Rm O (aV O O (aV O O (Pf O O (Rm O (aV O O (aO O O (aO O O (Pf O O (Rm O (aV O O (aO O O (aO O O (Pf O O (av nJ O (Cf O O (SR fun _ nK=>Rm O (Rm O (Ra O (Ra O ?_)))))))))))))))))))))));clear H nJ;intro a H;refine nK _ _ ?_;clear nK;refine aU ?_;refine (bK H results95 (.cons (aG H O) (.cons (aG H O) .nil)) ?_).1
       have hfin:(n,kd)=jY l:=by
        first
         | exact heq
         | (rw [aL (show ¬ okW l n=true by simp only [okW,dU];omega)] at heq;exact heq)
       exact H.rt (by rw [<- hfin])
 intro h7 a H
 try have p7:=dF h7
 first
 | (exfalso;omega)
 | (exact absurd h7 Y)
 |skip
  rw [aiY V] at heq;refine dJ ?_;refine K3 _ _ ?_;clear K3;refine kP H (SR fun _ nL=>Rm O (Rm O (Ra O (av nL O ?_))));clear H nL;intro a H;refine aU ?_;refine (bK H results95 (.cons (aG H O) (.cons (aG H O) .nil)) ?_).1
  have hfin:(n,kd)=jY l:=by
   first
    | exact heq
    | (rw [aL (show ¬ okW l n=true by simp only [okW,dU];omega)] at heq;exact heq)
  exact H.rt (by rw [<- hfin])
def wF (l:List fO):Nat->Nat->Nat
 | 0,n=>n
 | f+1,n=>if n < l.length∧(jF l n=2∨jF l n=3) then wF l f (n+1) else n
theorem Xh {l:List fO} {f n:Nat} (hf:l.length - n<=f) (h:n < l.length∧(jF l n=2∨jF l n=3)):wF l f n=wF l (f - 1) (n+1):=by
 match f,hf with
 | 0,hf=>omega
 | f+1,_=>rw [wF,aN h];rfl
theorem Xg {l:List fO} {f n:Nat} (h:¬ (n < l.length∧(jF l n=2∨jF l n=3))):wF l f n=n:=by
 match f with
 | 0=>rfl
 | f+1=>rw [wF,aL h]
def nC (l:List fO):Nat × Int :=
 if jF l 0=5∨jF l 0=6 then jY l
 else if jF l 0=2∨jF l 0=3 then (wF l l.length 0,3)
 else if jF l 0=1 then (1,6)
 else if jF l 0=7 then (1,5)
 else (1,4)
theorem Qk {G:GH} {b x y:Nat} (hb:G b=some (.cells #[vi x,vi y] 3 (0,0))):aF G (.sl 1 (([(x:Int),(y:Int)]).map gJ)) (.slice (some ⟨b,0,none⟩) 2 2) :=
 aF.rV (xs:=[vi x,vi y]) hb O (bS _) Y (gG (bS _)) (yQ _ [(x:Int),(y:Int)])
set_option maxHeartbeats 1000000 in
theorem afI (G:GH) (w0:World) (hG:Hold G w0) (l:List fO) (v:ak) (hv:aF G (.sl 3 (l.map fO.dat)) v) (hl:0 < l.length) :
  Calls prog 80 #[v] w0 (bQ w0 G fun u G'=>u=.tuple #[vi (nC l).1,vi (nC l).2]):=by
 obtain ⟨A,c,rfl,hc1,hc2,-⟩:=hv.slice;have hml:maxLen=9223372036854775807:=rfl;rw [bJ] at *;obtain ⟨b,o,rfl,-⟩:=IX hv hl;have dh:=hv;refine eN [(0,_)] func80 O ntmps80 O O hG ?_;intro a H;refine kP H (SR fun _ K1=>Ra O (av K1 O (SQ fun _ K2=>SB (SR fun _ K3=>Rm O ?_))));clear H K1;intro a H;refine bD jv fZ 0 H wn O O V V O ?_;clear H;intro a H;refine bV fZ (cs:=[_,_,_]) H wn O O (fun j v hj=>H.hp.aS (lu dh (k:=0) V j v hj)) O ?_;clear H;intro a H;refine eU cB aC [_,_] [_,_] H wn O O O O O (by intro i q h;match i,h with|0,h=>exact h|1,h=>exact h|n+2,h=>simp at h) O O ?_;clear H;intro b8 a w Gm H;obtain ⟨Gq,iw,GK,H⟩:=H.kE;have hq:=Qk (x:=5) (y:=6) GK;replace dh:=dh.mono iw;refine s_call mq H wn O (mF _ _ H.ro l[0] [5,6] _ hq) O ?_;clear H;rintro v9 _ a w ⟨rfl,rfl⟩ - H;rw [is2 V 5 6] at H;refine kH H (av K3 O (Cd O ?_ ?_)) <;> clear H K3
 ·intro h4 a H
  try have p4:=dT h4
  first
  | (exfalso;omega)
  | (exact absurd h4 Y)
  |skip
   refine kP H (SR fun _ K4=>Rm O ?_);clear H;intro a H;refine s_call ach H wn O (aiW _ _ H.ro l _ dh) O ?_;clear H;rintro v11 _ a w rfl - H;(iterate 2 refine eZ H wn O O O ?_;clear H;intro a H);refine kH H (Ra O (av K4 O ?_));clear H K4;intro a H;refine aU ?_;refine (bK H results80 (.cons (aG H O) (.cons (aG H O) .nil)) ?_).1;exact H.rt (by rw [nC,aN p4])
 intro h4 a H
 try have p4:=dF h4
 first
 | (exfalso;omega)
 | (exact absurd h4 Y)
 |skip
  refine kP H (SR fun _ K5=>Rm O ?_);clear H;intro a H;refine bD jv fZ 0 H wn O O V V O ?_;clear H;intro a H;refine bV fZ (cs:=[_,_,_]) H wn O O (fun j v hj=>H.hp.aS (lu dh (k:=0) V j v hj)) O ?_;clear H;intro a H;refine eU cB aC [_,_] [_,_] H wn O O O O O (by intro i q h;match i,h with|0,h=>exact h|1,h=>exact h|n+2,h=>simp at h) O O ?_;clear H;intro b18 a w Jy H;obtain ⟨Gq,iw,GK,H⟩:=H.kE;have hq:=Qk (x:=2) (y:=3) GK;replace dh:=dh.mono iw;refine s_call mq H wn O (mF _ _ H.ro l[0] [2,3] _ hq) O ?_;clear H;rintro v19 _ a w ⟨rfl,rfl⟩ - H;rw [is2 V 2 3] at H;refine kH H (av K5 O (Cd O ?_ ?_)) <;> clear H K5
  ·intro eD a H
   try have jC:=dT eD
   first
   | (exfalso;omega)
   | (exact absurd eD Y)
   |skip
    refine gy (fun _ K6=>?_);refine xk ?_;skip;refine dY (ι:=Nat × Nat × GH) (Tc:=[(0,_)]) (Lc:=[]) (fun gh=>[(2,vi gh.1)]) (fun gh=>[]) (fun gh=>gh.2.2) (fun gh=>gh.1<=l.length∧l.length - gh.1<=gh.2.1∧wF l gh.2.1 gh.1=wF l l.length 0∧aF gh.2.2 (.sl 3 (l.map fO.dat)) (.slice (some ⟨b,o,none⟩) l.length c)) (fun gh=>l.length - gh.1) ((0,l.length,Gq)) (by exact H.sub ⟨O,O,aI⟩) ?_ ?_
    ·exact ⟨fC _,Nat.sub_le _ _,O,dh⟩
    clear H;rintro ⟨n,f,g⟩ a w hI H;dsimp only at hI H;obtain ⟨hn,hf,heq,dh⟩:=hI;dsimp only [lca,bW] at H;refine kP H (SQ fun _ K7=>SR fun _ K8=>Rm O (Rm O (Rl jv O (Rc O (Rm O (Sp 24 O ?_ ?_)))))) <;> clear H
    ·intro aQ a H
     try have gP:=dT aQ
     first
     | (exfalso;omega)
     | (exact absurd aQ Y)
     |skip
      refine kH H (YM aQ O (YM aQ O ?_));clear H;intro a H;refine bD jv fZ n H (wg H O O aQ) O O V V O ?_;clear H;intro a H;refine bV fZ (cs:=[_,_,_]) H (wg H O O aQ) O O (fun j v hj=>H.hp.aS (lu dh (k:=n) V j v hj)) O ?_;clear H;intro a H;refine eU cB aC [_,_] [_,_] H (wg H O O aQ) O O O O O (by intro i q h;match i,h with|0,h=>exact h|1,h=>exact h|n+2,h=>simp at h) O O ?_;clear H;intro b29 a w ajE H;obtain ⟨Gq,iw,GK,H⟩:=H.kE;have hq:=Qk (x:=2) (y:=3) GK;replace dh:=dh.mono iw;refine s_call mq H (wg H O O aQ) O (mF _ _ H.ro l[n] [2,3] _ hq) O ?_;clear H;rintro v30 _ a w ⟨rfl,rfl⟩ - H;rw [is2 V 2 3] at H;refine kH H (Pt aQ O (Kz K8 (Cd O ?_ ?_))) <;> clear H K8
      ·intro h31 a H
       try have p31:=dT h31
       first
       | (exfalso;omega)
       | (exact absurd h31 Y)
       |skip
        refine kP H (Kc K7 (SB (SC (Rm O (Rd O (Ra O ?_))))));clear H K7;intro a H;refine aj ?_;refine bE ((n+1,f - 1,Gq)) (by exact H.sub ⟨O,O,aI⟩) ?_
        (try dsimp only);exact ⟨V,V,by rw [Xh hf ⟨V,p31⟩] at heq;exact heq,dh⟩
      intro h31 a H
      try have p31:=dF h31
      first
      | (exfalso;omega)
      | (exact absurd h31 Y)
      |skip
       refine dJ ?_;refine K6 _ _ ?_;clear K6;refine kP H (SR fun _ K9=>Rm O (Ra O (av K9 O ?_)));clear H K9;intro a H;refine aU ?_;refine (bK H results80 (.cons (aG H O) (.cons (aG H O) .nil)) ?_).1;exact H.rt (by rw [nC,aL p4,aN jC,<- heq,Xg V])
    intro aQ a H
    try have gP:=dF aQ
    first
    | (exfalso;omega)
    | (exact absurd aQ Y)
    |skip
     refine kH H (aV aQ O (aV aQ O (Pf aQ O (Kz K8 (Cf O O ?_)))));clear H K8;intro a H;refine dJ ?_;refine K6 _ _ ?_;clear K6;refine kP H (SR fun _ aP=>Rm O (Ra O (av aP O ?_)));clear H aP;intro a H;refine aU ?_;refine (bK H results80 (.cons (aG H O) (.cons (aG H O) .nil)) ?_).1;exact H.rt (by rw [nC,aL p4,aN jC,<- heq,Xg V])
  intro eD a H
  try have jC:=dF eD
  first
  | (exfalso;omega)
  | (exact absurd eD Y)
  |skip
   refine kP H (SR fun _ aT=>Rm O ?_);clear H;intro a H;refine bD jv fZ 0 H wn O O V V O ?_;clear H;intro a H;refine bV fZ (cs:=[_,_,_]) H wn O O (fun j v hj=>H.hp.aS (lu dh (k:=0) V j v hj)) O ?_;clear H;intro a H;refine eU cB aC [_] [_] H wn O O O O O (by intro i q h;match i,h with|0,h=>exact h|n+1,h=>simp at h) O O ?_;clear H;intro vS a w NQ H;obtain ⟨Gq,iw,hq,H⟩:=H.nu (sz:=1) (d:=gJ 1) O (ny _ 1);replace dh:=dh.mono iw;refine s_call mq H wn O (mF _ _ H.ro l[0] [1] _ hq) O ?_;clear H;rintro v40 _ a w ⟨rfl,rfl⟩ - H;rw [is1 V 1] at H;refine kH H (av aT O (Cd O ?_ ?_)) <;> clear H aT
   ·intro uq a H
    try have p35:=dT uq
    first
    | (exfalso;omega)
    | (exact absurd uq Y)
    |skip
     refine kP H (SR fun _ bH=>Ra O (av bH O ?_));clear H bH;intro a H;refine aU ?_;refine (bK H results80 (.cons (aG H O) (.cons (aG H O) .nil)) ?_).1;exact H.rt (by rw [nC,aL p4,aL jC,aN p35];rfl)
   intro uq a H
   try have p35:=dF uq
   first
   | (exfalso;omega)
   | (exact absurd uq Y)
   |skip
    refine kP H (SR fun _ bG=>Rm O ?_);clear H;intro a H;refine bD jv fZ 0 H wn O O V V O ?_;clear H;intro a H;refine bV fZ (cs:=[_,_,_]) H wn O O (fun j v hj=>H.hp.aS (lu dh (k:=0) V j v hj)) O ?_;clear H;intro a H;refine eU cB aC [_] [_] H wn O O O O O (by intro i q h;match i,h with|0,h=>exact h|n+1,h=>simp at h) O O ?_;clear H;intro Za a w adJ H;obtain ⟨Gq,iw,hq,H⟩:=H.nu (sz:=1) (d:=gJ 7) O (ny _ 7);replace dh:=dh.mono iw;refine s_call mq H wn O (mF _ _ H.ro l[0] [7] _ hq) O ?_;clear H;rintro v46 _ a w ⟨rfl,rfl⟩ - H;rw [is1 V 7] at H;refine kH H (av bG O (Cd O ?_ ?_)) <;> clear H bG
    ·intro sM a H
     try have p41:=dT sM
     first
     | (exfalso;omega)
     | (exact absurd sM Y)
     |skip
      refine kP H (SR fun _ bX=>Ra O (av bX O ?_));clear H bX;intro a H;refine aU ?_;refine (bK H results80 (.cons (aG H O) (.cons (aG H O) .nil)) ?_).1;exact H.rt (by rw [nC,aL p4,aL jC,aL p35,aN p41];rfl)
    intro sM a H
    try have p41:=dF sM
    first
    | (exfalso;omega)
    | (exact absurd sM Y)
    |skip
     refine kP H (Kc K2 (SR fun _ dG=>Ra O (av dG O ?_)));clear H K2 dG;intro a H;refine aU ?_;refine (bK H results80 (.cons (aG H O) (.cons (aG H O) .nil)) ?_).1;exact H.rt (by rw [nC,aL p4,aL jC,aL p35,aL p41];rfl)
section
section
variable {P:Program} {N:Nat} {D:List Deferred} {w0 w w':World} {F:Nat->Prop} {G0 G G':GH} {L L' Li Lo:OL} {T:List (Nat × ak)} {a a':Act} {Q:Exit->Act->World->Prop}
variable {r:Option Nat} {ops:Array Oper} {rest:List Oper}
def Ay (P:Program) (Gi:GH) (B:OL) (gv:ak) (xs:List AP):Prop :=
 ∀ (J:Nat->GH->OL->Prop) (Jx:GH->OL->Prop) (fv:ak) (G:GH) (L:OL) (w:World),fv.cells=#[fv]->(∀ b o,Gi b=some o->G b=some o)->Fg J->Iu Jx->J 0 G L->jN G (B++L) w->Ii P fv G xs J Jx ->
  uK P gv [fv] w (jO w G (B++L) fun _ G' L'=>J xs.length G' L'∨Jx G' L')
theorem Ay.mono {Gi Fe:GH} {B:OL} {gv:ak} {xs:List AP} (h:Ay P Gi B gv xs) (hm:∀ b o,Gi b=some o->Fe b=some o):Ay P Fe B gv xs :=
 fun J Jx fv G L w h0 h1=>h J Jx fv G L w h0 fun b o hb=>h1 b o (hm b o hb)
theorem ZI {B:OL} {xC:Operand} {ps:List Nat} {assign body:Code} {gf:FuncId} {caps:List ak} {xs:List AP} {Gi:GH}
  (H:St N D w0 F G0 G (B++L) T a w) (hg:ev T xC=some (.func (.func gf) #[] caps.toArray)) (en:∀ args w,(callFunc gf args).run P w=.ok (.enter gf args) w) (hit:Ay P Gi B (.func (.func gf) #[] caps.toArray) xs) (hGi:∀ b o,Gi b=some o->G b=some o)
  (hps:ps.all (Nat.blt · N)=true) (hlen:∀ k args g,uJ xs k args g->args.length=ps.length)
  (J:Nat->GH->OL->Prop) (Jx:Code->GH->OL->Prop) (qH:Fg J) (hJx:∀ c,Iu (Jx c)) (h0:J 0 G L) (Ov:LY P N ps assign body T G J Jx xs)
  (hdone:∀ Dk G1 L1 a1 w1,(∀ b o,G b=some o->G1 b=some o)->J xs.length G1 L1->St N ({ target:=.collected Dk,args:=#[] } :: D) w0 F G0 G1 ((Dk,.deferred (some [])) :: L1) T a1 w1->Q .normal a1 w1)
  (hstop:∀ Dk c G1 L1 a1 w1,(∀ b o,G b=some o->G1 b=some o)->Jx c G1 L1->St N ({ target:=.collected Dk,args:=#[] } :: D) w0 F G0 G1 ((Dk,.deferred (some [])) :: L1) T a1 w1->WP none P c Q a1 w1) :
  WP none P (.rangeFunc xC ps.toArray assign body) Q a w:=by
 refine wpIn_rangeFunc ?_
 intro fn _
 have hev:=H.ev hg
 let q:Rec:=⟨fn,a.tmps,ps.toArray,assign,body,w.heap.size⟩
 obtain ⟨W1,hW1⟩:∃ W1,W1=(w.alloc (.deferred (some []))).alloc (q.at .ready none):=⟨_,O⟩
 have H1:Hp w0 F G0 G (B++((w.heap.size+1,q.at .ready none) :: (w.heap.size,.deferred (some [])) :: L)) W1:=by
  have:=(H.hp.alloc (.deferred (some []))).alloc (q.at .ready none)
  rw [World.size_alloc] at this
  rw [hW1]
  refine this.perm ?_
  have e:=List.perm_append_comm (l₁:=[(w.heap.size+1,q.at .ready none),(w.heap.size,Obj.deferred (some []))]) (l₂:=B)
  have e2:=List.Perm.append_right L e
  rw [oU,oU] at e2
  exact e2
 refine ⟨w.heap.size+1,[{ target:=.collected w.heap.size,args:=#[] }],W1,{ target:=.fn (.func gf) caps.toArray,args:=#[.func (.yield (w.heap.size+1)) #[] #[]] },W1,gf,
  #[.func (.yield (w.heap.size+1)) #[] #[]]++caps.toArray,W1,by rw [hW1];exact run_enterLoop_outer fn a.tmps ps.toArray assign body,?_,fun _ _=>trivial,?_,Ij none,?_⟩
 ·simp only [resolve,rangeCall,hev]
  simp [Deferred.ofValue,Act.eval]
 ·simp [invoke,en]
 ·have hcv:=hit (fun k=>Jr (w.heap.size+1) q [(w.heap.size,.deferred (some []))] (J k)) (Im (w.heap.size+1) q [(w.heap.size,.deferred (some []))] Jx) (.func (.yield (w.heap.size+1)) #[] #[]) G
   ((w.heap.size+1,q.at .ready none) :: (w.heap.size,.deferred (some [])) :: L) W1 rfl hGi (fun k G G' L hm ⟨Lu,e,h⟩=>⟨Lu,e,qH k G G' Lu hm h⟩) (fun G G' L hm ⟨c,Lu,e,h⟩=>⟨c,Lu,e,hJx c G G' Lu hm h⟩) ⟨L,O,h0⟩ (Hp.owns (Li:=[]) H1) (Sc H.jU H.get hps hlen Ov)
  replace hcv:=hcv.go
  have e:(do let d <- Deferred.ofValue (.func (.func gf) #[] caps.toArray) [Value.func (.yield (w.heap.size+1)) #[] #[]].toArray;invoke d.target d.args:Sem Next).run P W1=.ok (.enter gf (#[.func (.yield (w.heap.size+1)) #[] #[]]++caps.toArray)) W1:=by
   simp [Deferred.ofValue,invoke,en]
  rw [e] at hcv
  refine (MG hcv).mono ?_
  rintro e w2 ⟨v,G2,L2,rfl,hch,hJ⟩
  have H2:=Hp.change (Li:=[]) H1 hch
  rcases hJ with ⟨Lu,rfl,hJ⟩|⟨c,Lu,rfl,hJ⟩
  ·have hl:=H2.own _ (nN)
   have H3:=(H2.upd (i:=0) O (BG (q.at .exhausted none) hl)).drop (List.sublist_cons_self _ _)
   exact ⟨none,_,run_endLoop hl (by simp),hdone _ G2 Lu _ _ hch.gm hJ ⟨H.jU,H.get,by simp [H.oz],H3⟩⟩
  ·have hl:=H2.own _ (nN)
   have H3:=(H2.upd (i:=0) O (BG (q.at .exhausted (some c)) hl)).drop (List.sublist_cons_self _ _)
   exact ⟨some c,_,run_endLoop hl (by simp),hstop _ c G2 Lu _ _ hch.gm hJ ⟨H.jU,H.get,by simp [H.oz],H3⟩⟩
theorem ZH {B:OL} {ι κ:Type} {Lc:OL} {xC:Operand} {ps:List Nat} {assign body:Code} {gf:FuncId} {caps:List ak} {xs:List AP} {Gi:GH}
  (Lv:Nat->ι->OL) (Lt:Nat->ι->OL) (inv:Nat->ι->GH->Prop) (cx:κ->Code) (Lx BL:κ->OL) (xP:κ->GH->Prop) (i0:ι)
  (H:St N D w0 F G0 G (B++(Lc++Lv 0 i0++Lt 0 i0)) T a w) (hg:ev T xC=some (.func (.func gf) #[] caps.toArray)) (en:∀ args w,(callFunc gf args).run P w=.ok (.enter gf args) w) (hit:Ay P Gi B (.func (.func gf) #[] caps.toArray) xs) (hGi:∀ b o,Gi b=some o->G b=some o)
  (hps:ps.all (Nat.blt · N)=true) (hlen:∀ k args g,uJ xs k args g->args.length=ps.length) (hinv:∀ k i (G G':GH),(∀ b o,G b=some o->G' b=some o)->inv k i G->inv k i G') (NZ:∀ x (G G':GH),(∀ b o,G b=some o->G' b=some o)->xP x G->xP x G') (h0:inv 0 i0 G)
  (round:∀ (l:Nat) (yT vU:Obj) (bk:OL) (k:Nat) (args:List ak) (i:ι) (G1:GH) (w1:World) (F1:Nat->Prop) (B1:Code->Exit->Act->World->Prop) (a1:Act),uJ xs k args G1->(∀ b o,G b=some o->G1 b=some o)->inv k i G1 ->
   (∀ T' G2 L2 a2 w2 c,St N [] w1 F1 G1 G2 ((l,yT) :: L2) T' a2 w2->(∀ w3,St N [] w1 F1 G1 G2 ((l,vU) :: L2) T' a2 w3->WP (some l) P c (B1 c) a2 w3)->Exit.then (fun a2 w2=>∃ w3,(Instr.beginRound l).run P w2=.ok () w3∧c.wpIn (FW (some l)) 0 P (B1 c) a2 w3) (fun _ _ _=>False) .normal a2 w2) ->
   (∀ i' T' G2 a2 w2 c,St N [] w1 F1 G1 G2 ((l,vU) :: (Lc++Lv (k+1) i'++(bk++Lt (k+1) i'))) T' a2 w2->inv (k+1) i' G2->B1 c .normal a2 w2) ->
   (∀ x T' G2 a2 w2 c,St N [] w1 F1 G1 G2 ((l,vU) :: (Lc++Lx x++(bk++BL x))) T' a2 w2->xP x G2->(cx x=.ret->B1 c .ret a2 w2)∧∀ n,cx x=.exit n->B1 c (.exit n) a2 w2) ->
   St N [] w1 F1 G1 G1 ((l,yT) :: (Lc++Lv k i++(bk++Lt k i))) (uQ ps args T) a1 w1 ->
   WP (some l) P assign (Exit.then (fun a2 w2=>∃ w3,(Instr.beginRound l).run P w2=.ok () w3∧body.wpIn (FW (some l)) 0 P (B1 body) a2 w3) (fun _ _ _=>False)) a1 w1)
  (hdone:∀ Dk i G1 a1 w1,(∀ b o,G b=some o->G1 b=some o)->inv xs.length i G1->St N ({ target:=.collected Dk,args:=#[] } :: D) w0 F G0 G1 ((Dk,.deferred (some [])) :: (Lc++Lv xs.length i++Lt xs.length i)) T a1 w1->Q .normal a1 w1)
  (hstop:∀ Dk x G1 a1 w1,(∀ b o,G b=some o->G1 b=some o)->xP x G1->St N ({ target:=.collected Dk,args:=#[] } :: D) w0 F G0 G1 ((Dk,.deferred (some [])) :: (Lc++Lx x++BL x)) T a1 w1->WP none P (cx x) Q a1 w1) :
  WP none P (.rangeFunc xC ps.toArray assign body) Q a w:=by
 refine ZI (J:=fun k g L=>∃ i,L=Lc++Lv k i++Lt k i∧inv k i g) (Jx:=fun c g L=>∃ x,c=cx x∧L=Lc++Lx x++BL x∧xP x g) H hg en hit hGi hps hlen (fun k G G' L hm ⟨i,e,h⟩=>⟨i,e,hinv k i G G' hm h⟩) (fun c G G' L hm ⟨x,e1,e2,h⟩=>⟨x,e1,e2,NZ x G G' hm h⟩) ⟨i0,O,h0⟩ ?_ ?_ ?_
 ·rintro l q bk k args G1 L1 w1 a1 hk hm ⟨i,rfl,hi⟩ H1
  have pm:∀ A B:OL,(bk++(A++B)).Perm (A++(bk++B)):=fun A B=>by
   rw [<- oU,<- oU]
   exact List.Perm.append_right B List.perm_append_comm
  refine round l (q.at .ready none) (q.at .busy none) bk k args i G1 w1 _ (fun _=>roundPost P l _) a1 hk hm hi ?_ ?_ ?_ (H1.perm (List.Perm.cons _ (pm _ _)))
  ·intro T' G2 L2 a2 w2 c H2 h
   exact R7 H2 h
  ·intro i' T' G2 a2 w2 c H2 h2
   exact Ey none (H2.perm (List.Perm.cons _ (pm _ _).symm)) ⟨_,O,i',O,h2⟩
  ·intro x T' G2 a2 w2 c H2 h2
   have H3:=H2.perm (List.Perm.cons _ (pm _ _).symm)
   refine ⟨fun e=>?_,fun n e=>?_⟩
   ·exact Ey (some .ret) H3 ⟨_,_,O,x,e.symm,O,h2⟩
   ·exact Ey (some (.exit n)) H3 ⟨_,_,O,x,e.symm,O,h2⟩
 ·rintro Dk G1 L1 a1 w1 hm ⟨i,rfl,hi⟩ H1
  exact hdone Dk i G1 a1 w1 hm hi H1
 ·rintro Dk c G1 L1 a1 w1 hm ⟨x,rfl,rfl,hx⟩ H1
  exact hstop Dk x G1 a1 w1 hm hx H1
end
end
theorem EU:Ty prog 134 1 24 [.slice none 0 0] false:=⟨Z,Z⟩
theorem abU:bL 80:=bN func80 O
theorem acJ:gL prog 169 1 1:=⟨Z⟩
theorem acK:gL prog 169 2 2:=⟨Z⟩
theorem ahC:sD prog 102 [(0,1),(1,1),(2,1)] [.int .i64 0,.int .i64 0,.int .i64 0]:=⟨Z,Z⟩
theorem TB:bL 79:=bN func79 O
structure gM where
 kind:Int
 from_:Int
 dx:Int
def gM.dat (x:gM):List Dat:=[li x.kind,li x.from_,li x.dx]
def gM.cells (x:gM):List ak:=[vi x.kind,vi x.from_,vi x.dx]
theorem aib (G:GH) (x:gM):aY G x.dat x.cells:=by
 simp only [gM.dat,gM.cells,aY]
 exact ⟨_,_,O,by simp [aF,Value.oneCell'],_,_,O,by simp [aF,Value.oneCell'],_,_,O,by simp [aF,Value.oneCell'],O⟩
theorem aia {G:GH} {x:gM} {cs:List ak} (h:aY G x.dat cs):cs=x.cells:=by
 simp only [gM.dat,aY,aF] at h
 obtain ⟨v1,_,rfl,⟨rfl,-⟩,v2,_,rfl,⟨rfl,-⟩,v3,_,rfl,⟨rfl,-⟩,rfl⟩:=h
 rfl
theorem Qf {G:GH} {l:List gM} {A:Option Addr} {n c k:Nat} (hv:aF G (.sl 3 (l.map gM.dat)) (.slice A n c)) (hk:k < l.length):∃ b o,A=some ⟨b,o,none⟩∧(∀ j u,[vi l[k].kind,vi l[k].from_,vi l[k].dx][j]?=some u->aS G b (o+k*3+j)=some u):=by
 obtain ⟨A',c',he,_,_,hg⟩:=hv.slice
 injection he with e1 e2 e3
 subst e1;obtain ⟨b,o,cs,h1,h2,h3,h4⟩:=hg k l[k].dat (by simp [hk]);obtain rfl:=aia h4;exact ⟨b,o,h1,h3⟩
theorem Yf {l:List fO}:∀ (f n:Nat) (k:Int),n<=l.length->n<=(yh l f n k).1∧(yh l f n k).1<=l.length
 | 0,n,k,h=>⟨bS _,h⟩
 | f+1,n,k,h=>by
  rw [yh];split
  ·split
   ·have:=Yf (l:=l) f (n+1) (if jF l n=5 then 1 else k) V;omega
   exact ⟨bS _,h⟩
  exact ⟨bS _,h⟩
theorem Xf {l:List fO}:∀ (f n:Nat),n<=l.length->n<=wF l f n∧wF l f n<=l.length
 | 0,n,h=>⟨bS _,h⟩
 | f+1,n,h=>by
  rw [wF];split
  ·have:=Xf (l:=l) f (n+1) V;omega
  exact ⟨bS _,h⟩
theorem OV {l:List fO} (h:0 < l.length):1<=(nC l).1∧(nC l).1<=l.length:=by
 unfold nC
 split
 ·rename_i hc
  have hok:okW l 0=true:=by simp only [okW,dU];omega
  rw [jY,Yg V h,aN hok];have:=Yf (l:=l) (l.length - 1) (0+1) (if jF l 0=5 then 1 else 2) V
  omega
 split
 ·rename_i hc
  rw [Xh V ⟨h,hc⟩];have:=Xf (l:=l) (l.length - 1) (0+1) V
  omega
 repeat' split
 all_goals (dsimp only;omega)
def qW:Nat->List fO->List gM
 | 0,_=>[]
 | f+1,l=>if h:0 < l.length then ⟨(nC l).2,(l[0]).from_,(l[(nC l).1 - 1]'(by have:=OV h;omega)).dx⟩ :: qW f (l.drop (nC l).1) else []
def jR (l:List fO):List gM:=qW l.length l
theorem H6:∀ (f:Nat) (l:List fO),(qW f l).length<=f
 | 0,_=>by simp [qW]
 | f+1,l=>by
  rw [qW];split
  ·rw [ko];have:=H6 f (l.drop (nC l).1);omega
  simp
def BA (x:gM):AP:=fun args _=>args=[.agg #[vi x.kind,vi x.from_,vi x.dx]]
theorem Xx {A:List gM} {k:Nat} {args:List ak} {g:GH} (h:uJ (A.map BA) k args g):∃ (hk:k < A.length),args=[.agg #[vi A[k].kind,vi A[k].from_,vi A[k].dx]]:=by
 obtain ⟨p,hp,hargs⟩:=h;rw [nM] at hp;obtain ⟨q,hq,rfl⟩:=mZ.1 hp;obtain ⟨hk,rfl⟩:=gN.1 hq;exact ⟨hk,hargs⟩
abbrev bC (b:Nat) (v:ak):Nat × Obj:=(b,.cells #[v] 134 (0,0))
set_option maxHeartbeats 1000000 in
theorem ail {G:GH} {bx:Nat} {l:List fO} {v:ak} (hv:aF G (.sl 3 (l.map fO.dat)) v) :
  Ay prog G [bC bx v] (.func (.func 79) #[] #[(aJ bx 0)]) ((jR l).map BA):=by
 intro J Jx fv G1 L w0 JF hGi qH hJx hJ hO hcb;refine sI (caps:=[(aJ bx 0)]) TB ?_;obtain ⟨A,c,rfl,hc1,hc2,-⟩:=hv.slice;have hml:maxLen=9223372036854775807:=rfl;rw [bJ] at *;refine mP (N:=31) (T:=[(0,_),(1,_)]) func79 O ntmps79 O O hO ?_;intro a H;refine xk ?_;skip;refine dY (ι:=List fO × Option Addr × Nat × Nat × Nat × OL × GH) (Tc:=[(0,_),(1,_)]) (Lc:=[]) (fun gh=>[]) (fun gh=>[bC bx (.slice gh.2.1 gh.1.length gh.2.2.1)]++gh.2.2.2.2.2.1) (fun gh=>gh.2.2.2.2.2.2) (fun gh=>gh.1.length<=gh.2.2.2.1∧aF gh.2.2.2.2.2.2 (.sl 3 (gh.1.map fO.dat)) (.slice gh.2.1 gh.1.length gh.2.2.1)∧(∀ b o,G1 b=some o->gh.2.2.2.2.2.2 b=some o)∧Now ((jR l).map BA) BA J (jR l).length gh.2.2.2.2.1 (qW gh.2.2.2.1 gh.1) gh.2.2.2.2.2.2 gh.2.2.2.2.2.1) (fun gh=>gh.1.length) ((l,A,c,l.length,0,L,G1)) (by exact H.sub ⟨O,O,aI⟩) ?_ ?_
 ·exact ⟨bS _,hv.mono hGi,fun _ _ h=>h,⟨hJ,fun i a h=>by rw [eH,nM];rw [show qW l.length l=jR l from rfl] at h;rw [h];rfl,by show 0+(jR l).length=_;omega⟩⟩
 clear H;rintro ⟨r,B,c2,f,j1,Lt,g⟩ a w hI H;dsimp only at hI H;obtain ⟨hf,dh,hgm,dL⟩:=hI;dsimp only [lca,bW] at H;refine kP H (SQ fun _ K1=>SR fun _ K2=>Ro EU 0 O (Rl jv O (Rc O (Kz K2 (Cd O ?_ ?_))))) <;> clear H K2
 ·intro h7 a H
  try have p7:=dT h7
  have hr0:0 < r.length:=by omega
  obtain ⟨f',rfl⟩:∃ f',f=f'+1:=⟨f - 1,V⟩;rw [qW,dif_pos hr0] at dL;have hbd:=OV hr0;obtain ⟨b,o,rfl,-⟩:=IX dh hr0;obtain ⟨_,_,he0,hc3,hc4,-⟩:=dh.slice
  injection he0 with _ _ he1
  subst he1;rw [bJ] at hc3;refine kP H (Kc K1 (SB (SR fun _ K3=>Ro EU 0 O ?_)));clear H K1;intro a H;refine s_call abU H wn O (afI _ _ H.ro r _ dh hr0) O ?_;clear H;rintro v10 vL a w rfl rT H;obtain ⟨nn,hnn⟩:∃ nn,nn=(nC r).1:=⟨_,O⟩;have dh:=dh.mono rT;rw [<- hnn] at H hbd
  have hl1:nn - 1 < r.length:=by omega
  have xI:Now ((jR l).map BA) BA J (jR l).length j1 (⟨(nC r).2,(r[0]).from_,(r[nn - 1]).dx⟩ :: qW f' (r.drop nn)) vL Lt:=by
   subst hnn;exact ⟨qH _ _ _ _ rT dL.now,dL.rem,dL.len⟩
  refine kH H (Rm O ?_);clear H;intro a H;(iterate 2 refine eZ H wn O O O ?_;clear H;intro a H);refine kH H (Ra O (av K3 O (SQ fun _ K4=>SQ fun _ K5=>?_)));clear H K3;intro a H;refine dI hmx [[],[],[],[2],[2,3],[2,3,4],[],[],[7],[6,7,8],ra 6 4,ra 6 5,ra 1 11,ra 0 13,ra 0 14] [13,14] Z [fv,vi (nC r).2,.slice (some ⟨b,o,none⟩) r.length c2,(aJ b (o+0*3)),(aJ b (o+0*3+1)),vi (r[0]).from_,.slice (some ⟨b,o,none⟩) r.length c2,vi nn,vi ((nn:Int) - 1),(aJ b (o+(nn - 1)*3)),(aJ b (o+(nn - 1)*3+2)),vi (r[nn - 1]).dx,.agg #[vi (nC r).2,vi (r[0]).from_,vi (r[nn - 1]).dx]] H (aH ?_ ?_ ?_ ?_ (aH ?_ ?_ ?_ ?_ (aH ?_ ?_ ?_ ?_ (eB ?_ (eB (fT O) (eB (fT O) fD)))))) ?_
  ·intro ay a w G1 _ ah hc hG HT hv;have H:=HT;clear ah;have Hb:=H.full;have H:=Hb;clear hc;refine kH H (Rm O ?_);clear H;intro a H;refine aj ⟨O,?_⟩;exact aB HT Hb hG hv (fun _ _ _ _ _ h=>h) H O
  ·intro ay a w G1 _ ah hc hG HT hv;have H:=HT;clear ah;have Hb:=H.full;have H:=Hb;clear hc;refine kH H (Rm O ?_);clear H;intro a H;refine aj ⟨O,?_⟩;exact aB HT Hb hG hv (fun _ _ _ _ _ h=>h) H O
  ·intro ay a w G1 _ ah hc hG HT hv;have H:=HT;clear ah;have Hb:=H.full;have H:=Hb;clear hc;refine kH H (Ro EU 0 O ?_);clear H;intro a H;refine aj ⟨O,?_⟩;exact aB HT Hb hG hv (fun _ _ _ _ _ h=>h) H O
  ·intro ay a w G1 _ ah hc hG HT hv;have H:=HT;clear ah;have H:=H.au (hv 2 15 (hc 2 Y) O) O;have Hb:=H.full;have H:=Hb;clear hc;refine bD jv fZ 0 H wn O O O hr0 O ?_;clear H;intro a H;refine aj ⟨O,?_⟩;exact aB HT Hb hG hv (fun _ _ _ _ _ h=>h) H O
  ·intro ay a w G1 _ ah hc hG HT hv;have H:=HT;clear ah;have H:=H.au (hv 3 16 (hc 3 Y) O) O;have Hb:=H.full;have H:=Hb;clear hc;refine kH H (Rf acJ O ?_);clear H;intro a H;refine aj ⟨O,?_⟩;exact aB HT Hb hG hv (fun _ _ _ _ _ h=>h) H O
  ·intro ay a w G1 _ ah hc hG HT hv;have H:=HT;clear ah;have H:=H.au (hv 4 17 (hc 4 Y) O) O;have Hb:=H.full;have H:=Hb;clear hc;refine kH H (Rg aC O (aK hG (lu dh hr0 1 _ O)) ?_);clear H;intro a H;refine aj ⟨O,?_⟩;exact aB HT Hb hG hv (fun _ _ _ _ _ h=>h) H O
  ·intro ay a w G1 _ ah hc hG HT hv;have H:=HT;clear ah;have Hb:=H.full;have H:=Hb;clear hc;refine kH H (Ro EU 0 O ?_);clear H;intro a H;refine aj ⟨O,?_⟩;exact aB HT Hb hG hv (fun _ _ _ _ _ h=>h) H O
  ·intro ay a w G1 _ ah hc hG HT hv;have H:=HT;clear ah;have Hb:=H.full;have H:=Hb;clear hc;refine kH H (Rm O ?_);clear H;intro a H;refine aj ⟨O,?_⟩;exact aB HT Hb hG hv (fun _ _ _ _ _ h=>h) H O
  ·intro ay a w G1 _ ah hc hG HT hv;have H:=HT;clear ah;have H:=H.au (hv 7 20 (hc 7 Y) O) O;have Hb:=H.full;have H:=Hb;clear hc;refine kH H (Rs O ?_);clear H;intro a H;refine aj ⟨O,?_⟩;exact aB HT Hb hG hv (fun _ _ _ _ _ h=>h) H O
  ·intro ay a w G1 _ ah hc hG HT hv;have H:=HT;clear ah;have H:=H.au (hv 6 19 (hc 6 Y) O) O;have H:=H.au (hv 8 21 (hc 8 Y) O) O;have Hb:=H.full;have H:=Hb;clear hc;refine bD jv fZ (nn - 1) H wn O O V hl1 O ?_;clear H;intro a H;refine aj ⟨O,?_⟩;exact aB HT Hb hG hv (fun _ _ _ _ _ h=>h) H O
  ·intro ay a w G1 _ ah hc hG HT hv;have H:=HT;clear ah;have H:=H.au (hv 9 22 (hc 9 Y) O) O;have Hb:=H.full;have H:=Hb;clear hc;refine kH H (Rf acK O ?_);clear H;intro a H;refine aj ⟨O,?_⟩;exact aB HT Hb hG hv (fun _ _ _ _ _ h=>h) H O
  ·intro ay a w G1 _ ah hc hG HT hv;have H:=HT;clear ah;have H:=H.au (hv 10 23 (hc 10 Y) O) O;have Hb:=H.full;have H:=Hb;clear hc;refine kH H (Rg aC O (aK hG (lu dh hl1 2 _ O)) ?_);clear H;intro a H;refine aj ⟨O,?_⟩;exact aB HT Hb hG hv (fun _ _ _ _ _ h=>h) H O
  ·intro ay a w G1 _ ah hc hG HT hv;have H:=HT;clear ah;have H:=H.au (hv 1 14 (hc 1 Y) O) O;have H:=H.au (hv 5 18 (hc 5 Y) O) O;have H:=H.au (hv 11 24 (hc 11 Y) O) O;have Hb:=H.full;have H:=Hb;clear hc;refine ku ahC [_,_,_] H wn O O O O ?_;clear H;intro a H;refine aj ⟨O,?_⟩;exact aB HT Hb hG hv (fun _ _ _ _ _ h=>h) H O
  clear H;intro a w G Ea H hv;have H:=H.au (hv 0 13 O O) O;have H:=H.au (hv 12 25 O O) O;clear hv;refine pF (Li:=[_]) (L:=Lt) H wn O O (hcb j1 _ _ _ _ ⟨_,xI.head,O⟩ (fun b o h=>Ea b o (rT b o (hgm b o h))) (qH _ _ _ _ Ea xI.now) (Hp.owns (Li:=[_]) H.hp)) O ?_;clear H;rintro v26 Yx Q8 a w ⟨b26,rfl,hb1,hb2⟩ Uz H;have aeQ:=(dh.mono Ea).mono Uz;refine kH H (Rn O ?_);clear H;intro a H;refine aj ⟨O,?_⟩;refine K5 _ _ ?_;clear K5;refine ou H O ?_ ?_
  ·intro h27
   try have p27:=dT h27
   refine aU ?_;refine (leave0 H results79 ?_).1;exact H.hp.fK (L':=Q8) (by repeat (first|exact fP _|apply List.Sublist.cons)) (.inr (hb2 (by simpa using h27)))
  intro h27
  try have p27:=dF h27
  refine kP H (Kc K4 (SC (Ro EU 0 O (Rm O ?_))));clear H K4;intro a H;refine WV jv fZ nn H wn O O O V O ?_;clear H;intro a H;have hlen:r.length - nn=(r.drop nn).length:=(List.length_drop ..).symm;rw [hlen] at H;have Vd:=aeQ.part nn r.length V (by rw [bJ];exact bS _);rw [gG (by rw [List.length_drop,bJ];exact bS _),<- List.map_drop,hlen] at Vd;have qM:=xI.step (hb1 (by simpa using h27));refine bg EU 0 (vs:=[_]) H wn O ?_;clear H;intro w H;refine aj ?_;refine OO ((r.drop nn,_,c2 - nn,f',j1+1,Q8,Yx)) (by exact H.sub ⟨O,O,aI⟩) ?_ ?_
  ·(try dsimp only);exact ⟨by rw [<- hlen];omega,Vd,fun b o h=>Uz b o (Ea b o (rT b o (hgm b o h))),qM⟩
  dsimp only;rw [<- hlen];omega
 intro h7 a H
 try have p7:=dF h7
 have hnl:qW f r=[]:=by
  match f with
  | 0=>rfl
  | f+1=>rw [qW,dif_neg V]
 rw [hnl] at dL;refine dJ ?_;refine (leave0 H results79 ?_).2;refine H.hp.fK (L':=Lt) (by repeat (first|exact fP _|apply List.Sublist.cons)) (.inl ?_);have h:=dL.len
 simp only [List.length_nil,qD] at h
 rw [bJ,<- h];exact dL.now
theorem tF:prog.underlying 97=some (.slice 102):=by kernel_rfl
theorem nR:Ty prog 102 3 24 [.int .i64 0,.int .i64 0,.int .i64 0] true:=⟨Z,Z⟩
theorem Qq:Ty prog 97 1 24 [.slice none 0 0] false:=⟨Z,Z⟩
theorem abT:bL 78:=bN func78 O
theorem Xw (G:GH):∀ (B A:List gM),cO G 3 (A.map gM.dat) (A.map gM.cells).flatten->cO G 3 ((A++B).map gM.dat) ((A++B).map gM.cells).flatten
 | [],A,h=>by rw [lU];exact h
 | x :: B,A,h=>by
  have h2:=h.snoc (aib G x) O;have h3:=Xw G B (A++[x]) (by simpa using h2)
  simpa using h3
theorem aic (G:GH) (A:List gM):cO G 3 (A.map gM.dat) (A.map gM.cells).flatten:=Xw G A [] cO.nil
theorem Y7 {G:GH} {w0:World} {bx:Nat} {v:ak} {A:List gM} (hO:jN G [bC bx v] w0) (hA:A.length<=4294967296) (hit:Ay prog G [bC bx v] (.func (.func 79) #[] #[(aJ bx 0)]) (A.map BA)) :
  Calls prog 78 #[.slice none 0 0,.func (.func 79) #[] #[(aJ bx 0)]] w0 (jO w0 G [bC bx v] fun u G' L'=>L'=[]∧aF G' (.sl 3 (A.map gM.dat)) u):=by
 have hml:maxLen=9223372036854775807:=rfl;refine mP (N:=13) (T:=[(0,_),(1,_)]) func78 O ntmps78 O O hO ?_;intro a H;refine gU (fun _ K1=>?_);refine jQ (cs:=[_]) H wn O O O ?_;clear H;intro b2 a w hb2 H;refine kH H (av K1 O (SQ fun _ K2=>SR fun _ K3=>Rm O (Kz K3 (SB ?_))));clear H K1 K3;intro a H;skip;refine ZH (B:=[(_,_)]) (ι:=ak × OL) (κ:=Empty) (Lc:=[]) (fun (k:Nat) (gh:ak × OL)=>[(b2,.cells #[gh.1] 97 (0,0))]) (fun (k:Nat) (gh:ak × OL)=>gh.2) (fun (k:Nat) (gh:ak × OL) (g:GH)=>aW 102 3 gh.1 k ((A.take k).map gM.cells).flatten gh.2) (fun x=>x.elim) (fun x=>x.elim) (fun x=>x.elim) (fun x=>x.elim) ((.slice none 0 0,[])) (by exact H.dz (Pl:=[_,_]) (bZ:=[_,_]) [1,0] Y O) O TB (hit) (fun _ _ h=>h) O (fun k args g h=>by obtain ⟨_,rfl⟩:=Xx h;rfl) (fun _ _ _ _ _ h=>h) (fun x=>x.elim) (aW.nil) ?_ ?_ ?_
 ·clear H;intro l2 yT vU bk k args gh G2 w2 F2 B2 a hk2 hm2 hI Gn El UY H;obtain ⟨u,Lo⟩:=gh;dsimp only at hI H;obtain ⟨hk,rfl⟩:=Xx hk2;dsimp only [uQ,List.cons_append,List.nil_append] at H;have hrw:=hI;refine rP ?_;refine gX nR H wn O ?_;clear H;intro b5 a w hb5 H;refine bg nR 0 (vs:=[_,_,_]) H wn O ?_;clear H;intro w H;refine aj ?_;refine Gn _ _ _ _ _ _ (by exact H.dz (Pl:=[_,_,_]) (bZ:=[_,_,_]) [1,0,2] Y O) ?_;clear H;intro w H;refine kP H (SB (SC (Ro Qq 2 O ?_)));clear H;intro a H;refine bV nR (cs:=[_,_,_]) H wn O O (H.hp.bR 1 O O) O ?_;clear H;intro a H;refine eU tF nR [_,_,_] [_,_,_] H wn O O O O O (by intro i q h;match i,h with|0,h=>exact h|n+1,h=>simp at h) O O ?_;clear H;intro b10 a w NI H;have H:=St.un (A:=[_,_,_,_]) H;refine dX (Li:=[_,_,_,_]++bk) (Lo:=Lo) (news:=[vi A[k].kind,vi A[k].from_,vi A[k].dx]) tF nR O O H wn O O hrw O (H.hp.bR 0 O O) O V V O ?_;clear H;intro v11 LJ a w GQ H;have H:=H.assoc;dsimp only [lca,bW] at H;obtain ⟨aiE,aiI,e11,-,-⟩:=GQ.shape;subst e11;refine bg Qq 3 (vs:=[_]) H wn O ?_;clear H;intro w H;refine aj ?_;refine El ((.slice aiE (k+1) aiI,LJ)) _ _ _ _ _ (by exact H.dz (Pl:=[_,_,_,_]) (bZ:=[_,_]) [1,3] Y O) ?_;rw [jq hk,jw,List.flatten_append];exact GQ
 ·clear H;intro QG gh QO a w hm2 hI H;obtain ⟨u,Lo⟩:=gh;dsimp only at hI H;dsimp only [lca,bW] at H;have hrw:=hI;rw [bJ,gG (bS _)] at hrw;refine K2 _ _ ?_;clear K2;refine kP H (SR fun _ K4=>Ro Qq 1 O (av K4 O ?_));clear H K4;intro a H;refine aU ?_;obtain ⟨Gr,hmr,hrep,H⟩:=St.kF (Li:=[_,_]) (Lo:=Lo) H hrw (rows:=A.map gM.dat) (by simp) (aic _ _);refine (Es H 0 O ?_).1;clear H;intro a w H;dsimp only [List.eraseIdx_cons_succ,List.eraseIdx_cons_zero] at H;refine lv H results78 O ?_;exact H.hp.fK (L':=[]) (List.nil_sublist _) ⟨O,hrep⟩
 intro Dk x;exact x.elim
theorem aai {G:GH} {w0:World} {bx:Nat} {v:ak} {A:List gM} (hO:jN G [bC bx v] w0) (hA:A.length<=4294967296) (hit:Ay prog G [bC bx v] (.func (.func 79) #[] #[(aJ bx 0)]) (A.map BA)) :
  Calls prog 54 #[.func (.func 79) #[] #[(aJ bx 0)]] w0 (jO w0 G [bC bx v] fun u G' L'=>L'=[]∧aF G' (.sl 3 (A.map gM.dat)) u):=by
 refine mP (N:=5) (T:=[(0,_)]) func54 O ntmps54 O O hO ?_;intro a H;refine kP H (SR fun _ K1=>av K1 O (SR fun _ K2=>Rm O ?_));clear H K1;intro a H;refine jT abT (Li:=[]) (L:=[_]) H wn O (Y7 (Hp.owns (Li:=[]) H.hp) hA hit) O ?_;clear H;rintro v4 G4 L4 a w ⟨rfl,hrep⟩ UC H;exact kH H (av K2 O (LR results54 O fun H=>H.hp.dP ⟨O,hrep⟩))
theorem ain {G:GH} {w0:World} (hO:jN G [] w0) (l:List fO) (v:ak) (hv:aF G (.sl 3 (l.map fO.dat)) v) :
  Calls prog 55 #[v] w0 (jO w0 G [] fun u G' L'=>G=G'∧∃ bx,u=.func (.func 79) #[] #[(aJ bx 0)]∧L'=[bC bx v]):=by
 obtain ⟨A,c,rfl,hc1,hc2,-⟩:=hv.slice;refine mP (N:=4) (T:=[(0,_)]) func55 O ntmps55 O O hO ?_;intro a H;refine gU (fun _ K1=>?_);refine jQ (cs:=[_]) H wn O O O ?_;clear H;intro b1 a w hb1 H;refine kH H (av K1 O (SR fun _ K2=>?_));clear H K1;intro a H;refine Bw H wn O O ?_;clear H;intro a H;exact kH H (av K2 O (LR results55 O fun H=>H.hp.dP ⟨O,b1,O,O⟩))
theorem abP:bL 74:=bN func74 O
theorem abQ:bL 75:=bN func75 O
theorem abR:bL 76:=bN func76 O
theorem abS:bL 77:=bN func77 O
theorem ahE:sD prog 169 [(0,1),(1,1),(2,1)] [.int .i64 0,.int .i64 0,.int .i64 0]:=⟨Z,Z⟩
theorem abz:bL 53:=bN func53 O
theorem abB:bL 55:=bN func55 O
theorem abA:bL 54:=bN func54 O
structure mO (G0:GH) (s:ByteArray):Prop where
 size:s.size<=1073741824
 ok:gq s=true
 lib:Dx G0 s
 len:(iD s).length=(xS s).length
def iL (s:ByteArray):List Nat:=0 :: (ow s).map fun x=>x.2.1
theorem Zg (s:ByteArray):zD s=(iL s).map fun x:Nat=>(x:Int):=by simp [zD,iL]
theorem IW (size:Nat):∀ (l:List (Nat × Nat)) (u f st:Nat) (m:wX),(∀ x∈rR size l u f st m,u<=x.2.1∧0 < x.2.1∧x.2.1<=u+l.length)∧((rR size l u f st m).map fun x=>x.2.1).Pairwise (· < ·)
 | [],u,f,st,m=>by
  rw [rR];split
  ·refine ⟨fun x hx=>?_,by simp⟩;rw [uP] at hx;subst hx;exact ⟨bS _,by assumption,bS _⟩
  exact ⟨fun x hx=>(by cases hx),by simp⟩
 | y :: l,u,f,st,m=>by
  have h1:=IW size l (u+1) u y.1 (mI m (qG xB y.2));have h2:=IW size l (u+1) f st (mI m (qG xB y.2));rw [rR];split
  ·rename_i hc
   refine ⟨fun x hx=>?_,?_⟩
   ·rcases nT.1 hx with rfl|hx
    ·exact ⟨bS _,hc.1,Nat.le_add_right _ _⟩
    have:=h1.1 x hx;simp only [ko];omega
   rw [gV,tT];refine ⟨fun z hz=>?_,h1.2⟩;obtain ⟨x,hx,rfl⟩:=List.mem_map.1 hz;have:=h1.1 x hx;dsimp only;omega
  exact ⟨fun x hx=>by have:=h2.1 x hx;simp only [ko];omega,h2.2⟩
theorem Rz {s:ByteArray} {i:Nat} (h:i+1 < (iL s).length):(iL s)[i]'V < (iL s)[i+1]∧(iL s)[i+1]<=(iD s).length:=by
 have hi:=IW s.size (iD s) 0 0 0 ⟨0,false,false,0⟩;rw [show rR s.size (iD s) 0 0 0 ⟨0,false,false,0⟩=ow s from rfl] at hi
 have hp:(iL s).Pairwise (· < ·):=by
  rw [iL,tT];refine ⟨fun z hz=>?_,hi.2⟩;obtain ⟨x,hx,rfl⟩:=List.mem_map.1 hz;exact (hi.1 x hx).2.1
 refine ⟨List.pairwise_iff_getElem.1 hp i (i+1) V h (Nat.lt_succ_self i),?_⟩
 have hx:(iL s)[i+1]=((ow s)[i]'(by simp [iL] at h;omega)).2.1:=by simp [iL]
 rw [hx];have:=(hi.1 _ (dV (by simp [iL] at h;omega))).2.2
 omega
def FN (s:ByteArray) (i:Nat):fO:=⟨um qj ((xS s).getD ((iL s).getD i 0) 0),((iL s).getD i 0:Nat),((iL s).getD (i+1) 0:Nat)⟩
def fH (s:ByteArray):List fO:=(List.range ((iL s).length - 1)).map (FN s)
theorem Sn (G:GH):∀ (B A:List fO),cO G 3 (A.map fO.dat) (A.map fO.cells).flatten->cO G 3 ((A++B).map fO.dat) ((A++B).map fO.cells).flatten
 | [],A,h=>by rw [lU];exact h
 | x :: B,A,h=>by
  have h2:=h.snoc (Z5 G x) O;have h3:=Sn G B (A++[x]) (by simpa using h2)
  simpa using h3
theorem aaf (G:GH) (A:List fO):cO G 3 (A.map fO.dat) (A.map fO.cells).flatten:=Sn G A [] cO.nil
set_option maxHeartbeats 2000000 in
theorem ahc {G0:GH} (G:GH) (w0:World) (hG:Hold G w0) (h0:∀ b o,G0 b=some o->G b=some o) (s:ByteArray) (hs:mO G0 s) :
  Calls prog 53 #[.string s] w0 (bQ w0 G fun u G'=>∃ x,u=.tuple #[x,vi 0]∧aF G' (.sl 3 ((fH s).map fO.dat)) x):=by
 have hml:maxLen=9223372036854775807:=rfl;have hcl:=DL s
 have hbl:(iL s).length=(ow s).length+1:=by simp [iL]
 have hsz:=hs.size;refine eN [(0,_)] func53 O ntmps53 O O hG ?_;intro a H;refine kP H (SR fun _ K1=>Ra O (av K1 O (SR fun _ K2=>Rm O ?_)));clear H K1;intro a H;refine s_call abP H wn O (afZ _ _ H.ro s hs.size hs.ok) O ?_;clear H;rintro v12 LB a w ⟨Yh,rfl,hpt⟩ JJ H;obtain ⟨pA,pc,rfl,-,-,-⟩:=hpt.slice;rw [bJ] at *;refine kH H (Rm O ?_);clear H;intro a H;(iterate 2 refine eZ H wn O O O ?_;clear H;intro a H);refine kH H (Ra O (av K2 O (SQ fun _ K3=>SR fun _ K4=>Rm O (Rc O (Kz K4 (Cd O ?_ ?_)))))) <;> clear H K2 K4
 ·intro h16 a H
  exact absurd h16 Y
 intro h16 a H
 try have p16:=dF h16
 refine kP H (Kc K3 (SR fun _ K5=>Rm O ?_));clear H K3;intro a H;refine s_call abQ H wn O (Zw _ _ H.ro (fun b o h=>JJ b o (h0 b o h)) s hs.size hs.lib) O ?_;clear H;rintro v19 oP a w ⟨x19,rfl,hbd⟩ iT H;rw [Zg] at hbd;obtain ⟨lA,lc,rfl,-,-,-⟩:=hbd.slice;rw [bJ,bJ] at *;refine kH H (Rm O ?_);clear H;intro a H;(iterate 2 refine eZ H wn O O O ?_;clear H;intro a H);refine kH H (Ra O (av K5 O (SQ fun _ K6=>SR fun _ K7=>Rm O (Rc O (Kz K7 (Cd O ?_ ?_)))))) <;> clear H K5 K7
 ·intro h23 a H
  exact absurd h23 Y
 intro h23 a H
 try have CS:=dF h23
 refine lV ?_;refine K6 _ _ ?_;clear K6;refine gU (fun _ K8=>?_);refine s_call abR H wn O (ahJ _ _ H.ro) O ?_;clear H;rintro v25 QJ a w htb Uy H;obtain ⟨tA,tc,rfl,-,-,-⟩:=htb.slice;replace hpt:=(hpt.mono iT).mono Uy;replace hbd:=hbd.mono Uy;refine kH H (av K8 O (SR fun _ K9=>av K9 O (SQ fun _ aP=>SR fun _ aT=>av aT O (SB ?_))));clear H K8 K9 aT;intro a H;skip;refine dY (ι:=Nat × ak × OL × GH) (Tc:=[(4,_),(6,_),(7,_)]) (Lc:=[]) (fun gh=>[(8,gh.2.1),(9,vi ((gh.1:Int)+1))]) (fun gh=>[]++gh.2.2.1) (fun gh=>gh.2.2.2) (fun gh=>gh.1<=(iL s).length - 1∧aW 169 3 gh.2.1 gh.1 (((fH s).take gh.1).map fO.cells).flatten gh.2.2.1∧(∀ b o,QJ b=some o->gh.2.2.2 b=some o)) (fun gh=>(iL s).length - gh.1) ((0,.slice none 0 0,[],QJ)) (by exact H.sub ⟨O,O,O,O,O,aI⟩) ?_ ?_
 ·exact ⟨fC _,aW.nil,fun _ _ h=>h⟩
 clear H;rintro ⟨j,v,Lo,g⟩ a w hI H;dsimp only at hI H;obtain ⟨hj,hrw,hgm⟩:=hI;dsimp only [lca,bW] at H;refine kP H (SQ fun _ bH=>SR fun _ bG=>Rm O (Rm O (Rl cB O (Rc O (Kz bG (Cd O ?_ ?_)))))) <;> clear H bG
 ·intro uo a H
  try have p29:=dT uo
  have hj1:j+1 < (iL s).length:=by omega
  obtain ⟨hb1,hb2⟩:=Rz hj1;obtain ⟨x0,hx0⟩:∃ x,x=(iL s)[j]:=⟨_,O⟩;obtain ⟨x1,hx1⟩:∃ x,x=(iL s)[j+1]:=⟨_,O⟩;rw [hs.len] at hb2;rw [<- hx0,<- hx1] at hb1;rw [<- hx1] at hb2
  have hk:x0 < (xS s).length:=by omega
  obtain ⟨z,hz⟩:∃ z,z=(xS s)[x0]:=⟨_,O⟩;obtain ⟨lb,lo,rfl,g1⟩:=rU (hbd.mono hgm) (show j < ((iL s).map fun x:Nat=>(x:Int)).length by rw [bJ];omega);obtain ⟨_,_,e1,g2⟩:=rU (hbd.mono hgm) (show j+1 < ((iL s).map fun x:Nat=>(x:Int)).length by rw [bJ];omega)
  injection e1 with e1;injection e1 with e2 e3;subst e2;subst e3
  obtain ⟨pb,po,rfl,g3⟩:=rU (hpt.mono hgm) hk;rw [List.getElem_map,<- hx0] at g1;rw [List.getElem_map,<- hx1] at g2;rw [<- hz] at g3
  have hcd:(fH s)[j]?=some ⟨um qj z,x0,x1⟩:=by
   have h0:(iL s)[j]?=some x0:=by rw [hx0];exact iR V
   have h1:(iL s)[j+1]?=some x1:=by rw [hx1];exact iR hj1
   have h2:(xS s)[x0]?=some z:=by rw [hz];exact iR hk
   rw [fH,nM,List.getElem?_range V,rJ,FN]
   simp only [List.getD_eq_getElem?_getD,h0,h1,h2,Option.getD_some]
  have hjc:j < (fH s).length:=(gN.1 hcd).1;have adV:(fH s)[j]=⟨um qj z,x0,x1⟩:=(gN.1 hcd).2;obtain ⟨vA,vc,rfl,GY,GZ⟩:=hrw.shape;refine kP H (Kc bH (SQ fun _ bX=>SB ?_));clear H bH;intro a H
  have nW:∀ (gT jV:Nat) (v:ak) (G G':GH),(∀ k o,G k=some o->G' k=some o)->(fun (gT jV:Nat) (v:ak) (G:GH)=>match jV with|0=>v=.slice vA j vc|1=>v=.slice tA qj.length tc|2=>v=.slice (some ⟨pb,po,none⟩) (xS s).length pc|3=>v=.slice (some ⟨lb,lo,none⟩) (iL s).length lc|4=>v=vi ((j:Int)+1)|5=>v=vi ((j:Int)+1 - 1)|6=>v=(aJ lb (lo+j*1))|7=>v=vi x0|8=>v=(aJ pb (po+x0*1))|9=>v=vi z|10=>v=vi (um qj z)|11=>v=.slice (some ⟨lb,lo,none⟩) (iL s).length lc|12=>v=vi ((j:Int)+1)|13=>v=vi ((j:Int)+1 - 1)|14=>v=(aJ lb (lo+j*1))|15=>v=vi x0|16=>v=.slice (some ⟨lb,lo,none⟩) (iL s).length lc|17=>v=vi ((j:Int)+1)|18=>v=(aJ lb (lo+(j+1)*1))|19=>v=vi x1|20=>v=.agg #[vi (um qj z),vi x0,vi x1]|21=>v=.slice (some ⟨gT,0,none⟩) 1 1|_=>True) gT jV v G->(fun (gT jV:Nat) (v:ak) (G:GH)=>match jV with|0=>v=.slice vA j vc|1=>v=.slice tA qj.length tc|2=>v=.slice (some ⟨pb,po,none⟩) (xS s).length pc|3=>v=.slice (some ⟨lb,lo,none⟩) (iL s).length lc|4=>v=vi ((j:Int)+1)|5=>v=vi ((j:Int)+1 - 1)|6=>v=(aJ lb (lo+j*1))|7=>v=vi x0|8=>v=(aJ pb (po+x0*1))|9=>v=vi z|10=>v=vi (um qj z)|11=>v=.slice (some ⟨lb,lo,none⟩) (iL s).length lc|12=>v=vi ((j:Int)+1)|13=>v=vi ((j:Int)+1 - 1)|14=>v=(aJ lb (lo+j*1))|15=>v=vi x0|16=>v=.slice (some ⟨lb,lo,none⟩) (iL s).length lc|17=>v=vi ((j:Int)+1)|18=>v=(aJ lb (lo+(j+1)*1))|19=>v=vi x1|20=>v=.agg #[vi (um qj z),vi x0,vi x1]|21=>v=.slice (some ⟨gT,0,none⟩) 1 1|_=>True) gT jV v G':=by
   intro gT jV v G G' hm h
   match jV,h with
   | 0,h=>exact h
   | 1,h=>exact h
   | 2,h=>exact h
   | 3,h=>exact h
   | 4,h=>exact h
   | 5,h=>exact h
   | 6,h=>exact h
   | 7,h=>exact h
   | 8,h=>exact h
   | 9,h=>exact h
   | 10,h=>exact h
   | 11,h=>exact h
   | 12,h=>exact h
   | 13,h=>exact h
   | 14,h=>exact h
   | 15,h=>exact h
   | 16,h=>exact h
   | 17,h=>exact h
   | 18,h=>exact h
   | 19,h=>exact h
   | 20,h=>exact h
   | 21,h=>exact h
   | 22,h=>exact trivial
   | 23,h=>exact trivial
   | _+24,h=>exact trivial
  refine ZB (hmx) [[],[],[],[],[],[4],[3,4,5],ra 3 4,ra 2 6,ra 2 7,ra 1 9,[],[],[12],[11,12,13],ra 11 4,[],[],[16,17],[16,17,18],ra 1 19,ra 1 20,ra 0 22,ra 0 23] [22,23] Z Z 21 Y (.cells [vi (um qj z),vi x0,vi x1].toArray 169 (0,0)) (fun (gT jV:Nat) (v:ak) (G:GH)=>match jV with|0=>v=.slice vA j vc|1=>v=.slice tA qj.length tc|2=>v=.slice (some ⟨pb,po,none⟩) (xS s).length pc|3=>v=.slice (some ⟨lb,lo,none⟩) (iL s).length lc|4=>v=vi ((j:Int)+1)|5=>v=vi ((j:Int)+1 - 1)|6=>v=(aJ lb (lo+j*1))|7=>v=vi x0|8=>v=(aJ pb (po+x0*1))|9=>v=vi z|10=>v=vi (um qj z)|11=>v=.slice (some ⟨lb,lo,none⟩) (iL s).length lc|12=>v=vi ((j:Int)+1)|13=>v=vi ((j:Int)+1 - 1)|14=>v=(aJ lb (lo+j*1))|15=>v=vi x0|16=>v=.slice (some ⟨lb,lo,none⟩) (iL s).length lc|17=>v=vi ((j:Int)+1)|18=>v=(aJ lb (lo+(j+1)*1))|19=>v=vi x1|20=>v=.agg #[vi (um qj z),vi x0,vi x1]|21=>v=.slice (some ⟨gT,0,none⟩) 1 1|_=>True) (fun _ _ i v G hi h=>by
   (iterate 24 (rcases i with _|i;(first|exact h|exact absurd O hi)));exact trivial) H ?_ ?_ ?_ Z
  ·clear H;refine aH ?_ ?_ ?_ ?_ (aH ?_ ?_ ?_ ?_ (aH ?_ ?_ ?_ ?_ (aH ?_ ?_ ?_ ?_ (aH ?_ ?_ ?_ ?_ (aH ?_ ?_ ?_ ?_ fD)))))
   ·intro gT oq ay a w G1 _ _ ah hc hG HT hv;have H:=HT;clear ah;have Hb:=H.full;have H:=Hb;clear hc;refine kH H (Rm O ?_);clear H;intro a H;refine aj ⟨O,?_⟩;exact aB HT Hb hG hv (nW gT) H O
   ·intro gT oq ay a w G1 _ _ ah hc hG HT hv;have H:=HT;clear ah;have Hb:=H.full;have H:=Hb;clear hc;refine kH H (Rm O ?_);clear H;intro a H;refine aj ⟨O,?_⟩;exact aB HT Hb hG hv (nW gT) H O
   ·intro gT oq ay a w G1 _ _ ah hc hG HT hv;have H:=HT;clear ah;have Hb:=H.full;have H:=Hb;clear hc;refine kH H (Rm O ?_);clear H;intro a H;refine aj ⟨O,?_⟩;exact aB HT Hb hG hv (nW gT) H O
   ·intro gT oq ay a w G1 _ _ ah hc hG HT hv;have H:=HT;clear ah;have Hb:=H.full;have H:=Hb;clear hc;refine kH H (Rm O ?_);clear H;intro a H;refine aj ⟨O,?_⟩;exact aB HT Hb hG hv (nW gT) H O
   ·intro gT oq ay a w G1 _ _ ah hc hG HT hv;have H:=HT;clear ah;have Hb:=H.full;have H:=Hb;clear hc;refine kH H (Rm O ?_);clear H;intro a H;refine aj ⟨O,?_⟩;exact aB HT Hb hG hv (nW gT) H O
   ·intro gT oq ay a w G1 _ _ ah hc hG HT hv;have H:=HT;clear ah;have H:=H.au (hv 4 36 (hc 4 Y) O) O;have Hb:=H.full;have H:=Hb;clear hc;refine kH H (Rs O ?_);clear H;intro a H;refine aj ⟨O,?_⟩;exact aB HT Hb hG hv (nW gT) H O
   ·intro gT oq ay a w G1 _ _ ah hc hG HT hv;have H:=HT;clear ah;have H:=H.au (hv 3 35 (hc 3 Y) O) O;have H:=H.au (hv 5 37 (hc 5 Y) O) O;have Hb:=H.full;have H:=Hb;clear hc;refine bD cB aC j H wn O O V V O ?_;clear H;intro a H;refine aj ⟨O,?_⟩;exact aB HT Hb hG hv (nW gT) H O
   ·intro gT oq ay a w G1 _ _ ah hc hG HT hv;have H:=HT;clear ah;have H:=H.au (hv 6 38 (hc 6 Y) O) O;have Hb:=H.full;have H:=Hb;clear hc;refine kH H (Rg aC O (aK hG g1) ?_);clear H;intro a H;refine aj ⟨O,?_⟩;exact aB HT Hb hG hv (nW gT) H O
   ·intro gT oq ay a w G1 _ _ ah hc hG HT hv;have H:=HT;clear ah;have H:=H.au (hv 2 34 (hc 2 Y) O) O;have H:=H.au (hv 7 39 (hc 7 Y) O) O;have Hb:=H.full;have H:=Hb;clear hc;refine bD cB aC x0 H wn O O O hk O ?_;clear H;intro a H;refine aj ⟨O,?_⟩;exact aB HT Hb hG hv (nW gT) H O
   ·intro gT oq ay a w G1 _ _ ah hc hG HT hv;have H:=HT;clear ah;have H:=H.au (hv 8 40 (hc 8 Y) O) O;have Hb:=H.full;have H:=Hb;clear hc;refine kH H (Rg aC O (aK hG g3) ?_);clear H;intro a H;refine aj ⟨O,?_⟩;exact aB HT Hb hG hv (nW gT) H O
   ·intro gT oq ay a w G1 _ _ ah hc hG HT hv;have H:=HT;clear ah;have H:=H.au (hv 1 33 (hc 1 Y) O) O;have H:=H.au (hv 9 41 (hc 9 Y) O) O;have Hb:=H.full;have H:=Hb;clear hc;refine s_call abS H wn O (find_spec _ _ H.ro qj z _ ((htb.mono hgm).mono hG) Y) O ?_;clear H;rintro v42 G42 a w rfl adt H;refine aj ⟨O,?_⟩;exact oD Z (nW gT) O O HT Hb hG hv adt (rfl) H
   ·intro gT oq ay a w G1 _ _ ah hc hG HT hv;have H:=HT;clear ah;have Hb:=H.full;have H:=Hb;clear hc;refine kH H (Rm O ?_);clear H;intro a H;refine aj ⟨O,?_⟩;exact aB HT Hb hG hv (nW gT) H O
   ·intro gT oq ay a w G1 _ _ ah hc hG HT hv;have H:=HT;clear ah;have Hb:=H.full;have H:=Hb;clear hc;refine kH H (Rm O ?_);clear H;intro a H;refine aj ⟨O,?_⟩;exact aB HT Hb hG hv (nW gT) H O
   ·intro gT oq ay a w G1 _ _ ah hc hG HT hv;have H:=HT;clear ah;have H:=H.au (hv 12 44 (hc 12 Y) O) O;have Hb:=H.full;have H:=Hb;clear hc;refine kH H (Rs O ?_);clear H;intro a H;refine aj ⟨O,?_⟩;exact aB HT Hb hG hv (nW gT) H O
   ·intro gT oq ay a w G1 _ _ ah hc hG HT hv;have H:=HT;clear ah;have H:=H.au (hv 11 43 (hc 11 Y) O) O;have H:=H.au (hv 13 45 (hc 13 Y) O) O;have Hb:=H.full;have H:=Hb;clear hc;refine bD cB aC j H wn O O V V O ?_;clear H;intro a H;refine aj ⟨O,?_⟩;exact aB HT Hb hG hv (nW gT) H O
   ·intro gT oq ay a w G1 _ _ ah hc hG HT hv;have H:=HT;clear ah;have H:=H.au (hv 14 46 (hc 14 Y) O) O;have Hb:=H.full;have H:=Hb;clear hc;refine kH H (Rg aC O (aK hG g1) ?_);clear H;intro a H;refine aj ⟨O,?_⟩;exact aB HT Hb hG hv (nW gT) H O
   ·intro gT oq ay a w G1 _ _ ah hc hG HT hv;have H:=HT;clear ah;have Hb:=H.full;have H:=Hb;clear hc;refine kH H (Rm O ?_);clear H;intro a H;refine aj ⟨O,?_⟩;exact aB HT Hb hG hv (nW gT) H O
   ·intro gT oq ay a w G1 _ _ ah hc hG HT hv;have H:=HT;clear ah;have Hb:=H.full;have H:=Hb;clear hc;refine kH H (Rm O ?_);clear H;intro a H;refine aj ⟨O,?_⟩;exact aB HT Hb hG hv (nW gT) H O
   ·intro gT oq ay a w G1 _ _ ah hc hG HT hv;have H:=HT;clear ah;have H:=H.au (hv 16 48 (hc 16 Y) O) O;have H:=H.au (hv 17 49 (hc 17 Y) O) O;have Hb:=H.full;have H:=Hb;clear hc;refine bD cB aC (j+1) H wn O O V V O ?_;clear H;intro a H;refine aj ⟨O,?_⟩;exact aB HT Hb hG hv (nW gT) H O
   ·intro gT oq ay a w G1 _ _ ah hc hG HT hv;have H:=HT;clear ah;have H:=H.au (hv 18 50 (hc 18 Y) O) O;have Hb:=H.full;have H:=Hb;clear hc;refine kH H (Rg aC O (aK hG g2) ?_);clear H;intro a H;refine aj ⟨O,?_⟩;exact aB HT Hb hG hv (nW gT) H O
   ·intro gT oq ay a w G1 _ _ ah hc hG HT hv;have H:=HT;clear ah;have H:=H.au (hv 10 42 (hc 10 Y) O) O;have H:=H.au (hv 15 47 (hc 15 Y) O) O;have H:=H.au (hv 19 51 (hc 19 Y) O) O;have Hb:=H.full;have H:=Hb;clear hc;refine ku ahE [_,_,_] H wn O O O O ?_;clear H;intro a H;refine aj ⟨O,?_⟩;exact aB HT Hb hG hv (nW gT) H O
   ·intro _ _ _ _ _ _ _ hB;exact absurd hB Y
   ·intro _ _ _ _ _ _ hB;exact absurd hB Y
   intro _ _ _ _ _ _ hB;exact absurd hB Y
  ·clear H;intro o_ ay a w G1 xJ _ hc hG HT hv;obtain rfl:_=o_:=Option.some.inj xJ;clear xJ;have H:=HT;have H:=H.au (hv 0 20 52 Y (hc 20 Y) O) O;have Hb:=H.full;have H:=Hb;clear hc;refine eU jv fZ [_,_,_] [_,_,_] H wn O O O O O (by intro i q h;match i,h with|0,h=>exact h|n+1,h=>simp at h) O O ?_;clear H;intro FD a w ajK H;refine aj ⟨O,FD,?_⟩;exact aaE Z O HT Hb hG (fun j e h1 h2 h3=>hv _ j e h1 h2 h3) (rfl) H
  clear H;intro FD a w G uw H hv;have H:=H.au (hv 0 32 O O) O;have H:=H.au (hv 21 53 O O) O;clear hv;refine dX (Li:=[_]) (Lo:=Lo) (news:=[vi (um qj z),vi x0,vi x1]) jv fZ O O H wn O O hrw O (H.hp.bR 0 O O) O V V O ?_;clear H;intro v54 Q7 a w aeI H
  have aeJ:aW 169 3 v54 (j+1) (((fH s).take (j+1)).map fO.cells).flatten Q7:=by
   rw [jq hjc,adV,jw,List.flatten_append];exact aeI
  refine kH H (Ra O ?_);clear H;intro a H;refine aj ⟨O,?_⟩;refine bX _ _ ?_;clear bX;refine kP H (SC (Rm O (Rd O (Ra O ?_))));clear H;intro a H;refine aj ?_;refine bE ((j+1,v54,Q7,G)) (by exact (H.dz (Pl:=[_]) (bZ:=[]) [] Y O).sub ⟨O,O,O,O,O,aI⟩) ?_
  (try dsimp only);exact ⟨V,aeJ,fun b o h=>uw b o (hgm b o h)⟩
 intro uo a H
 try have p29:=dF uo
 refine dJ ?_;refine aP _ _ ?_;clear aP;refine kP H (SR fun _ dG=>Rm O (Ra O (av dG O ?_)));clear H dG;intro a H;refine aU ?_
 have hlc:(fH s).length=(iL s).length - 1:=by simp [fH]
 obtain ⟨Gr,hmr,hrep,H⟩:=St.kF (Li:=[]) (Lo:=Lo) H hrw (rows:=(fH s).map fO.dat) (by rw [bJ];omega) (by rw [gG V];exact aaf _ _);refine (bK H results53 (.cons (aG H O) (.cons (aG H O) .nil)) ?_).1;exact H.rt ⟨_,O,hrep⟩
theorem PX {G0:GH} (G:GH) (w0:World) (hG:Hold G w0) (h0:∀ b o,G0 b=some o->G b=some o) (s:ByteArray) (hs:mO G0 s) :
  Calls prog 37 #[.string s] w0 (bQ w0 G fun u G'=>∃ x,u=.tuple #[x,vi 0]∧aF G' (.sl 3 ((jR (fH s)).map gM.dat)) x):=by
 have hcl:=DL s;have hsz:=hs.size
 have hlc:(fH s).length=(ow s).length:=by simp [fH,iL]
 have htl:=H6 (fH s).length (fH s);refine eN [(0,_)] func37 O ntmps37 O O hG ?_;intro a H;refine kP H (SR fun _ K1=>Ra O (av K1 O (SR fun _ K2=>Rm O ?_)));clear H K1;intro a H;refine s_call abz H wn O (ahc _ _ H.ro h0 s hs) O ?_;clear H;rintro v8 G8 a w ⟨x8,rfl,hcs⟩ Ej H;refine kH H (Rm O ?_);clear H;intro a H;(iterate 2 refine eZ H wn O O O ?_;clear H;intro a H);refine kH H (Ra O (av K2 O (SQ fun _ K3=>SR fun _ K4=>Rm O (Rc O (Kz K4 (Cd O ?_ ?_)))))) <;> clear H K2 K4
 ·intro h12 a H
  exact absurd h12 Y
 intro h12 a H
 try have oJ:=dF h12
 refine kP H (Kc K3 (SR fun _ K5=>Rm O ?_));clear H K3;intro a H;refine jT abB (Li:=[]) (L:=[]) H wn O (ain (Hp.owns (Li:=[]) H.hp) _ _ hcs) O ?_;clear H;rintro v15 _ L15 a w ⟨rfl,bx,rfl,rfl⟩ - H;dsimp only [List.nil_append] at H;refine jT abA (Li:=[]) (L:=[_]) H wn O (aai (Hp.owns (Li:=[]) H.hp) (by unfold jR;omega) (ail hcs)) rfl ?_;clear H;rintro v16 BJ L16 a w ⟨rfl,hrep⟩ Cu H;dsimp only [List.nil_append] at H;refine kH H (Ra O (av K5 O ?_));clear H K5;intro a H;refine aU ?_;refine (bK H results37 (.cons (aG H O) (.cons (aG H O) .nil)) ?_).1;exact H.rt ⟨_,O,hrep⟩
theorem MX:bL 37:=bN func37 O
theorem Qs:prog.underlying 172=some (.slice 21):=by kernel_rfl
theorem abD:bL 57:=bN func57 O
theorem aiw:Ty prog 21 1 4 [.int .i32 0] false:=⟨Z,Z⟩
theorem kX:prog.underlying 30=some (.slice 9):=by kernel_rfl
theorem DY:gL prog 102 1 1:=⟨Z⟩
theorem DZ:gL prog 102 2 2:=⟨Z⟩
theorem abC:bL 56:=bN func56 O
def QS (N:Int) (l:List fO):Prop:=∀ i j (hi:i < l.length) (hj:j < l.length),i<=j->0<=l[i].from_∧l[i].from_ < l[j].dx∧l[j].dx<=N
theorem Xv {N:Int}:∀ (f:Nat) (l:List fO),QS N l->∀ t∈qW f l,0<=t.from_∧t.from_ < t.dx∧t.dx<=N
 | 0,_,_,t,ht=>by simp [qW] at ht
 | f+1,l,hl,t,ht=>by
  rw [qW] at ht
  split at ht
  ·rename_i h
   have hb:=OV h
   rcases nT.1 ht with rfl|ht
   ·exact hl 0 ((nC l).1 - 1) h V (fC _)
   refine Xv f (l.drop (nC l).1) (fun i j hi hj hij=>?_) t ht;rw [List.length_drop] at hi hj;have:=hl ((nC l).1+i) ((nC l).1+j) V V V
   simpa only [List.getElem_drop] using this
  cases ht
theorem Zf (s:ByteArray):(iL s).Pairwise (· < ·):=by
 have hi:=IW s.size (iD s) 0 0 0 ⟨0,false,false,0⟩;rw [show rR s.size (iD s) 0 0 0 ⟨0,false,false,0⟩=ow s from rfl] at hi;rw [iL,tT];refine ⟨fun z hz=>?_,hi.2⟩;obtain ⟨x,hx,rfl⟩:=List.mem_map.1 hz;exact (hi.1 x hx).2.1
theorem aae (s:ByteArray):QS (iD s).length (fH s):=by
 intro i j hi hj hij
 simp only [fH,bJ,List.length_range] at hi hj
 have e1:(fH s)[i]'(by simpa [fH] using hi)=FN s i:=by simp [fH]
 have e2:(fH s)[j]'(by simpa [fH] using hj)=FN s j:=by simp [fH]
 rw [e1,e2]
 simp only [FN,List.getD_eq_getElem?_getD,iR (show i < (iL s).length by omega),iR (show j+1 < (iL s).length by omega),Option.getD_some]
 have h1:=List.pairwise_iff_getElem.1 (Zf s) i (j+1) V V V;have h2:=(Rz (show j+1 < (iL s).length by omega)).2
 omega
theorem KR (s:ByteArray):∀ t∈jR (fH s),0<=t.from_∧t.from_ < t.dx∧t.dx<=(iD s).length:=Xv _ _ (aae s)
def wI (s:ByteArray) (t:gM):ByteArray:=runesBytes ((((iD s).map fun x=>(x.2:Int)).drop t.from_.toNat).take (t.dx.toNat - t.from_.toNat))
def rX (s:ByteArray):List ByteArray:=(jR (fH s)).map (wI s)
def qo (s:ByteArray):List Dat:=[.lf (.string s)]
theorem ahO (G:GH) (s:ByteArray):aY G (qo s) [.string s]:=by
 simp only [qo,aY]
 exact ⟨_,_,O,by simp [aF,Value.oneCell'],O⟩
theorem ahN {G:GH} {s:ByteArray} {cs:List ak} (h:aY G (qo s) cs):cs=[.string s]:=by
 simp only [qo,aY,aF] at h
 obtain ⟨v1,_,rfl,⟨rfl,-⟩,rfl⟩:=h
 rfl
theorem HY {G:GH} {r:List ByteArray} {A:Option Addr} {n c k:Nat} (hv:aF G (.sl 1 (r.map qo)) (.slice A n c)) (hk:k < r.length):∃ b o,A=some ⟨b,o,none⟩∧aS G b (o+k*1)=some (.string r[k]):=by
 obtain ⟨A',c',he,_,_,hg⟩:=hv.slice
 injection he with e1 e2 e3
 subst e1;obtain ⟨b,o,cs,h1,h2,h3,h4⟩:=hg k (qo r[k]) (by simp [hk]);obtain rfl:=ahN h4;exact ⟨b,o,h1,h3 0 _ O⟩
theorem Xl (G:GH):∀ (B A:List ByteArray),cO G 1 (A.map qo) (A.map Value.string)->cO G 1 ((A++B).map qo) ((A++B).map Value.string)
 | [],A,h=>by rw [lU];exact h
 | x :: B,A,h=>by
  have h2:=h.snoc (ahO G x) O;have h3:=Xl G B (A++[x]) (by simpa using h2)
  simpa using h3
theorem PZ (G:GH) (A:List ByteArray):cO G 1 (A.map qo) (A.map Value.string):=Xl G A [] cO.nil
def xU (z:Int):List Dat:=[.lf (.int .i32 z)]
theorem agw (G:GH) (z:Int):aY G (xU z) [.int .i32 z]:=by
 simp only [xU,aY]
 exact ⟨_,_,O,by simp [aF,Value.oneCell'],O⟩
theorem agu {G:GH} {s:Int} {cs:List ak} (h:aY G (xU s) cs):cs=[.int .i32 s]:=by
 simp only [xU,aY,aF] at h
 obtain ⟨v1,_,rfl,⟨rfl,-⟩,rfl⟩:=h
 rfl
theorem Wy (G:GH):∀ (B A:List Int),cO G 1 (A.map xU) (A.map (Value.int .i32))->cO G 1 ((A++B).map xU) ((A++B).map (Value.int .i32))
 | [],A,h=>by rw [lU];exact h
 | x :: B,A,h=>by
  have h2:=h.snoc (agw G x) O;have h3:=Wy G B (A++[x]) (by simpa using h2)
  simpa using h3
theorem agz (G:GH) (A:List Int):cO G 1 (A.map xU) (A.map (Value.int .i32)):=Wy G A [] cO.nil
theorem agA {G:GH} {r:List Int} {A:Option Addr} {n c:Nat} (hv:aF G (.sl 1 (r.map xU)) (.slice A n c)) {lo hi:Nat} (h1:lo < hi) (h2:hi<=r.length):∃ b o,(if c=lo then A else A.map (·.add (lo*1)))=some ⟨b,o,none⟩∧∀ j (h:j < ((r.drop lo).take (hi - lo)).length),aS G b (o+j)=some (.int .i32 ((r.drop lo).take (hi - lo))[j]):=by
 have hp:=hv.part lo hi V (by rw [bJ];exact h2);obtain ⟨A',c',he,_,_,hg⟩:=hp.slice
 injection he with e1 e2 e3
 have hrow:∀ j (h:j < ((r.drop lo).take (hi - lo)).length),((List.map xU r).drop lo |>.take (hi - lo))[j]?=some (xU ((r.drop lo).take (hi - lo))[j]):=by
  intro j h;rw [<- List.map_drop,<- List.map_take,nM,iR h];rfl
 obtain ⟨b,o,cs,g1,g2,g3,g4⟩:=hg 0 _ (hrow 0 (by simp;omega));refine ⟨b,o,e1.trans g1,fun j h=>?_⟩;obtain ⟨b',o',cs',k1,k2,k3,k4⟩:=hg j _ (hrow j h)
 obtain ⟨rfl,rfl⟩:b=b'∧o=o':=by rw [g1] at k1;simpa using k1
 obtain rfl:=agu k4;have:=k3 0 _ O
 simpa using this
theorem aip (G:GH) (w0:World) (hG:Hold G w0) (x y z:Int):Calls prog 57 #[.agg #[vi x,vi y,vi z]] w0 (bQ w0 G fun u G'=>u=.bool true):=by
 refine eN [(0,_)] func57 O ntmps57 O O hG ?_;intro a H;refine gU (fun _ K1=>?_);refine jQ (cs:=[_,_,_]) H wn O O O ?_;clear H;intro b1 a w hb1 H;exact kH H (av K1 O (SR fun _ K2=>av K2 O (LR results57 O fun H=>H.rt O)))
set_option maxHeartbeats 1000000 in
theorem ahL {G0:GH} (G:GH) (w0:World) (hG:Hold G w0) (h0:∀ b o,G0 b=some o->G b=some o) (s:ByteArray) (hs:mO G0 s) :
  Calls prog 56 #[.string s,.func (.func 57) #[] #[]] w0 (bQ w0 G fun u G'=>∃ x,u=.tuple #[x,vi 0]∧aF G' (.sl 1 ((rX s).map qo)) x):=by
 have hml:maxLen=9223372036854775807:=rfl;have hcl:=DL s;have hsz:=hs.size
 have hlc:(fH s).length=(ow s).length:=by simp [fH,iL]
 have htl:=H6 (fH s).length (fH s);rw [show qW (fH s).length (fH s)=jR (fH s) from rfl] at htl;have hrl:(iD s).length<=s.size:=Ew s s.size 0;refine eN [(0,_),(1,_)] func56 O ntmps56 O O hG ?_;intro a H;refine kP H (SR fun _ K1=>Ra O (av K1 O (SR fun _ K2=>Rm O ?_)));clear H K1;intro a H;refine s_call MX H wn O (PX _ _ H.ro h0 s hs) O ?_;clear H;rintro v14 Ik a w ⟨x14,rfl,htk⟩ Gw H;obtain ⟨tA,tc,rfl,-,-,-⟩:=htk.slice;rw [bJ] at *;refine kH H (Rm O ?_);clear H;intro a H;(iterate 2 refine eZ H wn O O O ?_;clear H;intro a H);refine kH H (Ra O (av K2 O (SQ fun _ K3=>SR fun _ K4=>Rm O (Rc O (Kz K4 (Cd O ?_ ?_)))))) <;> clear H K2 K4
 ·intro h18 a H
  exact absurd h18 Y
 intro h18 a H
 try have nY:=dF h18
 refine kP H (Kc K3 (SR fun _ K5=>Rm O ?_));clear H K3;intro a H;refine agT kL Qs Qu H wn O V O ?_;clear H;intro v21 LP a w JV H;rw [lU] at H;rw [show ((iD s).map fun x=>Value.int .i32 (x.2:Int))=((iD s).map fun x=>(x.2:Int)).map (Value.int .i32) by rw [List.map_map];rfl] at JV;obtain ⟨Au,qL,hrn,H⟩:=St.kF (Li:=[]) (Lo:=LP) H JV (rows:=((iD s).map fun x=>(x.2:Int)).map xU) (by simp) (agz Ik _);obtain ⟨rA,rc,rfl,hrc,-,-⟩:=hrn.slice;rw [bJ,bJ] at *;refine kH H (av K5 O (SR fun _ K6=>av K6 O (SQ fun _ K7=>SR fun _ K8=>Rm O (Rl tF O (Rm O (Kz K8 (SB ?_)))))));clear H K5 K6 K8;intro a H;skip;refine dY (ι:=Nat × ak × OL × GH) (Tc:=[(1,_),(8,_),(22,_),(23,_)]) (Lc:=[]) (fun gh=>[(9,gh.2.1),(24,vi gh.1)]) (fun gh=>[]++gh.2.2.1) (fun gh=>gh.2.2.2) (fun gh=>gh.1<=(jR (fH s)).length∧aW 9 1 gh.2.1 gh.1 (((rX s).take gh.1).map Value.string) gh.2.2.1∧(∀ b o,Au b=some o->gh.2.2.2 b=some o)) (fun gh=>(jR (fH s)).length - gh.1) ((0,.slice none 0 0,[],Au)) (by exact H.sub ⟨O,O,O,O,O,O,aI⟩) ?_ ?_
 ·exact ⟨fC _,aW.nil,fun _ _ h=>h⟩
 clear H;rintro ⟨k,v,Lo,g⟩ a w hI H;dsimp only at hI H;obtain ⟨hk,hrw,hgm⟩:=hI;dsimp only [lca,bW] at H;refine kP H (SR fun _ K9=>Rc O (Kz K9 (SQ fun _ aP=>Cd O ?_ ?_))) <;> clear H K9
 ·intro kN a H
  try have p25:=dT kN
  have hk1:k < (jR (fH s)).length:=by omega
  obtain ⟨b,o,rfl,hrow⟩:=Qf ((htk.mono qL).mono hgm) hk1;obtain ⟨t,ht⟩:∃ t,t=(jR (fH s))[k]:=⟨_,O⟩;have htb:=KR s t (by rw [ht];exact dV _);rw [<- ht] at hrow
  have hxt:(rX s)[k]?=some (wI s t):=by rw [rX,nM,iR hk1,rJ,ht]
  have hkx:k < (rX s).length:=(gN.1 hxt).1;have aeT:(rX s)[k]=wI s t:=(gN.1 hxt).2
  have hf0:t.from_=(t.from_.toNat:Int):=by omega
  have ht0:t.dx=(t.dx.toNat:Int):=by omega
  refine kP H (Kc aP (SQ fun _ aT=>SB (SR fun _ bH=>Ri tF nR O O ?_)));clear H aP;intro a H;refine bV nR (cs:=[_,_,_]) H wn O O (fun j v hj=>H.hp.aS (hrow j v hj)) O ?_;clear H;intro a H;refine gX nR H wn O ?_;clear H;intro b11 a w Un H;refine bg nR 0 (vs:=[_,_,_]) H wn O ?_;clear H;intro w H;refine bH _ _ ?_;clear bH;refine kP H (SR fun _ bG=>Rm O ?_);clear H;intro a H;refine bV nR (cs:=[_,_,_]) H wn O O (H.hp.bR 0 O O) O ?_;clear H;intro a H;refine yV H wn O O (sI (caps:=[]) (args:=[_]) abD (aip _ _ H.ro _ _ _)) O ?_;clear H;rintro v30 Dr a w rfl jr H;refine bG _ _ ?_;clear bG;refine ou H O ?_ ?_
  ·intro Cj
   try have p30:=dT Cj
   refine kP H (SC (Rm O (Rm O (fG DY aC 0 O O (fG DZ aC 0 O O ?_)))));clear H;intro a H;obtain ⟨pb,po,hpA,hpc⟩:=agA ((hrn.mono hgm).mono jr) (show t.from_.toNat < t.dx.toNat by omega) (show t.dx.toNat<=((iD s).map fun x=>(x.2:Int)).length by rw [bJ];omega);refine WU Qs aiw t.from_.toNat t.dx.toNat H wn O O O hf0 ht0 V V O ?_;clear H;intro a H;rw [hpA] at H;refine agR _ Qs Qu kL H wn O (by simp;omega) (fun j hj=>H.hp.aS (hpc j hj)) O ?_;clear H;intro a H;skip;rw [show runesBytes ((((iD s).map fun x=>(x.2:Int)).drop t.from_.toNat).take (t.dx.toNat - t.from_.toNat))=wI s t from rfl] at H;refine eU kX iW [_] [_] H wn O O O O O (by intro i q h;match i,h with|0,h=>exact h|n+1,h=>simp at h) O O ?_;clear H;intro vS a w NQ H;refine dX (Li:=[_,_]) (Lo:=Lo) (news:=[.string (wI s t)]) kX iW O O H wn O O hrw O (H.hp.bR 0 O O) O V V O ?_;clear H;intro v40 Q6 a w aeF H
   have aeG:aW 9 1 v40 (k+1) (((rX s).take (k+1)).map Value.string) Q6:=by
    rw [jq hkx,aeT,jw];exact aeF
   refine kH H (bO aT O (SC (Rd O (Rm O ?_))));clear H aT;intro a H;refine aj ?_;refine bE ((k+1,v40,Q6,Dr)) (by exact (H.dz (Pl:=[_,_]) (bZ:=[]) [] Y O).sub ⟨O,O,O,O,O,O,aI⟩) ?_
   (try dsimp only);exact ⟨V,aeG,fun b o h=>jr b o (hgm b o h)⟩
  intro Cj
  exact absurd Cj Y
 intro kN a H
 try have p25:=dF kN
 refine dJ ?_;refine K7 _ _ ?_;clear K7;refine kP H (SR fun _ bX=>Rm O (Ra O (av bX O ?_)));clear H bX;intro a H;refine aU ?_
 have hlx:(rX s).length=(jR (fH s)).length:=by simp [rX]
 obtain ⟨Gr,hmr,hrep,H⟩:=St.kF (Li:=[]) (Lo:=Lo) H hrw (rows:=(rX s).map qo) (by rw [bJ];omega) (by rw [gG V];exact PZ _ _);refine (bK H results56 (.cons (aG H O) (.cons (aG H O) .nil)) ?_).1;exact H.rt ⟨_,O,hrep⟩
theorem ahK {G0:GH} (G:GH) (w0:World) (hG:Hold G w0) (h0:∀ b o,G0 b=some o->G b=some o) (s:ByteArray) (hs:mO G0 s) :
  Calls prog 38 #[.string s] w0 (bQ w0 G fun u G'=>∃ x,u=.tuple #[x,vi 0]∧aF G' (.sl 1 ((rX s).map qo)) x):=by
 refine eN [(0,_)] func38 O ntmps38 O O hG ?_;intro a H;refine kP H (SR fun _ K1=>Ra O (av K1 O (SR fun _ K2=>Rm O ?_)));clear H K1;intro a H;refine s_call abC H wn O (ahL _ _ H.ro h0 s hs) O ?_;clear H;rintro v5 G5 a w ⟨x5,rfl,hrep⟩ JL H;(iterate 2 refine eZ H wn O O O ?_;clear H;intro a H);refine kH H (Ra O (av K2 O ?_));clear H K2;intro a H;refine aU ?_;refine (bK H results38 (.cons (aG H O) (.cons (aG H O) .nil)) ?_).1;exact H.rt ⟨_,O,hrep⟩
theorem Ws {s:ByteArray}:∀ (q i f g:Nat),s.size - i<=q->s.size - i<=f->s.size - i<=g->iN s i < 0->(kT s f i).length=(wB s g i).length
 | 0,i,f,g,hq,_,_,_=>by rw [CV V,Pb V];rfl
 | q+1,i,f,g,hq,hf,hg,h=>by
  by_cases hi:i < s.size
  ·have hs:=tH h hi;have hd:=AY h hi;have he:=zH hi hs.1;rw [Hu hf hi,V4 hg hi,ko,ko,he.1,Ws q _ (f - 1) (g - 1) V V V hs.2]
  rw [CV V,Pb V];rfl
theorem ahy {G0:GH} (ht:yC G0) {s:ByteArray} (hs:s.size<=1073741824) (hv:gq s=true):mO G0 s:=by
 have hf:iN s 0 < 0:=by simpa [gq] using hv
 refine ⟨hs,hv,⟨fun G w0 h0 hG=>?_⟩,Ws _ 0 _ _ (bS _) V V hf⟩;have hT:yC G:=⟨fun c hc=>aK h0 (ht.first c hc),fun i hi=>⟨aK h0 (ht.acc i hi).1,aK h0 (ht.acc i hi).2⟩⟩;have h:=aiL G w0 hG hT s hs
 have e:Go.Lib.validD s.data.toList=true:=by simpa using XW _ 0 (bS _) hf
 rw [e] at h;exact h
section
section
variable {N:Nat} {D:List Deferred} {w0:World} {F:Nat->Prop} {G0 G:GH} {L:OL} {T:List (Nat × ak)}
variable {r:Option Nat} {P:Program} {ops:Array Oper} {Q:Exit->Act->World->Prop} {rest:List Oper} {a:Act} {w:World}
variable {d:Nat} {ty:TypeId} {pos:String} {aM:Array Edge} {g:Option (Nat × Bool)}
theorem aiC {w:World} {b:Nat} {c c':Array ak} {e:TypeId} (h:w.heap[b]?=some (.cells c e (0,0))):sF b (.cells c' e (0,0)) w (w.setRow b c'):=by
 have hlt:b < w.heap.size:=(Array.getElem?_eq_some_iff.1 h).1
 refine ⟨O,O,O,by simp [World.setRow],?_,fun k hk=>?_⟩
 ·simp only [World.setRow,Array.getElem?_modify,aN,h,rJ]
 ·simp only [World.setRow,Array.getElem?_modify,aL (Ne.symm hk)]
theorem agF {t u e:TypeId} (hs:P.underlying t=some (.slice e)) (hz:(P.info? e).map (·.size)=some 1) {x y:Operand} {b i n:Nat} {s:ByteArray} {c:List ak} (H:St N D w0 F G0 G L T a w)
  (hw:Region.wanted ⟨some d,.call { callee:=.builtin .copy,args:=#[x,y],argTypes:=#[t,u] },ty,pos,aM,g⟩ (yielded ops a.tmps)=true) (hx:ev T x=some (.slice (some ⟨b,0,none⟩) n n)) (hy:ev T y=some (.string s)) (hi:L[i]?=some (b,.cells c.toArray e (0,0)))
  (hn:s.size=n) (hc:c.length=n) (hd:Nat.blt d N=true)
  (k:∀ a' w',St N D w0 F G0 G (L.set i (b,.cells (Lib.byteCells s.data.toList).toArray e (0,0))) ((d,.int .i64 n) :: T) a' w'->WL r P ops Q rest a' w') :
  WL r P ops Q (⟨some d,.call { callee:=.builtin .copy,args:=#[x,y],argTypes:=#[t,u] },ty,pos,aM,g⟩ :: rest) a w:=by
 have hb:=H.hp.own _ (kg hi)
 have hr:=Lib.run_copy_row_string (P:=P) w t u ty e b 0 n n s c.toArray e hs hz hb V (by simp;omega)
 have e1:(c.toArray.toList.take 0++Lib.byteCells s.data.toList++c.toArray.toList.drop (0+s.size))=Lib.byteCells s.data.toList:=by
  simp;omega
 rw [e1] at hr
 refine dZ (v:=.int .i64 n) (w':=w.setRow b (Lib.byteCells s.data.toList).toArray) hw O ?_ (k _ _ (H.put hd _ (H.hp.upd hi (aiC hb))))
 simp [execOp,resolve,invoke,builtin,H.ev hx,H.ev hy,dB,hr,goInt,hn]
end
end
theorem Ic:Ty prog 5 1 1 [.int .u8 0] false:=⟨Z,Z⟩
theorem aaL:bL 103:=bN func103 O
theorem abX:bL 86:=bN func86 O
theorem abY:bL 87:=bN func87 O
theorem ahp:(prog.info? 5).map (·.size)=some 1:=by kernel_rfl
theorem Z7 (G:GH) (w0:World) (hG:Hold G w0) (s:ByteArray) (hs:s.size<=1073741824):Calls prog 103 #[.string s] w0 (bQ w0 G fun u G'=>u=.string s):=by
 refine eN [(0,_)] func103 O ntmps103 O O hG ?_;intro a H;refine kP H (SR fun _ K1=>av K1 O (SQ fun _ K2=>SR fun _ K3=>Rm O (Rv kL O (Rc O (Kz K3 (Cd O ?_ ?_)))))) <;> clear H K1 K3
 ·intro h6 a H
  try have p6:=dT h6
  have he:s=⟨#[]⟩:=by
   have h0:s.size=0:=by omega
   have h1:s.data.size=0:=h0;exact ByteArray.ext (Array.eq_empty_of_size_eq_zero h1)
  exact kP H (SR fun _ K4=>av K4 O (LR results103 O fun H=>H.rt (by rw [he])))
 intro h6 a H
 try have p6:=dF h6
 refine kP H (Kc K2 (SR fun _ K5=>Rm O (Rv kL O ?_)));clear H K2;intro a H;refine xV s.size Al Ic H wn O O O V V O ?_;clear H;intro b9 a w NR H;refine kH H (av K5 O (SR fun _ K6=>Rm O (Rm O ?_)));clear H K5;intro a H;refine agF (i:=0) Al ahp H wn O O O O (by simp) O ?_;clear H;intro a w H;dsimp only [List.set] at H;refine K6 _ _ ?_;clear K6;refine kP H (SR fun _ K7=>Rm O ?_);clear H;intro a H;refine bD Al Ic 0 H wn O O O V O ?_;clear H;intro a H;refine kH H (Rm O (Rl Al O ?_));clear H;intro a H;have hl:s.data.toList.length=s.size:=(Go.Lib.size_eq s).symm;refine WZ (i:=0) s.data.toList XO Z (by intro e;rw [e] at hl;simp at hl;omega) V H wn rfl (by rw [hl];rfl) rfl (by rw [List.toList_toArray];exact gG (by rw [Go.Lib.byteCells_length];exact bS _)) O ?_;clear H;intro fz a w H;exact kH H (av K7 O (LR results103 O fun H=>H.rt (by simp)))
theorem aad (G:GH) (w0:World) (hG:Hold G w0) (s:ByteArray) (hs:s.size<=1073741824):Calls prog 87 #[.string s] w0 (bQ w0 G fun u G'=>u=.string s):=by
 refine eN [(0,_)] func87 O ntmps87 O O hG ?_;intro a H;refine kP H (SR fun _ K1=>av K1 O (SR fun _ K2=>Rm O ?_));clear H K1;intro a H;refine s_call aaL H wn O (Z7 _ _ H.ro s hs) O ?_;clear H;rintro v4 G4 a w rfl UC H;exact kH H (av K2 O (LR results87 O fun H=>H.rt O))
set_option maxRecDepth 10000 in
theorem Y6:∀ X:Fin 256,qF .and .u8 ((X.val:Nat):Int) 192=128↔(128<=X.val∧X.val<=191):=by decide
theorem Vi {s:ByteArray} {i:Nat} (h:i < s.size):(¬ qF .and .u8 (s[i].toNat:Int) 192=128)↔vD s i=true:=by
 have h1:=Y6 ⟨s[i].toNat,s[i].toNat_lt⟩;dsimp only at h1;rw [h1,vD,sH h]
 simp only [dU]
 omega
def AV (s:ByteArray) (k:Nat):List Nat:=(List.range k).filter (vD s)
theorem RA (s:ByteArray) (k:Nat):AV s (k+1)=AV s k++(if vD s k=true then [k] else []):=by
 rw [AV,List.range_succ,List.filter_append,List.filter_cons]
 rfl
theorem Zh (s:ByteArray) (k:Nat):(AV s k).length<=k:=by
 have:=List.length_filter_le (vD s) (List.range k)
 rwa [List.length_range] at this
theorem Zi (G:GH) (w0:World) (hG:Hold G w0) (s:ByteArray) (hs:s.size<=1073741824):Calls prog 86 #[.string s] w0 (bQ w0 G fun u G'=>aF G' (.sl 1 (((yG s).map fun x:Nat=>(x:Int)).map gJ)) u):=by
 have hml:maxLen=9223372036854775807:=rfl;refine eN [(0,_)] func86 O ntmps86 O O hG ?_;intro a H;refine kP H (SR fun _ K1=>av K1 O (SR fun _ K2=>av K2 O (SQ fun _ K3=>SR fun _ K4=>Rm O (Rv kL O (Rm O (Kz K4 (SB ?_)))))));clear H K1 K2 K4;intro a H;skip;refine dY (ι:=Nat × ak × OL) (Tc:=[(0,_),(6,_)]) (Lc:=[]) (fun gh=>[(3,gh.2.1),(7,vi gh.1)]) (fun gh=>[]++gh.2.2) (fun gh=>G) (fun gh=>gh.1<=s.size∧aW 3 1 gh.2.1 (AV s gh.1).length (((AV s gh.1).map fun x:Nat=>(x:Int)).map vi) gh.2.2) (fun gh=>s.size - gh.1) ((0,.slice none 0 0,[])) (by exact H.sub ⟨O,O,O,O,aI⟩) ?_ ?_
 ·exact ⟨fC _,aW.nil⟩
 clear H;rintro ⟨k,v,Lo⟩ a w hI H;dsimp only at hI H;obtain ⟨hk,hrw⟩:=hI;have hbl:=Zh s k;dsimp only [lca,bW] at H;refine kP H (SR fun _ K5=>Rc O (Kz K5 (SQ fun _ K6=>Cd O ?_ ?_))) <;> clear H K5
 ·intro h8 a H
  try have p8:=dT h8
  have hk1:k < s.size:=by omega
  refine kP H (Kc K6 (SQ fun _ K7=>SB (SR fun _ K8=>Rm O (av K8 O (SR fun _ K9=>Rm O (Rm O ?_))))));clear H K6 K8;intro a H;refine CW _ kL H wn O O O (by first|assumption|omega) rfl ?_;clear H;intro a H;refine KD O H wn O O O ?_;clear H;intro a H;refine kH H (Rc O (Kz K9 (Cd O ?_ ?_))) <;> clear H K9
  ·intro eD a H
   try have jC:=dT eD
   refine kP H (SC (Rm O (Rm O ?_)));clear H;intro a H;refine eU cB aC [_] [_] H wn O O O O O (by intro i q h;match i,h with|0,h=>exact h|n+1,h=>simp at h) O O ?_;clear H;intro b17 a w adG H;refine dX (Li:=[_]) (Lo:=Lo) (news:=[vi k]) cB aC O O H wn O O hrw O (H.hp.bR 0 O O) O V V O ?_;clear H;intro v18 LK a w JU H;refine kH H (bO K7 O (SC (Rd O (Rm O ?_))));clear H K7;intro a H;refine aj ?_;refine bE ((k+1,v18,LK)) (by exact (H.dz (Pl:=[_]) (bZ:=[]) [] Y O).sub ⟨O,O,O,O,aI⟩) ?_
   (try dsimp only);exact ⟨V,by rw [RA,aN ((Vi hk1).1 jC),fQ,jw,jw];exact JU⟩
  intro eD a H
  try have jC:=dF eD
  refine kP H (Kc K7 (SC (Rd O (Rm O ?_))));clear H K7;intro a H;refine aj ?_;refine bE ((k+1,v,Lo)) (by exact H.sub ⟨O,O,O,O,aI⟩) ?_
  (try dsimp only);exact ⟨V,by rw [RA,aL (by rw [<- Vi V];exact jC),lU];exact hrw⟩
 intro h8 a H
 try have p8:=dF h8
 refine dJ ?_;refine K3 _ _ ?_;clear K3;refine kP H (SR fun _ aP=>Rm O (Rm O (Rv kL O ?_)));clear H;intro a H;refine eU cB aC [_] [_] H wn O O O O O (by intro i q h;match i,h with|0,h=>exact h|n+1,h=>simp at h) O O ?_;clear H;intro Y9 a w adI H
 have hke:k=s.size:=by omega
 refine dX (Li:=[_]) (Lo:=Lo) (news:=[vi s.size]) cB aC O O H wn O O hrw O (H.hp.bR 0 O O) O V V O ?_;clear H;intro v24 LQ a w CJ H;rw [hke] at CJ;obtain ⟨Gr,hmr,hrep,H⟩:=St.kF (Li:=[_]) (Lo:=LQ) H CJ (rows:=((yG s).map fun x:Nat=>(x:Int)).map gJ) (by simp [yG,AV]) (by have:=yQ G ((yG s).map fun x:Nat=>(x:Int));rw [yG] at this |-;simpa [AV] using this);exact kH H (av aP O (LR results86 O fun H=>H.rt hrep))
theorem ahu (G:GH) (w0:World) (hG:Hold G w0) (s:ByteArray) (hs:s.size<=1073741824) (hv:gq s=true) (u vv:Nat) (huv:u<=vv) (hvl:vv<=(iD s).length) :
  Calls prog 73 #[.string s,vi u,vi vv] w0 (bQ w0 G fun r G'=>r=.tuple #[.string (s.extract (iK s 0 u) (iK s 0 vv)),vi 0]):=by
 have hf:iN s 0 < 0:=by simpa [gq] using hv
 have hol:(yG s).length=(iD s).length+1:=by rw [RB hv];simp [Kg]
 have hau:=Dz u 0 hf (fC _);have hav:=Dz vv 0 hf (fC _)
 have aeP:iK s 0 u<=iK s 0 vv:=by
  have h1:=Md (s:=s) u 0 (vv - u);rw [show u+(vv - u)=vv by omega] at h1;rw [h1];exact (Dz (vv - u) (iK s 0 u) (Me u 0 hf (fC _)) hau.2).1
 have eu:=VR hv (show u<=(iD s).length by omega);have ev:=VR hv hvl;rw [<- RB hv] at eu ev;refine eN [(0,_),(1,_),(2,_)] func73 O ntmps73 O O hG ?_;intro a H;refine kP H (SR fun _ K1=>Ra O (av K1 O (SQ fun _ K2=>SR fun _ K3=>Rm O ?_)));clear H K1;intro a H;refine s_call FX H wn O (Ih _ _ H.ro s V) O ?_;clear H;rintro v10 _ a w ⟨rfl,rfl⟩ - H;rw [hv] at H;refine kH H (Rn O (Kz K3 (Cd O ?_ ?_))) <;> clear H K3
 ·intro h11 a H
  exact absurd h11 Y
 intro h11 a H
 try have oI:=dF h11
 refine kP H (Kc K2 (SR fun _ K4=>Rm O ?_));clear H K2;intro a H;refine s_call abX H wn O (Zi _ _ H.ro s hs) O ?_;clear H;rintro v13 LC a w Ol Gu H;obtain ⟨bA,bc,rfl,-,-,-⟩:=Ol.slice;rw [bJ,bJ,hol] at H;refine kH H (av K4 O (SQ fun _ K5=>SR fun _ K6=>Rm O (Rc O (Rm O (Sp 16 O ?_ ?_))))) <;> clear H K4
 ·intro h16 a H
  try have p16:=dT h16
  exfalso;omega
 intro h16 a H
 try have p16:=dF h16
 refine kH H (YM h16 O (YM h16 O (YC h16 O (Pf h16 O (Rm O (Sp 21 O ?_ ?_)))))) <;> clear H
 ·intro h21 a H
  try have mH:=dT h21
  exfalso;omega
 intro h21 a H
 try have mH:=dF h21
 refine kH H (YM h21 O (YM h21 O (YL cB h21 O (YC h21 O (Pf h21 O (Kz K6 (Cd O ?_ ?_))))))) <;> clear H K6
 ·intro fV a H
  try have p26:=dT fV
  exfalso;omega
 intro fV a H
 try have p26:=dF fV
 refine lV ?_;refine K5 _ _ ?_;clear K5;refine gy (fun _ K7=>?_);obtain ⟨lb,lo,rfl,gu⟩:=rU (k:=u) Ol (by rw [bJ];omega);obtain ⟨_,_,e0,gv⟩:=rU (k:=vv) Ol (by rw [bJ];omega)
 injection e0 with e0;injection e0 with e1 e2;subst e1;subst e2
 rw [show ((yG s).map fun x:Nat=>(x:Int))[u]'(by rw [bJ];omega)=((iK s 0 u:Nat):Int) by rw [List.getElem_map,(gN.1 eu).2]] at gu;rw [show ((yG s).map fun x:Nat=>(x:Int))[vv]'(by rw [bJ];omega)=((iK s 0 vv:Nat):Int) by rw [List.getElem_map,(gN.1 ev).2]] at gv;refine dI hmx [[],[],[],[1,2],[1,2,3],[],[],[5,6],[5,6,7],ra 0 9,ra 0 10,ra 0 11,ra 0 12] [11,12] Z [.string s,.slice (some ⟨lb,lo,none⟩) ((iD s).length+1) bc,vi u,(aJ lb (lo+u*1)),vi ((iK s 0 u:Nat):Int),.slice (some ⟨lb,lo,none⟩) ((iD s).length+1) bc,vi vv,(aJ lb (lo+vv*1)),vi ((iK s 0 vv:Nat):Int),.string (s.extract (iK s 0 u) (iK s 0 vv)),.string (s.extract (iK s 0 u) (iK s 0 vv))] H (aH ?_ ?_ ?_ ?_ (aH ?_ ?_ ?_ ?_ (aH ?_ ?_ ?_ (fT O) (eB (fT O) fD)))) ?_
 ·intro ay a w G1 _ ah hc hG HT hv;have H:=HT;clear ah;have Hb:=H.full;have H:=Hb;clear hc;refine kH H (Rm O ?_);clear H;intro a H;refine aj ⟨O,?_⟩;exact aB HT Hb hG hv (fun _ _ _ _ _ h=>h) H O
 ·intro ay a w G1 _ ah hc hG HT hv;have H:=HT;clear ah;have Hb:=H.full;have H:=Hb;clear hc;refine kH H (Rm O ?_);clear H;intro a H;refine aj ⟨O,?_⟩;exact aB HT Hb hG hv (fun _ _ _ _ _ h=>h) H O
 ·intro ay a w G1 _ ah hc hG HT hv;have H:=HT;clear ah;have Hb:=H.full;have H:=Hb;clear hc;refine kH H (Rm O ?_);clear H;intro a H;refine aj ⟨O,?_⟩;exact aB HT Hb hG hv (fun _ _ _ _ _ h=>h) H O
 ·intro ay a w G1 _ ah hc hG HT hv;have H:=HT;clear ah;have H:=H.au (hv 1 28 (hc 1 Y) O) O;have H:=H.au (hv 2 29 (hc 2 Y) O) O;have Hb:=H.full;have H:=Hb;clear hc;refine bD cB aC u H wn O O O V O ?_;clear H;intro a H;refine aj ⟨O,?_⟩;exact aB HT Hb hG hv (fun _ _ _ _ _ h=>h) H O
 ·intro ay a w G1 _ ah hc hG HT hv;have H:=HT;clear ah;have H:=H.au (hv 3 30 (hc 3 Y) O) O;have Hb:=H.full;have H:=Hb;clear hc;refine kH H (Rg aC O (aK hG gu) ?_);clear H;intro a H;refine aj ⟨O,?_⟩;exact aB HT Hb hG hv (fun _ _ _ _ _ h=>h) H O
 ·intro ay a w G1 _ ah hc hG HT hv;have H:=HT;clear ah;have Hb:=H.full;have H:=Hb;clear hc;refine kH H (Rm O ?_);clear H;intro a H;refine aj ⟨O,?_⟩;exact aB HT Hb hG hv (fun _ _ _ _ _ h=>h) H O
 ·intro ay a w G1 _ ah hc hG HT hv;have H:=HT;clear ah;have Hb:=H.full;have H:=Hb;clear hc;refine kH H (Rm O ?_);clear H;intro a H;refine aj ⟨O,?_⟩;exact aB HT Hb hG hv (fun _ _ _ _ _ h=>h) H O
 ·intro ay a w G1 _ ah hc hG HT hv;have H:=HT;clear ah;have H:=H.au (hv 5 32 (hc 5 Y) O) O;have H:=H.au (hv 6 33 (hc 6 Y) O) O;have Hb:=H.full;have H:=Hb;clear hc;refine bD cB aC vv H wn O O O V O ?_;clear H;intro a H;refine aj ⟨O,?_⟩;exact aB HT Hb hG hv (fun _ _ _ _ _ h=>h) H O
 ·intro ay a w G1 _ ah hc hG HT hv;have H:=HT;clear ah;have H:=H.au (hv 7 34 (hc 7 Y) O) O;have Hb:=H.full;have H:=Hb;clear hc;refine kH H (Rg aC O (aK hG gv) ?_);clear H;intro a H;refine aj ⟨O,?_⟩;exact aB HT Hb hG hv (fun _ _ _ _ _ h=>h) H O
 ·intro ay a w G1 _ ah hc hG HT hv;have H:=HT;clear ah;have H:=H.au (hv 0 27 (hc 0 Y) O) O;have H:=H.au (hv 4 31 (hc 4 Y) O) O;have H:=H.au (hv 8 35 (hc 8 Y) O) O;have Hb:=H.full;have H:=Hb;clear hc;refine WY (iK s 0 u) (iK s 0 vv) kL H wn O O O O O aeP hav.2 O ?_;clear H;intro a H;refine aj ⟨O,?_⟩;exact aB HT Hb hG hv (fun _ _ _ _ _ h=>h) H O
 ·intro ay a w G1 _ ah hc hG HT hv;have H:=HT;clear ah;have H:=H.au (hv 9 36 (hc 9 Y) O) O;have Hb:=H.full;have H:=Hb;clear hc;refine s_call abY H wn O (aad _ _ H.ro _ (by rw [ByteArray.size_extract];omega)) rfl ?_;clear H;rintro v37 G37 a w rfl ads H;refine aj ⟨O,?_⟩;exact oD Z (fun _ _ _ _ _ h=>h) O O HT Hb hG hv ads (rfl) H
 clear H;intro a w G qb H hv;have H:=H.au (hv 10 37 O O) O;clear hv;refine kH H (Ra O (Ra O ?_));clear H;intro a H;refine aj ⟨O,?_⟩;refine K7 _ _ ?_;clear K7;refine aU ?_;refine (bK H results73 (.cons (aG H O) (.cons (aG H O) .nil)) ?_).1;exact H.rt O
theorem cu:prog.underlying 34=some (.slice 43):=by kernel_rfl
theorem dw:Ty prog 43 2 16 [.int .i64 0,.int .i64 0] true:=⟨Z,Z⟩
theorem F3:gL prog 43 1 1:=⟨Z⟩
theorem Tx:bL 58:=bN func58 O
theorem abE:bL 59:=bN func59 O
theorem Ig:prog.underlying 144=some (.slice 34):=by kernel_rfl
theorem Ib:Ty prog 34 1 24 [.slice none 0 0] false:=⟨Z,Z⟩
structure dM where
 key:Int
 weight:Int
def dM.dat (x:dM):List Dat:=[li x.key,li x.weight]
theorem aik (G:GH) (x:dM):aY G x.dat [vi x.key,vi x.weight]:=by
 simp only [dM.dat,aY]
 exact ⟨_,_,O,by simp [aF,Value.oneCell'],_,_,O,by simp [aF,Value.oneCell'],O⟩
theorem aij {G:GH} {x:dM} {cs:List ak} (h:aY G x.dat cs):cs=[vi x.key,vi x.weight]:=by
 simp only [dM.dat,aY,aF] at h
 obtain ⟨v1,_,rfl,⟨rfl,-⟩,v2,_,rfl,⟨rfl,-⟩,rfl⟩:=h
 rfl
theorem C9 {G:GH} {l:List dM} {A:Option Addr} {n c k:Nat} (hv:aF G (.sl 2 (l.map dM.dat)) (.slice A n c)) (hk:k < l.length):∃ b o,A=some ⟨b,o,none⟩∧(∀ j u,[vi l[k].key,vi l[k].weight][j]?=some u->aS G b (o+k*2+j)=some u):=by
 obtain ⟨A',c',he,_,_,hg⟩:=hv.slice
 injection he with e1 e2 e3
 subst e1;obtain ⟨b,o,cs,h1,h2,h3,h4⟩:=hg k l[k].dat (by simp [hk]);obtain rfl:=aij h4;exact ⟨b,o,h1,h3⟩
def yR (x:dM):Bool:=decide (1<=x.weight) && decide (x.weight<=1000)
def uR (l:List dM):Int:=if 2048 < l.length then 9 else if l.all yR then 0 else 5
theorem Si (G:GH) (w0:World) (hG:Hold G w0) (l:List dM) (v:ak) (hv:aF G (.sl 2 (l.map dM.dat)) v) :
    Calls prog 58 #[v] w0 (bQ w0 G fun u G'=>u=vi (uR l)∧G=G'):=by
  obtain ⟨A,c,rfl,hc1,hc2,-⟩:=hv.slice;have hml:maxLen=9223372036854775807:=rfl;rw [bJ] at *;refine eN [(0,_)] func58 O ntmps58 O O hG ?_;intro a H;refine kP H (SR fun _ K1=>av K1 O (SQ fun _ K2=>SR fun _ K3=>Rm O (Rl cu O (Rc O (Kz K3 (Cd O ?_ ?_)))))) <;> clear H K1 K3
  · intro h7 a H
    try have p7:=dT h7
    exact kP H (SR fun _ K4=>av K4 O (LR results58 O fun H=>H.rt ⟨by rw [uR,dS],O⟩))
  intro h7 a H
  try have p7:=dF h7
  refine kP H (Kc K2 (SQ fun _ K5=>SR fun _ K6=>Rm O (Rl cu O (Rm O (Kz K6 (SB ?_))))));clear H K2 K6;intro a H;skip;refine dY (ι:=Nat) (Tc:=[(8,_),(9,_)]) (Lc:=[]) (fun gh=>[(10,vi gh)]) (fun gh=>[]) (fun gh=>G) (fun gh=>gh<=l.length∧∀ q (hq:q < gh) (hq2:q < l.length),yR l[q]=true) (fun gh=>l.length - gh) (0) (by exact H.sub ⟨O,O,O,aI⟩) ?_ ?_
  · exact ⟨V,fun q hq=>absurd hq (Nat.not_lt_zero _)⟩
  clear H;intro k a w hI H;obtain ⟨hk,Cz⟩:=hI;dsimp only [lca,bW] at H;refine kP H (SR fun _ K7=>Rc O (Kz K7 (SQ fun _ K8=>Cd O ?_ ?_))) <;> clear H K7
  · intro h11 a H
    try have oI:=dT h11
    have hk2:k < l.length:=by omega
    obtain ⟨b,o,rfl,hrow⟩:=C9 hv hk2;refine kP H (Kc K8 (SQ fun _ K9=>SB (SR fun _ aP=>Ri cu dw O O ?_)));clear H K8;intro a H;refine bV dw (cs:=[_,_]) H wn O O (fun j v hj=>H.hp.aS (hrow j v hj)) O ?_;clear H;intro a H;refine gX dw H wn O ?_;clear H;intro b4 a w hb4 H;refine bg dw 0 (vs:=[_,_]) H wn O ?_;clear H;intro w H;refine aP _ _ ?_;clear aP;refine kP H (SR fun _ aT=>fG F3 aC 0 O O (Rc O (Rm O (Sp 17 O ?_ ?_)))) <;> clear H
    · intro eO a H
      try have mW:=dT eO
      refine kH H (aV eO O (Pt eO O (Kz aT (Ct O O (SR fun _ bH=>av bH O ?_)))));clear H aT bH;intro a H;refine lr H results58 O ?_
      first
        | (have hr:¬ l.all yR=true:=fun h=>by
            have:=gW.1 h _ (dV hk2)
            simp only [yR,iG,dU] at this
            omega
           exact H.rt ⟨by rw [uR,aZ,aL hr],O⟩)
        | exact H.rt ⟨by rw [uR,aZ,aN (gW.2 fun x hx=>by
              obtain ⟨q,hq,rfl⟩:=List.getElem_of_mem hx
              exact Cz q V hq)],O⟩
    intro eO a H
    try have mW:=dF eO
    refine kH H (YF F3 eO O (YO aC 0 eO O (YC eO O (Pf eO O (Kz aT (Cd O ?_ ?_)))))) <;> clear H aT
    · intro h21 a H
      try have mH:=dT h21
      refine kP H (SR fun _ bG=>av bG O ?_);clear H bG;intro a H;refine lr H results58 O ?_
      first
        | (have hr:¬ l.all yR=true:=fun h=>by
            have:=gW.1 h _ (dV hk2)
            simp only [yR,iG,dU] at this
            omega
           exact H.rt ⟨by rw [uR,aZ,aL hr],O⟩)
        | exact H.rt ⟨by rw [uR,aZ,aN (gW.2 fun x hx=>by
              obtain ⟨q,hq,rfl⟩:=List.getElem_of_mem hx
              exact Cz q V hq)],O⟩
    intro h21 a H
    try have mH:=dF h21
    refine kP H (Kc K9 (SC (Rd O (Rm O ?_))));clear H K9;intro a H;refine aj ?_;refine bE ((k+1)) (by exact (H.dz (Pl:=[_]) (bZ:=[]) [] Y O).sub ⟨O,O,O,aI⟩) ?_
    exact ⟨V,fun q hq hq2=>by
        by_cases e:q=k
        · subst e;simp only [yR,iG,dU];omega
        exact Cz q V hq2⟩
  intro h11 a H
  try have oI:=dF h11
  refine dJ ?_;refine K5 _ _ ?_;clear K5;refine kP H (SR fun _ bX=>av bX O ?_);clear H bX;intro a H;refine lr H results58 O ?_
  first
    | (have hr:¬ l.all yR=true:=fun h=>by
        have:=gW.1 h _ (dV hk2)
        simp only [yR,iG,dU] at this
        omega
       exact H.rt ⟨by rw [uR,aZ,aL hr],O⟩)
    | exact H.rt ⟨by rw [uR,aZ,aN (gW.2 fun x hx=>by
          obtain ⟨q,hq,rfl⟩:=List.getElem_of_mem hx
          exact Cz q V hq)],O⟩
def FI (a b:List dM):Int:=if uR a=0 then uR b else uR a
theorem Zu (G:GH) (w0:World) (hG:Hold G w0) (la lb:List dM) (v u:ak) (hv:aF G (.sl 2 (la.map dM.dat)) v) (hu:aF G (.sl 2 (lb.map dM.dat)) u) :
  Calls prog 39 #[v,u] w0 (bQ w0 G fun r G'=>r=vi (FI la lb)∧G=G'):=by
 refine eN [(0,_),(1,_)] func39 O ntmps39 O O hG ?_;intro a H;refine kP H (SR fun _ K1=>av K1 O (SQ fun _ K2=>SR fun _ K3=>Rm O ?_));clear H K1;intro a H;refine s_call Tx H wn O (Si _ _ H.ro la v hv) O ?_;clear H;rintro v7 _ a w ⟨rfl,rfl⟩ - H;refine kH H (av K3 O (SR fun _ K4=>Rm O (Rc O (Kz K4 (Cd O ?_ ?_))))) <;> clear H K3 K4
 ·intro h9 a H
  try have p9:=dT h9
  exact kP H (SR fun _ K5=>Rm O (av K5 O (LR results39 O fun H=>H.rt ⟨by rw [FI,aL p9],O⟩)))
 intro h9 a H
 try have p9:=dF h9
 refine kP H (Kc K2 (SR fun _ K6=>Rm O ?_));clear H K2;intro a H;refine s_call Tx H wn O (Si _ _ H.ro lb u hu) O ?_;clear H;rintro v12 _ a w ⟨rfl,rfl⟩ - H;exact kH H (av K6 O (LR results39 O fun H=>H.rt ⟨by rw [FI,aN (DC.1 p9)],O⟩))
def jG (a b:dM):Int:=min a.weight b.weight
theorem X9 (G:GH) (w0:World) (hG:Hold G w0) (a b:dM):Calls prog 61 #[.agg #[vi a.key,vi a.weight],.agg #[vi b.key,vi b.weight]] w0 (bQ w0 G fun u G'=>u=vi (jG a b)∧G=G'):=by
 refine eN [(0,_),(1,_)] func61 O ntmps61 O O hG ?_;intro a H;refine gU (fun _ K1=>?_);refine jQ (cs:=[_,_]) H wn O O O ?_;clear H;intro b2 a w hb2 H;refine jQ (cs:=[_,_]) H wn O O O ?_;clear H;intro b3 a w hb3 H;refine kH H (av K1 O (SR fun _ K2=>fG F3 aC 1 O O (fG F3 aC 0 O O ?_)));clear H K1;intro a H;refine Hz H wn O O O ?_;clear H;intro a H;exact kH H (av K2 O (LR results61 O fun H=>H.rt ⟨O,O⟩))
theorem adk (G:GH) (w0:World) (n:Nat) (hO:jN G [] w0) (hn:n<=4294967296):Calls prog 59 #[.slice none 0 0,vi n] w0 (jO w0 G [] fun u G' L'=>G=G'∧aW 43 2 u 0 [] L'):=by
 have hml:4294967297<=maxLen:=by decide
 refine mP (N:=27) (T:=[(0,_),(1,_)]) func59 O ntmps59 O O hO ?_;intro a H;refine kP H (SR fun _ K1=>av K1 O (SQ fun _ K2=>SR fun _ K3=>Rm O (Rc O (Kz K3 (Cd O ?_ ?_))))) <;> clear H K1 K3
 ·intro h6 a H
  try have p6:=dT h6
  exact absurd p6 V
 intro h6 a H
 try have p6:=dF h6
 refine kP H (Kc K2 (SQ fun _ K4=>SR fun _ K5=>Rm O (Rm O ?_)));clear H K2;intro a H;refine WK cu H wn O O ?_;clear H;intro a H;refine kH H (Rm O (Rl cu O (Rs O (Rs O ?_))));clear H;intro a H;rw [show ((n:Int) - (((0:Nat):Int) - ((0:Nat):Int)))=(n:Int) by omega] at H;refine kH H (av K5 O (SR fun _ K6=>Rm O (Rc O (Kz K6 (Cd O ?_ ?_))))) <;> clear H K5 K6
 ·intro h16 a H
  try have p16:=dT h16
  refine kP H (SC (Rm O (Rm O ?_)));clear H;intro a H;refine WK cu H wn O O ?_;clear H;intro a H;refine PG cu dw 0 H wn O O O (bS _) O ?_;clear H;intro a H;refine kH H (Rm O ?_);clear H;intro a H;refine agC cu Am dw O O H wn O O V V V O ?_;clear H;intro rM ZL aar a w NM hc22 adW adX H;refine kH H (Rm O (Rl cu O ?_));clear H;intro a H;refine PG cu dw 0 H wn O O O (fC _) O ?_;clear H;intro a H;exact kH H (bO K4 O (SR fun _ K7=>Rm O (av K7 O (LR results59 O fun H=>H.hp.dP ⟨O,by simp,.inr ⟨rM,ZL,aar,O,O,fC _,adW,adX,by simp⟩⟩))))
 intro h16 a H
 exact kP H (Kc K4 (SR fun _ K8=>Rm O (av K8 O (LR results59 O fun H=>H.hp.dP ⟨O,aW.nil⟩))))
def EO (l:List dM):List Dat:=[.sl 2 (l.map dM.dat)]
theorem XC {G:GH} {S:List (List dM)} {A:Option Addr} {n c i:Nat} (hv:aF G (.sl 1 (S.map EO)) (.slice A n c)) (hi:i < S.length):∃ b o bA bc,A=some ⟨b,o,none⟩∧aS G b (o+i*1)=some (.slice bA S[i].length bc)∧aF G (.sl 2 (S[i].map dM.dat)) (.slice bA S[i].length bc):=by
 obtain ⟨A',c',he,_,_,hg⟩:=hv.slice
 injection he with e1 e2 e3
 subst e1;obtain ⟨b,o,cs,h1,h2,h3,h4⟩:=hg i (EO S[i]) (by simp [hi])
 simp only [EO,aY] at h4
 obtain ⟨v,_,rfl,h5,rfl⟩:=h4;obtain ⟨bA,bn,bc,rfl⟩:=h5.form;obtain ⟨_,_,NW,-⟩:=h5.slice;obtain ⟨-,hn,-⟩:=Value.slice.inj NW;rw [bJ] at hn;subst hn;exact ⟨b,o,bA,bc,h1,h3 0 _ O,h5⟩
theorem Nj {α:Type} {S:List (List α)} {k:Nat} (h:k < S.length):(S.take (k+1)).flatten=(S.take k).flatten++S[k]:=by rw [jq h,List.flatten_append,List.flatten_cons,List.flatten_nil,lU]
theorem TS {α:Type} (S:List (List α)) (k:Nat):(S.take k).flatten.length<=S.flatten.length:=by
 have e:=gZ List.length (gZ List.flatten (List.take_append_drop k S));rw [List.flatten_append,fQ] at e;omega
theorem aak (G:GH) (w0:World) (hG:Hold G w0) (S:List (List dM)) (v:ak) (hv:aF G (.sl 1 (S.map EO)) v) (hz:S.flatten.length<=1073741824) :
  Calls prog 40 #[v] w0 (bQ w0 G fun u G'=>aF G' (.sl 2 (S.flatten.map dM.dat)) u):=by
 obtain ⟨A,c,rfl,hc1,hc2,-⟩:=hv.slice;have hml:maxLen=9223372036854775807:=rfl;rw [bJ] at *;refine eN [(0,_)] func40 O ntmps40 O O hG ?_;intro a H;refine kP H (SR fun _ K1=>av K1 O (SR fun _ K2=>av K2 O (SQ fun _ K3=>SR fun _ K4=>Rm O (Rl Ig O (Rm O (Kz K4 (SB ?_)))))));clear H K1 K2 K4;intro a H;skip;refine dY (ι:=Nat) (Tc:=[(0,_),(9,_),(10,_)]) (Lc:=[]) (fun gh=>[(3,vi ((S.take gh).flatten.length:Nat)),(11,vi gh)]) (fun gh=>[]) (fun gh=>G) (fun gh=>gh<=S.length) (fun gh=>S.length - gh) (0) (by exact H.sub ⟨O,O,O,O,O,aI⟩) ?_ ?_
 ·exact fC _
 clear H;intro k a w hI H;have hk:k<=S.length:=hI;dsimp only [lca,bW] at H;refine kP H (SR fun _ K5=>Rc O (Kz K5 (SQ fun _ K6=>Cd O ?_ ?_))) <;> clear H K5
 ·intro h12 a H
  try have oJ:=dT h12
  have hk2:k < S.length:=by omega
  obtain ⟨b,o,bA,bc,rfl,g1,g2⟩:=XC hv hk2;have hft:=TS S (k+1);have hfs:=gZ List.length (Nj hk2);rw [fQ] at hfs;refine kP H (Kc K6 (SQ fun _ K7=>SB (SR fun _ K8=>Ri Ig Ib O O (Rg Ib O (by assumption) ?_))));clear H K6;intro a H;refine kH H (av K8 O (SR fun _ K9=>Rm O (Rm O (Rl cu O (Rd O ?_)))));clear H K8;intro a H;rw [show (((S.take k).flatten.length:Nat):Int)+(S[k].length:Int)=(((S.take (k+1)).flatten.length:Nat):Int) by omega] at H;refine kH H (av K9 O (SR fun _ aP=>Rm O (Rc O (Kz aP (Cd O ?_ ?_))))) <;> clear H K9 aP
  ·intro h20 a H
   try have vG:=dT h20
   exact absurd vG V
  intro h20 a H
  try have vG:=dF h20
  refine kP H (Kc K7 (SC (Rd O (Rm O ?_))));clear H K7;intro a H;refine aj ?_;refine bE ((k+1)) (by exact H.sub ⟨O,O,O,O,O,aI⟩) ?_
  exact hk2
 intro h12 a H
 try have oJ:=dF h12
 refine dJ ?_;refine K3 _ _ ?_;clear K3;refine gy (fun _ aT=>?_);rw [show S.take k=S from gG V] at H;refine kP H (SC (Rm O ?_));clear H;intro a H;refine jT abE (Li:=[]) (L:=[]) H wn O (adk _ _ S.flatten.length (Hp.owns (Li:=[]) H.hp) V) O ?_;clear H;rintro v24 _ Ip a w ⟨rfl,CJ⟩ Cx H;dsimp only [List.nil_append] at H;refine kH H (bO aT O (SQ fun _ bH=>SR fun _ bG=>Rm O (Rl Ig O (Rm O (Kz bG (SB ?_))))));clear H aT bG;intro a H;skip;refine dY (ι:=Nat × ak × List ak × OL) (Tc:=[(25,_),(26,_)]) (Lc:=[]) (fun gh=>[(6,gh.2.1),(27,vi gh.1)]) (fun gh=>[]++gh.2.2.2) (fun gh=>G) (fun gh=>gh.1<=S.length∧aW 43 2 gh.2.1 (S.take gh.1).flatten.length gh.2.2.1 gh.2.2.2∧cO G 2 ((S.take gh.1).flatten.map dM.dat) gh.2.2.1) (fun gh=>S.length - gh.1) ((0,v24,[],Ip)) (by exact (H:St _ _ _ _ _ _ ([]++Ip) _ _ _).sub ⟨O,O,O,O,aI⟩) ?_ ?_
 ·exact ⟨fC _,CJ,cO.nil⟩
 clear H;rintro ⟨j,v,xs,Lo⟩ a w hI H;dsimp only at hI H;obtain ⟨hj,hrw,iq⟩:=hI;dsimp only [lca,bW] at H;refine kP H (SR fun _ bX=>Rc O (Kz bX (SQ fun _ dG=>Cd O ?_ ?_))) <;> clear H bX
 ·intro fI a H
  try have p28:=dT fI
  have hj2:j < S.length:=by omega
  obtain ⟨b,o,bA,bc,rfl,g1,g2⟩:=XC hv hj2;have hft:=TS S (j+1);have hfs:=gZ List.length (Nj hj2);rw [fQ] at hfs;refine kP H (Kc dG (SQ fun _ dR=>SB (SR fun _ fu=>Ri Ig Ib O O (Rg Ib O (by assumption) ?_))));clear H dG;intro a H;refine kH H (av fu O (SC (Rm O (Rm O ?_))));clear H fu;intro a H;refine WI (Li:=[]) (Lo:=Lo) cu dw O O H wn O O hrw g2 V V O ?_;clear H;intro v33 YW afG a w aeE adT H;dsimp only [List.nil_append] at H;refine kH H (bO dR O (SC (Rd O (Rm O ?_))));clear H dR;intro a H;refine aj ?_;refine bE ((j+1,v33,xs++afG,YW)) (by exact H.sub ⟨O,O,O,O,aI⟩) ?_
  (try dsimp only);exact ⟨V,by rw [hfs];exact aeE,by rw [Nj hj2,jw];exact iq.append adT⟩
 intro fI a H
 try have p28:=dF fI
 refine dJ ?_;refine bH _ _ ?_;clear bH;refine gy (fun _ gF=>?_);obtain ⟨Gr,hmr,hrep,H⟩:=St.kF (Li:=[]) H hrw (rows:=(S.take j).flatten.map dM.dat) (by rw [bJ]) iq;rw [show S.take j=S from gG V] at hrep;exact kP H (SC (Rm O (bO gF O (LR results40 O fun H=>H.rt hrep))))
theorem XM:prog.underlying 107=some (.array 2 106):=by kernel_rfl
theorem TH:gL prog 109 1 1:=⟨Z⟩
theorem Jd:gL prog 109 2 3:=⟨Z⟩
def fF (a b:List dM) (i k:Nat):Int :=
 if hi:i < a.length then
  if hk:k < b.length then
   (if a[i].key=b[k].key∧max (fF a b (i+1) k) (fF a b i (k+1))<=fF a b (i+1) (k+1)+jG a[i] b[k] then fF a b (i+1) (k+1)+jG a[i] b[k] else max (fF a b (i+1) k) (fF a b i (k+1)))
  else fF a b (i+1) k
 else 0
termination_by (a.length - i)+(b.length - k)
theorem rW {a b:List dM} {i k:Nat} (h:¬ i < a.length):fF a b i k=0:=by rw [fF,dif_neg h]
theorem PS {a b:List dM} {i k:Nat} (h:i < a.length) (hk:¬ k < b.length):fF a b i k=fF a b (i+1) k:=by rw [fF,dif_pos h,dif_neg hk]
theorem xW {a b:List dM} {i k:Nat} (h:i < a.length) (hk:k < b.length):fF a b i k=if a[i].key=b[k].key∧max (fF a b (i+1) k) (fF a b i (k+1))<=fF a b (i+1) (k+1)+jG a[i] b[k] then fF a b (i+1) (k+1)+jG a[i] b[k] else max (fF a b (i+1) k) (fF a b i (k+1)):=by rw [fF,dif_pos h,dif_pos hk]
theorem EI {a b:List dM} (ha:∀ x∈a,1<=x.weight∧x.weight<=1000) (hb:∀ x∈b,1<=x.weight∧x.weight<=1000):∀ (q i k:Nat),(a.length - i)+(b.length - k)<=q->0<=fF a b i k∧fF a b i k<=1000*((a.length - i:Nat):Int)
 | 0,i,k,h=>by rw [rW V];omega
 | q+1,i,k,h=>by
  by_cases hi:i < a.length
  ·have h1:=EI ha hb q (i+1) k V
   by_cases hk:k < b.length
   ·rw [xW hi hk];have h2:=EI ha hb q i (k+1) V;have h3:=EI ha hb q (i+1) (k+1) V;have h4:=ha _ (dV hi);have h5:=hb _ (dV hk)
    have h6:1<=jG a[i] b[k]∧jG a[i] b[k]<=1000:=by unfold jG;omega
    split <;> omega
   rw [PS hi hk];omega
  rw [rW hi];omega
abbrev bT (b:Nat) (x y z v:ak):Nat × Obj:=(b,.cells #[x,y,z,v] 109 (0,0))
abbrev bY (b:Nat) (X:List ak):Nat × Obj:=(b,.cells X.toArray 5 (0,0))
theorem Ai {G:GH} {w0:World} {bt cb rb W M s i k:Nat} {x y z:ak} {R:List Int} {X:List ak} (c score:Int) (hO:jN G [bT bt x y z (vi W),bY cb X,bF rb R] w0) (hs:s < 2) (hc:[x,y,z,vi W][1+s*1]?=some (.slice (some ⟨cb,0,none⟩) M M)) (hk:k < W) (hR:R.length=W) (hX:X.length=M) (hi:i*W+k < M) (hM:M<=10000000) (hW:W<=10000) (hi2:i<=10000) :
  Calls prog 60 #[(aJ bt 0),.slice (some ⟨rb,0,none⟩) W W,vi s,vi i,vi k,vi score,.int .u8 c] w0 (jO w0 G [bT bt x y z (vi W),bY cb X,bF rb R] fun u G' L'=>L'=[bT bt x y z (vi W),bY cb (X.set (i*W+k) (.int .u8 c)),bF rb (R.set k score)]):=by
 have hiw:(i:Int)*(W:Int)=((i*W:Nat):Int):=by push_cast;rfl
 refine mP (N:=34) (T:=[(0,_),(1,_),(2,_),(3,_),(4,_),(5,_),(6,_)]) func60 O ntmps60 O O hO ?_;intro a H;refine kP H (SR fun _ K1=>Rm O (Rm O (Rm O ?_)));clear H;intro a H;refine bD cB aC k H wn O O O hk O ?_;clear H;intro a H;refine ql aC 2 (c:=R.map vi) (vs:=[_]) ((R.set k score).map vi) H wn O O O O O O (Eq.mpr Nat.ble_eq (by rw [bJ,hR];simp only [List.length_singleton];omega)) (by rw [eH,Nat.mul_one,List.map_set];rfl) ?_;clear H;intro w H;dsimp only [List.set] at H;refine K1 _ _ ?_;clear K1;refine dI hmx [[],[],[0],[0,2],ra 0 4,ra 0 5,[],[],[7],[7,8],[7,8,9],ra 6 5,[],ra 6 7,[],ra 0 15,ra 0 16] [16] Z [(aJ bt 0),vi s,(aJ bt 0),(aJ bt 1),(aJ bt (0+1+s*1)),.slice (some ⟨cb,0,none⟩) M M,vi i,(aJ bt 0),(aJ bt 0),(aJ bt 3),vi W,vi ((i*W:Nat):Int),vi k,vi (((i*W:Nat):Int)+k),.int .u8 c,(aJ cb (0+(i*W+k)*1))] H (aH ?_ ?_ ?_ ?_ (aH ?_ ?_ ?_ ?_ (aH ?_ ?_ ?_ ?_ (aH ?_ ?_ ?_ ?_ (eB (fT O) fD))))) ?_
 ·intro ay a w G1 _ ah hc hG HT hv;have H:=HT;clear ah;have Hb:=H.full;have H:=Hb;clear hc;refine kH H (Rm O ?_);clear H;intro a H;refine aj ⟨O,?_⟩;exact aB HT Hb hG hv (fun _ _ _ _ _ h=>h) H O
 ·intro ay a w G1 _ ah hc hG HT hv;have H:=HT;clear ah;have Hb:=H.full;have H:=Hb;clear hc;refine kH H (Rm O ?_);clear H;intro a H;refine aj ⟨O,?_⟩;exact aB HT Hb hG hv (fun _ _ _ _ _ h=>h) H O
 ·intro ay a w G1 _ ah hc hG HT hv;have H:=HT;clear ah;have H:=H.au (hv 0 18 (hc 0 Y) O) O;have Hb:=H.full;have H:=Hb;clear hc;refine kH H (Rk O ?_);clear H;intro a H;refine aj ⟨O,?_⟩;exact aB HT Hb hG hv (fun _ _ _ _ _ h=>h) H O
 ·intro ay a w G1 _ ah hc hG HT hv;have H:=HT;clear ah;have H:=H.au (hv 2 20 (hc 2 Y) O) O;have Hb:=H.full;have H:=Hb;clear hc;refine kH H (Rf TH O ?_);clear H;intro a H;refine aj ⟨O,?_⟩;exact aB HT Hb hG hv (fun _ _ _ _ _ h=>h) H O
 ·intro ay a w G1 _ ah hc hG HT hv;have H:=HT;clear ah;have H:=H.au (hv 3 21 (hc 3 Y) O) O;have H:=H.au (hv 1 19 (hc 1 Y) O) O;have Hb:=H.full;have H:=Hb;clear hc;refine oN XM zh s H wn O O O hs O ?_;clear H;intro a H;refine aj ⟨O,?_⟩;exact aB HT Hb hG hv (fun _ _ _ _ _ h=>h) H O
 ·intro ay a w G1 _ ah hc hG HT hv;have H:=HT;clear ah;have H:=H.au (hv 4 22 (hc 4 Y) O) O;have Hb:=H.full;have H:=Hb;clear hc;refine iU zh H wn O (H.hp.gK 0 O (by rw [eH];simpa using hc)) O ?_;clear H;intro a H;refine aj ⟨O,?_⟩;exact aB HT Hb hG hv (fun _ _ _ _ _ h=>h) H O
 ·intro ay a w G1 _ ah hc hG HT hv;have H:=HT;clear ah;have Hb:=H.full;have H:=Hb;clear hc;refine kH H (Rm O ?_);clear H;intro a H;refine aj ⟨O,?_⟩;exact aB HT Hb hG hv (fun _ _ _ _ _ h=>h) H O
 ·intro ay a w G1 _ ah hc hG HT hv;have H:=HT;clear ah;have Hb:=H.full;have H:=Hb;clear hc;refine kH H (Rm O ?_);clear H;intro a H;refine aj ⟨O,?_⟩;exact aB HT Hb hG hv (fun _ _ _ _ _ h=>h) H O
 ·intro ay a w G1 _ ah hc hG HT hv;have H:=HT;clear ah;have H:=H.au (hv 7 25 (hc 7 Y) O) O;have Hb:=H.full;have H:=Hb;clear hc;refine kH H (Rk O ?_);clear H;intro a H;refine aj ⟨O,?_⟩;exact aB HT Hb hG hv (fun _ _ _ _ _ h=>h) H O
 ·intro ay a w G1 _ ah hc hG HT hv;have H:=HT;clear ah;have H:=H.au (hv 8 26 (hc 8 Y) O) O;have Hb:=H.full;have H:=Hb;clear hc;refine kH H (Rf Jd O ?_);clear H;intro a H;refine aj ⟨O,?_⟩;exact aB HT Hb hG hv (fun _ _ _ _ _ h=>h) H O
 ·intro ay a w G1 _ ah hc hG HT hv;have H:=HT;clear ah;have H:=H.au (hv 9 27 (hc 9 Y) O) O;have Hb:=H.full;have H:=Hb;clear hc;refine kH H (Ro aC 0 O ?_);clear H;intro a H;refine aj ⟨O,?_⟩;exact aB HT Hb hG hv (fun _ _ _ _ _ h=>h) H O
 ·intro ay a w G1 _ ah hc hG HT hv;have H:=HT;clear ah;have H:=H.au (hv 6 24 (hc 6 Y) O) O;have H:=H.au (hv 10 28 (hc 10 Y) O) O;have Hb:=H.full;have H:=Hb;clear hc;refine CX ((i*W:Nat):Int) H wn O O hiw V V O ?_;clear H;intro a H;refine aj ⟨O,?_⟩;exact aB HT Hb hG hv (fun _ _ _ _ _ h=>h) H O
 ·intro ay a w G1 _ ah hc hG HT hv;have H:=HT;clear ah;have Hb:=H.full;have H:=Hb;clear hc;refine kH H (Rm O ?_);clear H;intro a H;refine aj ⟨O,?_⟩;exact aB HT Hb hG hv (fun _ _ _ _ _ h=>h) H O
 ·intro ay a w G1 _ ah hc hG HT hv;have H:=HT;clear ah;have H:=H.au (hv 11 29 (hc 11 Y) O) O;have H:=H.au (hv 12 30 (hc 12 Y) O) O;have Hb:=H.full;have H:=Hb;clear hc;refine kH H (Rd O ?_);clear H;intro a H;refine aj ⟨O,?_⟩;exact aB HT Hb hG hv (fun _ _ _ _ _ h=>h) H O
 ·intro ay a w G1 _ ah hc hG HT hv;have H:=HT;clear ah;have Hb:=H.full;have H:=Hb;clear hc;refine kH H (Rm O ?_);clear H;intro a H;refine aj ⟨O,?_⟩;exact aB HT Hb hG hv (fun _ _ _ _ _ h=>h) H O
 ·intro ay a w G1 _ ah hc hG HT hv;have H:=HT;clear ah;have H:=H.au (hv 5 23 (hc 5 Y) O) O;have H:=H.au (hv 13 31 (hc 13 Y) O) O;have Hb:=H.full;have H:=Hb;clear hc;refine bD Al Ic (i*W+k) H wn O O V V O ?_;clear H;intro a H;refine aj ⟨O,?_⟩;exact aB HT Hb hG hv (fun _ _ _ _ _ h=>h) H O
 clear H;intro a w G Gd H hv;have H:=H.au (hv 14 32 O O) O;have H:=H.au (hv 15 33 O O) O;clear hv;refine ql Ic 1 (c:=X) (vs:=[_]) (X.set (i*W+k) (.int .u8 c)) H wn O O O O O O (Eq.mpr Nat.ble_eq (by rw [hX];simp only [List.length_singleton];omega)) (by rw [eH,Nat.mul_one];rfl) ?_;clear H;intro w H;dsimp only [List.set] at H;refine aj ⟨O,?_⟩;refine (leave0 H results60 ?_).2;exact H.hp.dP O
end Go.Proofs.YtomebajfpcjoeaaGreatDoor
