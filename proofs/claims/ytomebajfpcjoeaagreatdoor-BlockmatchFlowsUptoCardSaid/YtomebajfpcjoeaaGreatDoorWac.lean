/-
  What the claim stands on, part 3: Rtx Dvs Rst Slg De Dj Dk Dw Rix Blb Utf Utf2 Bst Spn Cls Mac Val U8 Gcl.
-/
import Derived.Test.YtomebajfpcjoeaaGreatDoorWab
import Derived.Lib.MapLaws
import Derived.Lib.ValidLaws
import Derived.Lib.RuneBytes
import Derived.Lib.TrimUEq
import Derived.Test.YtomebajfpcjoeaaGreatDoorProg
import Derived.Test.YtomebajfpcjoeaaGreatDoorChecked
import Derived.KernelRfl
import Derived.Shelf.Unicode.ValidAny
namespace Go.Proofs.YtomebajfpcjoeaaGreatDoor
set_option linter.all false
open Go.Proofs.Tryz
open Go.RowKit
theorem acP:gL prog 58 1 1:=⟨Z⟩
theorem MZ:bL 48:=bN func48 O
theorem Tw:bL 50:=bN func50 O
theorem XI:Ty prog 123 2 32 [.pointer none,.slice none 0 0] true:=⟨Z,Z⟩
theorem abM:bL 70:=bN func70 O
theorem ZV (G:GH) (w0:World) (hG:Hold G w0) (x:aD) (cs:List ak) (hv:aY G x.dat cs) :
  Calls prog 70 #[.agg cs.toArray] w0 (bQ w0 G fun u G'=>u=.string (oV x)):=by
 obtain ⟨pA,pn,pc,dA,dn,dc,yA,yn,yc,fA,fn,fc,rA,rn,rc,rfl,-⟩:=hv.item;refine eN [(0,_)] func70 O ntmps70 O O hG ?_;intro a H;refine gU (fun _ K1=>?_);refine jQ (cs:=[_,_,_,_,_,_,_,_,_,_,_]) H wn O O O ?_;clear H;intro b1 a w hb1 H;refine kH H (av K1 O (SQ fun _ K2=>SR fun _ K3=>fG pq aC 0 O O (Kz K3 (SB (SR fun _ K4=>Rc O (av K4 O (Cd O ?_ ?_))))))) <;> clear H K1 K3 K4
 ·intro h5 a H
  try have p5:=dT h5
  refine kP H (SR fun _ K5=>av K5 O ?_);clear H K5;intro a H;refine lr H results70 O ?_
  exact H.rt (gZ Value.string (by
   unfold oV
   repeat (first|rw [dS]|rw [aZ])))
 intro h5 a H
 try have p5:=dF h5
 refine kP H (SR fun _ K6=>Rc O (av K6 O (Cd O ?_ ?_))) <;> clear H K6
 ·intro h7 a H
  try have p7:=dT h7
  refine kP H (SR fun _ K7=>av K7 O ?_);clear H K7;intro a H;refine lr H results70 O ?_
  exact H.rt (gZ Value.string (by
   unfold oV
   repeat (first|rw [dS]|rw [aZ])))
 intro h7 a H
 try have p7:=dF h7
 refine kP H (SQ fun _ K8=>SR fun _ K9=>Rc O (av K9 O (Cd O ?_ ?_))) <;> clear H K9
 ·intro h9 a H
  try have p9:=dT h9
  refine kP H (Kc K8 (Ct O h9 (SR fun _ aP=>av aP O ?_)));clear H K8 aP;intro a H;refine lr H results70 O ?_
  exact H.rt (gZ Value.string (by
   unfold oV
   repeat (first|rw [dS]|rw [aZ])))
 intro h9 a H
 try have p9:=dF h9
 refine kP H (SR fun _ aT=>Rc O (av aT O (Cd O ?_ ?_))) <;> clear H aT
 ·intro h9 a H
  try have p9:=dT h9
  refine kP H (Kc K8 (Ct O h9 (SR fun _ bH=>av bH O ?_)));clear H K8 bH;intro a H;refine lr H results70 O ?_
  exact H.rt (gZ Value.string (by
   unfold oV
   repeat (first|rw [dS]|rw [aZ])))
 intro h9 a H
 try have p9:=dF h9
 refine kP H (SR fun _ bG=>Rc O (av bG O (Cd O ?_ ?_))) <;> clear H bG
 ·intro h9 a H
  try have p9:=dT h9
  refine kP H (Kc K8 (Ct O h9 (SR fun _ bX=>av bX O ?_)));clear H K8 bX;intro a H;refine lr H results70 O ?_
  exact H.rt (gZ Value.string (by
   unfold oV
   repeat (first|rw [dS]|rw [aZ])))
 intro h9 a H
 try have p9:=dF h9
 refine kP H (SC (Rc O (bO K8 O (Cd O ?_ ?_)))) <;> clear H K8
 ·intro h9 a H
  try have p9:=dT h9
  refine kP H (SR fun _ dG=>av dG O ?_);clear H dG;intro a H;refine lr H results70 O ?_
  exact H.rt (gZ Value.string (by
   unfold oV
   repeat (first|rw [dS]|rw [aZ])))
 intro h9 a H
 try have p9:=dF h9
 refine kP H (SR fun _ dR=>Rc O (av dR O (Cd O ?_ ?_))) <;> clear H dR
 ·intro eD a H
  try have jC:=dT eD
  refine kP H (SR fun _ fu=>fG acP aC 0 O O (Kz fu (SB (SR fun _ gF=>Rc O (av gF O (Cd O ?_ ?_)))))) <;> clear H fu gF
  ·intro h18 a H
   try have nY:=dT h18
   refine kP H (SR fun _ fU=>av fU O ?_);clear H fU;intro a H;refine lr H results70 O ?_
   exact H.rt (gZ Value.string (by
    unfold oV
    repeat (first|rw [dS]|rw [aZ])))
  intro h18 a H
  try have nY:=dF h18
  refine kP H (SR fun _ jd=>Rc O (av jd O (Cd O ?_ ?_))) <;> clear H jd
  ·intro h20 a H
   try have vG:=dT h20
   refine kP H (SR fun _ jf=>av jf O ?_);clear H jf;intro a H;refine lr H results70 O ?_
   exact H.rt (gZ Value.string (by
    unfold oV
    repeat (first|rw [dS]|rw [aZ])))
  intro h20 a H
  try have vG:=dF h20
  refine kP H (SR fun _ iF=>Rc O (av iF O (Cd O ?_ ?_))) <;> clear H iF
  ·intro h22 a H
   try have mX:=dT h22
   refine kP H (SR fun _ jM=>av jM O ?_);clear H jM;intro a H;refine lr H results70 O ?_
   exact H.rt (gZ Value.string (by
    unfold oV
    repeat (first|rw [dS]|rw [aZ])))
  intro h22 a H
  try have mX:=dF h22
  refine kP H (Kc K2 (SR fun _ iI=>av iI O ?_));clear H K2 iI;intro a H;refine lr H results70 O ?_
  exact H.rt (gZ Value.string (by
   unfold oV
   repeat (first|rw [dS]|rw [aZ])))
 intro eD a H
 try have jC:=dF eD
 refine kP H (Kc K2 (SR fun _ lJ=>av lJ O ?_));clear H K2 lJ;intro a H;refine lr H results70 O ?_
 exact H.rt (gZ Value.string (by
  unfold oV
  repeat (first|rw [dS]|rw [aZ])))
theorem Pm (G:GH) (w0:World) (hG:Hold G w0) (l:List aD) (v:ak) (hv:aF G (.sl 11 (l.map aD.dat)) v) (hz:cK l<=1073741824) :
  Calls prog 49 #[v] w0 (bQ w0 G fun u G'=>u=.string ⟨(mJ l).toArray⟩):=by
 obtain ⟨A,c,rfl,hc1,hc2,hg⟩:=hv.slice;rw [bJ] at *;have hll:=yj l;refine eN [(0,_)] func49 O ntmps49 O O hG ?_;intro a H;refine kP H (SR fun _ K1=>av K1 O (SR fun _ K2=>?_));clear H K1;intro a H;refine gX XI H wn O ?_;clear H;intro b3 a w hb3 H;refine K2 _ _ ?_;clear K2;refine kP H (SQ fun _ K3=>SR fun _ K4=>Rm O (Rl iB O (Rm O (Kz K4 (SB ?_)))));clear H K4;intro a H;skip;refine dY (ι:=Nat × ak × ak × OL × GH) (Tc:=[(3,_),(6,_),(7,_)]) (Lc:=[]) (fun gh=>[(8,vi gh.1)]) (fun gh=>[bB b3 gh.2.1 gh.2.2.1]++gh.2.2.2.1) (fun gh=>gh.2.2.2.2) (fun gh=>gh.1<=l.length∧(gh.2.1=.pointer none∨gh.2.1=(aJ b3 0))∧aW 5 1 gh.2.2.1 (mJ (l.take gh.1)).length (Lib.byteCells (mJ (l.take gh.1))) gh.2.2.2.1∧(mJ (l.take gh.1)=[]->gh.2.2.1=.slice none 0 0)∧(∀ b o,G b=some o->gh.2.2.2.2 b=some o)) (fun gh=>l.length - gh.1) ((0,.pointer none,.slice none 0 0,[],G)) (by exact H.sub ⟨O,O,O,O,aI⟩) ?_ ?_
 ·exact ⟨V,.inl O,aW.nil,fun _=>rfl,fun _ _ h=>h⟩
 clear H;rintro ⟨k,p,v,Lo,g⟩ a w hI H;dsimp only at hI H;obtain ⟨hk,hp,hrw,hnl,hgm⟩:=hI;dsimp only [lca,bW] at H;refine kP H (SR fun _ K5=>Rc O (Kz K5 (SQ fun _ K6=>Cd O ?_ ?_))) <;> clear H K5
 ·intro h9 a H
  try have p9:=dT h9
  have hk2:k < l.length:=by omega
  obtain ⟨b,o,cs,rfl,hcl,hrow,hrep⟩:=hg k l[k].dat (by simp [hk2]);obtain ⟨pA,pn,pc,dA,dn,dc,yA,yn,yc,fA,fn,fc,rA,rn,rc,rfl,-⟩:=hrep.item;replace hrow:=fun j u hj=>aK hgm (hrow j u hj);replace hrep:=hrep.mono hgm;have hbl:=KU (l.take (k+1))
  have Vh:cK l=cK (l.take (k+1))+cK (l.drop (k+1)):=by
   have h:=HZ ((l.take (k+1)).map aD.dat) ((l.drop (k+1)).map aD.dat);rw [<- jw,List.take_append_drop] at h;exact h
  have hbs:=ait hk2;have hbz:=gZ List.length hbs;rw [fQ] at hbz;have hts:(rQ l[k]).data.toList.length=(rQ l[k]).size:=BP;refine kP H (Kc K6 (SQ fun _ K7=>SB (SR fun _ K8=>Ri iB fB O O ?_)));clear H K6;intro a H;refine bV fB (cs:=[_,_,_,_,_,_,_,_,_,_,_]) H wn O O (fun j v hj=>H.hp.aS (hrow j v hj)) O ?_;clear H;intro a H;refine gX fB H wn O ?_;clear H;intro b5 a w hb5 H;refine bg fB 0 (vs:=[_,_,_,_,_,_,_,_,_,_,_]) H wn O ?_;clear H;intro w H;refine K8 _ _ ?_;clear K8;refine kP H (SR fun _ K9=>fG pq aC 0 O O (Rc O (Kz K9 (Cd O ?_ ?_)))) <;> clear H K9
  ·intro eD a H
   try have jC:=dT eD
   have hch:rQ l[k]=l[k].text:=aN jC;refine kP H (SC (fG A9 iW 0 O O ?_));clear H;intro a H
   first|rw [<- hch] at H|skip
   refine jT MZ (Li:=[_]) (L:=bB b3 p v :: Lo) H wn O (QB _ _ _ b3 p v _ _ (rQ l[k]) hp (Hp.owns (Li:=[_]) H.hp) hrw V) O ?_;clear H;rintro v_ _ Q5 a w ⟨v17,Fy,rfl,GR,rfl,Ob⟩ mE H;refine kH H (Kn K7 (SC (Rd O (Rm O ?_))));clear H K7;intro a H;refine aj ?_;refine bE ((k+1,(aJ b3 0),v17,Fy,_)) (by exact (H.dz (Pl:=[_,_]) (bZ:=[_]) [1] Y O).sub ⟨O,O,O,O,aI⟩) ?_
   (try dsimp only);exact ⟨V,.inr O,by rw [hbs,ME,fQ,hts];exact GR,fun e=>Ob (hnl (List.eq_nil_of_length_eq_zero (by rw [e] at hbz;simp only [List.length_nil] at hbz;omega))) (by rw [e] at hbz;simp only [List.length_nil] at hbz;omega),by first|exact hgm|exact fun b o h=>iT b o (hgm b o h)⟩
  intro eD a H
  try have jC:=dF eD
  have hch:rQ l[k]=oV l[k]:=aL jC;refine rP ?_;refine bV fB (cs:=[_,_,_,_,_,_,_,_,_,_,_]) H wn O O (H.hp.bR 0 O O) O ?_;clear H;intro a H;refine s_call abM H wn O (ZV _ _ H.ro l[k] [_,_,_,_,_,_,_,_,_,_,_] hrep) O ?_;clear H;rintro v19 oP a w rfl iT H;rw [<- hch] at H
  first|rw [<- hch] at H|skip
  refine jT MZ (Li:=[_]) (L:=bB b3 p v :: Lo) H wn O (QB _ _ _ b3 p v _ _ (rQ l[k]) hp (Hp.owns (Li:=[_]) H.hp) hrw V) O ?_;clear H;rintro v_ _ Q5 a w ⟨v17,Fy,rfl,GR,rfl,Ob⟩ mE H;refine kH H (Kn K7 (SC (Rd O (Rm O ?_))));clear H K7;intro a H;refine aj ?_;refine bE ((k+1,(aJ b3 0),v17,Fy,_)) (by exact (H.dz (Pl:=[_,_]) (bZ:=[_]) [1] Y O).sub ⟨O,O,O,O,aI⟩) ?_
  (try dsimp only);exact ⟨V,.inr O,by rw [hbs,ME,fQ,hts];exact GR,fun e=>Ob (hnl (List.eq_nil_of_length_eq_zero (by rw [e] at hbz;simp only [List.length_nil] at hbz;omega))) (by rw [e] at hbz;simp only [List.length_nil] at hbz;omega),by first|exact hgm|exact fun b o h=>iT b o (hgm b o h)⟩
 intro h9 a H
 try have p9:=dF h9
 refine dJ ?_;refine K3 _ _ ?_;clear K3;refine gy (fun _ aP=>?_);rw [show l.take k=l from gG V] at hrw hnl;refine rP ?_;refine jT Tw (Li:=[]) (L:=bB b3 p v :: Lo) H wn O (Xk _ _ _ b3 p v (mJ l) (Hp.owns (Li:=[]) H.hp) hrw hnl) O ?_;clear H;rintro v22 Dq YP a w rfl wu H;exact kH H (bO aP O (LR results49 O fun H=>H.rt O))
theorem FY:bL 16:=bN func16 O
theorem abu:bL 44:=bN func44 O
theorem abl:bL 29:=bN func29 O
theorem Ce:bL 6:=bN func6 O
theorem Tg:bL 15:=bN func15 O
mutual
/-- All texts are valid. -/
def DU:aD->Bool
 | .mk k _ _ tx _ f r=>(decide (¬ k=1) || gq tx) && ig f && uh r
def Ca:dQ->Bool
 | .mk _ cs=>yK cs
def DT:dO->Bool
 | .mk _ _ f=>ig f
def ig:List aD->Bool
 | []=>true
 | x :: l=>DU x && ig l
def uh:List dQ->Bool
 | []=>true
 | x :: l=>Ca x && uh l
def yK:List dO->Bool
 | []=>true
 | x :: l=>DT x && yK l
end
theorem vY (x:aD):DU x=((decide (¬ x.kind=1) || gq x.text) && ig x.flow && uh x.rows):=by cases x;rw [DU];rfl
theorem Cb (x:dQ):Ca x=yK x.cells:=by cases x;rw [Ca];rfl
theorem FT (x:dO):DT x=ig x.flow:=by cases x;rw [DT];rfl
theorem vZ:∀ l:List aD,ig l=l.all DU
 | []=>by rw [ig];rfl
 | x :: l=>by rw [ig,vZ l,List.all_cons]
theorem Cc:∀ l:List dQ,uh l=l.all Ca
 | []=>by rw [uh];rfl
 | x :: l=>by rw [uh,Cc l,List.all_cons]
theorem FU:∀ l:List dO,yK l=l.all DT
 | []=>by rw [yK];rfl
 | x :: l=>by rw [yK,FU l,List.all_cons]
theorem AU {α:Type} {p:α->Bool} {l:List α} {k:Nat} (hk:k < l.length) (h:(l.take k).all p=true) (h2:p l[k]=true):(l.take (k+1)).all p=true:=by
 rw [jq hk,List.all_append,h];simp [h2]
theorem vR {α:Type} {p:α->Bool} {l:List α} {k:Nat} (hk:k < l.length) (h:p l[k]=false):l.all p=false:=by
 rw [List.all_eq_false];exact ⟨_,dV hk,by simp [h]⟩
theorem BQ {α:Type} {p:α->Bool} {l:List α} {k:Nat} (hk:¬ k < l.length) (h:(l.take k).all p=true):l.all p=true:=by
 rwa [gG V] at h
theorem MR {l:List aD} (h:ig l=true):∀ x∈l,x.kind=1->gq x.text=true:=fun x hx hk=>by
 rw [vZ,gW] at h;have:=h x hx;rw [vY] at this
 simp [hk] at this
 exact this.1.1
theorem DV {l:List aD} (h:ig l=true):jW l=0:=by
 unfold jW
 rw [aN]
 unfold oC
 rw [gW];intro x hx
 unfold xX EX
 by_cases hk:x.kind=1
 ·simp [hk,MR h x hx hk]
 simp [hk]
theorem aaF {l:List aD} (h:¬ jW l=0):ig l=false:=by
 cases e:ig l with
 | false=>rfl
 | true=>exact absurd (DV e) h
theorem afj {l:List aD} (h:jW l=0) {x:aD} (hx:x∈l):(decide (¬ x.kind=1) || gq x.text)=true:=by
 have hd:oC l=true:=by
  unfold jW at h
  split at h
  ·assumption
  exact absurd h Y
 unfold oC at hd
 rw [gW] at hd;have:=hd x hx
 by_cases hk:x.kind=1
 ·cases e:gq x.text with
  | true=>simp
  | false=>simp [xX,EX,hk,e] at this
 simp [hk]
def Fb (f n:Nat):Prop:=∀ (G:GH) (w0:World),Hold G w0->∀ (l:List aD) (v:ak),aF G (.sl 11 (l.map aD.dat)) v->cK l < n ->
 Calls prog f #[v] w0 (bQ w0 G fun u G'=>u=.bool (ig l))
set_option maxHeartbeats 1000000 in
theorem aaA {n:Nat} (ih:Fb 16 n) (G:GH) (w0:World) (hG:Hold G w0) (l:List dO) (v:ak) (hv:aF G (.sl 7 (l.map dO.dat)) v) (hz:lZ l < n) :
  Calls prog 44 #[v] w0 (bQ w0 G fun u G'=>u=.bool (yK l)):=by
 obtain ⟨A,c,rfl,hc1,hc2,hg⟩:=hv.slice;have hml:maxLen=9223372036854775807:=rfl;rw [bJ] at *;refine eN [(0,_)] func44 O ntmps44 O O hG ?_;intro a H;refine kP H (SR fun _ K1=>av K1 O (SQ fun _ K2=>SR fun _ K3=>Rm O (Rl qx O (Rm O (Kz K3 (SB ?_))))));clear H K1 K3;intro a H;skip;refine dY (ι:=Nat × GH) (Tc:=[(5,_),(6,_)]) (Lc:=[]) (fun gh=>[(7,vi gh.1)]) (fun gh=>[]) (fun gh=>gh.2) (fun gh=>gh.1<=l.length∧(l.take gh.1).all DT=true∧(∀ b o,G b=some o->gh.2 b=some o)) (fun gh=>l.length - gh.1) ((0,G)) (by exact H.sub ⟨O,O,O,aI⟩) ?_ ?_
 ·exact ⟨fC _,O,fun _ _ h=>h⟩
 clear H;rintro ⟨k,g⟩ a w hI H;dsimp only at hI H;obtain ⟨hk,hd,hgm⟩:=hI;dsimp only [lca,bW] at H;refine kP H (SR fun _ K4=>Rc O (Kz K4 (SQ fun _ K5=>Cd O ?_ ?_))) <;> clear H K4
 ·intro h8 a H
  try have p8:=dT h8
  have hk2:k < l.length:=by omega
  obtain ⟨b,o,cs,rfl,hcl,hrow,hrep⟩:=hg k l[k].dat (by simp [hk2]);obtain ⟨pA,pn,pc,dA,dn,dc,yA,yn,yc,fA,fn,fc,rfl,hh,hf⟩:=hrep.cell;replace hrow:=fun j u hj=>aK hgm (hrow j u hj);have he:=zk l[k];have hm:=E8 (dV hk2);refine kP H (Kc K5 (SQ fun _ K6=>SB (SR fun _ K7=>Ri qx mY O O ?_)));clear H K5;intro a H;refine bV mY (cs:=[_,_,_,_,_,_,_]) H wn O O (fun j v hj=>H.hp.aS (hrow j v hj)) O ?_;clear H;intro a H;refine gX mY H wn O ?_;clear H;intro b4 a w hb4 H;refine bg mY 0 (vs:=[_,_,_,_,_,_,_]) H wn O ?_;clear H;intro w H;refine K7 _ _ ?_;clear K7;refine kP H (SR fun _ K8=>fG D7 lG 0 O O ?_);clear H;intro a H;refine s_call FY H wn O (ih _ _ H.ro l[k].flow _ (hf.mono hgm) V) O ?_;clear H;rintro v13 LC a w rfl Gu H;refine kH H (Rn O (Kz K8 (Cd O ?_ ?_))) <;> clear H K8
  ·intro eD a H
   exact kP H (SR fun _ K9=>av K9 O (LR results44 O fun H=>H.rt (jK (by rw [FU];exact (vR hk2 (by rw [FT];simpa using eD)).symm))))
  intro eD a H
  try have jC:=dF eD
  refine kP H (Kc K6 (SC (Rd O (Rm O ?_))));clear H K6;intro a H;refine aj ?_;refine bE ((k+1,_)) (by exact (H.dz (Pl:=[_]) (bZ:=[]) [] Y O).sub ⟨O,O,O,aI⟩) ?_
  (try dsimp only);exact ⟨V,AU hk2 hd (by rw [FT];simpa using eD),fun b o h=>Gu b o (hgm b o h)⟩
 intro h8 a H
 try have p8:=dF h8
 refine dJ ?_;refine K2 _ _ ?_;clear K2;exact kP H (SR fun _ aP=>av aP O (LR results44 O fun H=>H.rt (jK (by rw [FU];exact (BQ V hd).symm))))
set_option maxHeartbeats 1000000 in
theorem aaB {n:Nat} (ih:Fb 16 n) (G:GH) (w0:World) (hG:Hold G w0) (l:List dQ) (v:ak) (hv:aF G (.sl 6 (l.map dQ.dat)) v) (hz:kY l < n) :
  Calls prog 29 #[v] w0 (bQ w0 G fun u G'=>u=.bool (uh l)):=by
 obtain ⟨A,c,rfl,hc1,hc2,hg⟩:=hv.slice;have hml:maxLen=9223372036854775807:=rfl;rw [bJ] at *;refine eN [(0,_)] func29 O ntmps29 O O hG ?_;intro a H;refine kP H (SR fun _ K1=>av K1 O (SQ fun _ K2=>SR fun _ K3=>Rm O (Rl mK O (Rm O (Kz K3 (SB ?_))))));clear H K1 K3;intro a H;skip;refine dY (ι:=Nat × GH) (Tc:=[(5,_),(6,_)]) (Lc:=[]) (fun gh=>[(7,vi gh.1)]) (fun gh=>[]) (fun gh=>gh.2) (fun gh=>gh.1<=l.length∧(l.take gh.1).all Ca=true∧(∀ b o,G b=some o->gh.2 b=some o)) (fun gh=>l.length - gh.1) ((0,G)) (by exact H.sub ⟨O,O,O,aI⟩) ?_ ?_
 ·exact ⟨fC _,O,fun _ _ h=>h⟩
 clear H;rintro ⟨k,g⟩ a w hI H;dsimp only at hI H;obtain ⟨hk,hd,hgm⟩:=hI;dsimp only [lca,bW] at H;refine kP H (SR fun _ K4=>Rc O (Kz K4 (SQ fun _ K5=>Cd O ?_ ?_))) <;> clear H K4
 ·intro h8 a H
  try have p8:=dT h8
  have hk2:k < l.length:=by omega
  obtain ⟨b,o,cs,rfl,hcl,hrow,hrep⟩:=hg k l[k].dat (by simp [hk2]);obtain ⟨pA,pn,pc,dA,dn,dc,yA,yn,yc,fA,fn,fc,rfl,hh,hf⟩:=hrep.row;replace hrow:=fun j u hj=>aK hgm (hrow j u hj);have he:=wP l[k];have hm:=Dn (dV hk2);refine kP H (Kc K5 (SQ fun _ K6=>SB (SR fun _ K7=>Ri mK jo O O ?_)));clear H K5;intro a H;refine bV jo (cs:=[_,_,_,_,_,_]) H wn O O (fun j v hj=>H.hp.aS (hrow j v hj)) O ?_;clear H;intro a H;refine gX jo H wn O ?_;clear H;intro b4 a w hb4 H;refine bg jo 0 (vs:=[_,_,_,_,_,_]) H wn O ?_;clear H;intro w H;refine K7 _ _ ?_;clear K7;refine kP H (SR fun _ K8=>fG uX vI 0 O O ?_);clear H;intro a H;refine s_call abu H wn O (aaA ih _ _ H.ro l[k].cells _ (hf.mono hgm) V) O ?_;clear H;rintro v13 LC a w rfl Gu H;refine kH H (Rn O (Kz K8 (Cd O ?_ ?_))) <;> clear H K8
  ·intro eD a H
   exact kP H (SR fun _ K9=>av K9 O (LR results29 O fun H=>H.rt (jK (by rw [Cc];exact (vR hk2 (by rw [Cb];simpa using eD)).symm))))
  intro eD a H
  try have jC:=dF eD
  refine kP H (Kc K6 (SC (Rd O (Rm O ?_))));clear H K6;intro a H;refine aj ?_;refine bE ((k+1,_)) (by exact (H.dz (Pl:=[_]) (bZ:=[]) [] Y O).sub ⟨O,O,O,aI⟩) ?_
  (try dsimp only);exact ⟨V,AU hk2 hd (by rw [Cb];simpa using eD),fun b o h=>Gu b o (hgm b o h)⟩
 intro h8 a H
 try have p8:=dF h8
 refine dJ ?_;refine K2 _ _ ?_;clear K2;exact kP H (SR fun _ aP=>av aP O (LR results29 O fun H=>H.rt (jK (by rw [Cc];exact (BQ V hd).symm))))
set_option maxHeartbeats 1000000 in
theorem SS:∀ n:Nat,n<=4294967297->Fb 16 n
 | 0,_=>fun _ _ _ _ _ _ h=>absurd h V
 | n+1,hn=>by
  intro G w0 hG l v hv hz;have ih:=SS n V;obtain ⟨A,c,rfl,hc1,hc2,hg⟩:=hv.slice;have hml:maxLen=9223372036854775807:=rfl;rw [bJ] at *;refine eN [(0,_)] func16 O ntmps16 O O hG ?_;intro a H;refine kP H (SR fun _ K1=>av K1 O (SQ fun _ K2=>SR fun _ K3=>Rm O ?_));clear H K1;intro a H;refine s_call FZ H wn O (Hl _ _ H.ro l _ hv V) O ?_;clear H;rintro v9 _ a w ⟨rfl,rfl⟩ - H;refine kH H (Rm O ?_);clear H;intro a H;(iterate 2 refine eZ H wn O O O ?_;clear H;intro a H);refine kH H (Ra O (av K3 O (SR fun _ K4=>Rm O (Rc O (Kz K4 (Cd O ?_ ?_)))))) <;> clear H K3 K4
  ·intro mR a H
   try have yS:=dT mR
   exact kP H (SR fun _ K5=>av K5 O (LR results16 O fun H=>H.rt (jK (aaF yS).symm)))
  intro mR a H
  try have yS:=dF mR
  have hl0:jW l=0:=DC.1 yS;refine kP H (Kc K2 (SQ fun _ K6=>SR fun _ K7=>Rm O (Rl iB O (Rm O (Kz K7 (SB ?_))))));clear H K2 K7;intro a H;skip;refine dY (ι:=Nat × GH) (Tc:=[(14,_),(15,_)]) (Lc:=[]) (fun gh=>[(16,vi gh.1)]) (fun gh=>[]) (fun gh=>gh.2) (fun gh=>gh.1<=l.length∧(l.take gh.1).all DU=true∧(∀ b o,G b=some o->gh.2 b=some o)) (fun gh=>l.length - gh.1) ((0,G)) (by exact H.sub ⟨O,O,O,aI⟩) ?_ ?_
  ·exact ⟨fC _,O,fun _ _ h=>h⟩
  clear H;rintro ⟨k,g⟩ a w hI H;dsimp only at hI H;obtain ⟨hk,hd,hgm⟩:=hI;dsimp only [lca,bW] at H;refine kP H (SR fun _ K8=>Rc O (Kz K8 (SQ fun _ K9=>Cd O ?_ ?_))) <;> clear H K8
  ·intro eO a H
   try have mW:=dT eO
   have hk2:k < l.length:=by omega
   obtain ⟨b,o,pA,pn,pc,dA,dn,dc,yA,yn,yc,fA,fn,fc,rA,rn,rc,rfl,hrow,hh,hf,hr⟩:=zL hk2 hg;replace hrow:=fun j u hj=>aK hgm (hrow j u hj);have he:=oO l[k];have hm:=BH (dV hk2);refine kP H (Kc K9 (SQ fun _ aP=>SB (SR fun _ aT=>Ri iB fB O O ?_)));clear H K9;intro a H;refine bV fB (cs:=[_,_,_,_,_,_,_,_,_,_,_]) H wn O O (fun j v hj=>H.hp.aS (hrow j v hj)) O ?_;clear H;intro a H;refine gX fB H wn O ?_;clear H;intro b6 a w hb6 H;refine bg fB 0 (vs:=[_,_,_,_,_,_,_,_,_,_,_]) H wn O ?_;clear H;intro w H;refine aT _ _ ?_;clear aT;refine kP H (SR fun _ bH=>fG D6 lG 0 O O ?_);clear H;intro a H;refine s_call FY H wn O (ih _ _ H.ro l[k].flow _ (hf.mono hgm) V) O ?_;clear H;rintro v22 Dq a w rfl wu H;refine kH H (Rn O (Rm O (Sp 24 O ?_ ?_))) <;> clear H
   ·intro aQ a H
    exact kH H (aO aQ O (aO aQ O (Pt aQ O (Kz bH (Ct O O (SR fun _ bG=>av bG O (LR results16 O fun H=>H.rt (jK (by rw [vZ];exact (vR hk2 (by rw [vY,show ig l[k].flow=false by simpa using aQ];simp)).symm)))))))))
   intro aQ a H
   try have gP:=dF aQ
   have hf1:ig l[k].flow=true:=by simpa using aQ
   refine kH H (YF uW aQ O (YO vH 0 aQ O ?_));clear H;intro a H;refine s_call abl H (wg H O O aQ) O (aaB ih _ _ H.ro l[k].rows _ ((hr.mono hgm).mono wu) V) O ?_;clear H;rintro v27 Yy a w rfl Ei H;refine kH H (YN aQ O (Pf aQ O (Kz bH (Cd O ?_ ?_)))) <;> clear H bH
   ·intro uo a H
    exact kP H (SR fun _ bX=>av bX O (LR results16 O fun H=>H.rt (jK (by rw [vZ];exact (vR hk2 (by rw [vY,show uh l[k].rows=false by simpa using uo];simp)).symm))))
   intro uo a H
   try have p29:=dF uo
   have hr1:uh l[k].rows=true:=by simpa using uo
   refine kP H (Kc aP (SC (Rd O (Rm O ?_))));clear H aP;intro a H;refine aj ?_;refine bE ((k+1,_)) (by exact (H.dz (Pl:=[_]) (bZ:=[]) [] Y O).sub ⟨O,O,O,aI⟩) ?_
   (try dsimp only);exact ⟨V,AU hk2 hd (by rw [vY,afj hl0 (dV hk2),hf1,hr1];rfl),fun b o h=>Ei b o (wu b o (hgm b o h))⟩
  intro eO a H
  try have mW:=dF eO
  refine dJ ?_;refine K6 _ _ ?_;clear K6;exact kP H (SR fun _ dG=>av dG O (LR results16 O fun H=>H.rt (jK (by rw [vZ];exact (BQ V hd).symm))))
theorem MO (G:GH) (w0:World) (hG:Hold G w0) (l:List aD) (v:ak) (hv:aF G (.sl 11 (l.map aD.dat)) v) (hz:cK l<=4294967296) :
  Calls prog 16 #[v] w0 (bQ w0 G fun u G'=>u=.bool (ig l)):=SS 4294967297 (bS _) G w0 hG l v hv V
set_option maxHeartbeats 1000000 in
theorem VJ {n:Nat} (ih:Fb 6 n) (G:GH) (w0:World) (hG:Hold G w0) (l:List dO) (v:ak) (hv:aF G (.sl 7 (l.map dO.dat)) v) (hz:lZ l < n) :
  Calls prog 15 #[v] w0 (bQ w0 G fun u G'=>u=.bool (yK l)):=by
 obtain ⟨A,c,rfl,hc1,hc2,hg⟩:=hv.slice;have hml:maxLen=9223372036854775807:=rfl;rw [bJ] at *;refine eN [(0,_)] func15 O ntmps15 O O hG ?_;intro a H;refine kP H (SR fun _ K1=>av K1 O (SQ fun _ K2=>SR fun _ K3=>av K3 O (SB ?_)));clear H K1 K3;intro a H;skip;refine dY (ι:=Nat × GH) (Tc:=[(0,_)]) (Lc:=[]) (fun gh=>[(3,vi gh.1)]) (fun gh=>[]) (fun gh=>gh.2) (fun gh=>gh.1<=l.length∧(l.take gh.1).all DT=true∧(∀ b o,G b=some o->gh.2 b=some o)) (fun gh=>l.length - gh.1) ((0,G)) (by exact H.sub ⟨O,O,aI⟩) ?_ ?_
 ·exact ⟨fC _,O,fun _ _ h=>h⟩
 clear H;rintro ⟨k,g⟩ a w hI H;dsimp only at hI H;obtain ⟨hk,hd,hgm⟩:=hI;dsimp only [lca,bW] at H;refine kP H (SQ fun _ K4=>SR fun _ K5=>Rm O (Rm O (Rl qx O (Rc O (Kz K5 (Cd O ?_ ?_)))))) <;> clear H K5
 ·intro h7 a H
  try have p7:=dT h7
  have hk2:k < l.length:=by omega
  obtain ⟨b,o,cs,rfl,hcl,hrow,hrep⟩:=hg k l[k].dat (by simp [hk2]);obtain ⟨pA,pn,pc,dA,dn,dc,yA,yn,yc,fA,fn,fc,rfl,hh,hf⟩:=hrep.cell;replace hrow:=fun j u hj=>aK hgm (hrow j u hj);have he:=zk l[k];have hm:=E8 (dV hk2);refine kP H (Kc K4 (SQ fun _ K6=>SB (SR fun _ K7=>Rm O (Rm O (Ri qx mY O O (Rf D7 O (Rg lG O (hrow 6 _ O) ?_)))))));clear H K4;intro a H;refine s_call Ce H wn O (ih _ _ H.ro l[k].flow _ (hf.mono hgm) V) O ?_;clear H;rintro v15 Ar a w rfl sP H;refine kH H (Rn O (Kz K7 (Cd O ?_ ?_))) <;> clear H K7
  ·intro h16 a H
   exact kP H (SR fun _ K8=>av K8 O (LR results15 O fun H=>H.rt (jK (by rw [FU];exact (vR hk2 (by rw [FT];simpa using h16)).symm))))
  intro h16 a H
  try have p16:=dF h16
  refine kP H (Kc K6 (SC (Rm O (Rd O (Ra O ?_)))));clear H K6;intro a H;refine aj ?_;refine bE ((k+1,_)) (by exact H.sub ⟨O,O,aI⟩) ?_
  (try dsimp only);exact ⟨V,AU hk2 hd (by rw [FT];simpa using h16),fun b o h=>sP b o (hgm b o h)⟩
 intro h7 a H
 try have p7:=dF h7
 refine dJ ?_;refine K2 _ _ ?_;clear K2;exact kP H (SR fun _ K9=>av K9 O (LR results15 O fun H=>H.rt (jK (by rw [FU];exact (BQ V hd).symm))))
set_option maxHeartbeats 1000000 in
set_option maxRecDepth 8000 in
theorem VE:∀ n:Nat,n<=1073741824->Fb 6 n
 | 0,_=>fun _ _ _ _ _ _ h=>absurd h V
 | n+1,hn=>by
  intro G w0 hG l v hv hz;have ih:=VE n V;obtain ⟨A,c,rfl,hc1,hc2,hg⟩:=hv.slice;have hml:maxLen=9223372036854775807:=rfl;rw [bJ] at *;refine eN [(0,_)] func6 O ntmps6 O O hG ?_;intro a H;refine kP H (SR fun _ K1=>av K1 O (SQ fun _ K2=>SR fun _ K3=>av K3 O (SB ?_)));clear H K1 K3;intro a H;skip;refine dY (ι:=Nat × GH) (Tc:=[(0,_)]) (Lc:=[]) (fun gh=>[(3,vi gh.1)]) (fun gh=>[]) (fun gh=>gh.2) (fun gh=>gh.1<=l.length∧(l.take gh.1).all DU=true∧(∀ b o,G b=some o->gh.2 b=some o)) (fun gh=>l.length - gh.1) ((0,G)) (by exact H.sub ⟨O,O,aI⟩) ?_ ?_
  ·exact ⟨fC _,O,fun _ _ h=>h⟩
  clear H;rintro ⟨k,g⟩ a w hI H;dsimp only at hI H;obtain ⟨hk,hd,hgm⟩:=hI;dsimp only [lca,bW] at H;refine kP H (SQ fun _ K4=>SR fun _ K5=>Rm O (Rm O (Rl iB O (Rc O (Kz K5 (Cd O ?_ ?_)))))) <;> clear H K5
  ·intro h8 a H
   try have p8:=dT h8
   have hk2:k < l.length:=by omega
   obtain ⟨b,o,pA,pn,pc,dA,dn,dc,yA,yn,yc,fA,fn,fc,rA,rn,rc,rfl,hrow,hh,hf,hr⟩:=zL hk2 hg;replace hrow:=fun j u hj=>aK hgm (hrow j u hj);have he:=oO l[k];have hm:=BH (dV hk2)
   obtain rfl:rn=l[k].rows.length:=by
    obtain ⟨_,_,e,-⟩:=hr.slice;obtain ⟨-,e2,-⟩:=Value.slice.inj e;rw [e2,bJ]
   refine kP H (Kc K4 (SQ fun _ K6=>SB (SQ fun _ K7=>SR fun _ K8=>Rm O (Rm O (Ri iB fB O O (Rf pq O (Rg aC O (hrow 0 _ O) (Rc O (Rm O (Sp 17 O ?_ ?_)))))))))) <;> clear H K4
   ·intro eO a H
    try have mW:=dT eO
    refine kH H (YM eO O (YM eO O (YI iB fB eO O O (YF A9 eO O (YR iW eO O (hrow 3 _ O) ?_)))));clear H;intro a H;refine s_call FX H (wg H O O eO) O (Ih _ _ H.ro l[k].text V) O ?_;clear H;rintro v23 _ a w ⟨rfl,rfl⟩ - H;refine kH H (YN eO O (Pt eO O (Rm O (Sp 26 O ?_ ?_)))) <;> clear H
    ·intro fV a H
     exact kH H (aV fV O (aO fV O (aO fV O (Pt fV O (Kz K8 (Ct O O (SR fun _ K9=>av K9 O (LR results6 O fun H=>H.rt (jK (by rw [vZ];exact (vR hk2 (by rw [vY,show gq l[k].text=false by simpa using fV,mW];simp)).symm))))))))))
    intro fV a H
    try have p26:=dF fV
    refine kH H (YM fV O (YM fV O (YI iB fB fV O O (YF D6 fV O (YR lG fV O (hrow 9 _ O) ?_)))));clear H;intro a H;refine s_call Ce H (wg H O O fV) O (ih _ _ H.ro l[k].flow _ (hf.mono hgm) V) O ?_;clear H;rintro v32 BK a w rfl sQ H;refine kH H (YN fV O (Pf fV O (Kz K8 (Cd O ?_ ?_)))) <;> clear H K8
    ·intro kG a H
     exact kP H (SR fun _ aP=>av aP O (LR results6 O fun H=>H.rt (jK (by rw [vZ];exact (vR hk2 (by rw [vY,show ig l[k].flow=false by simpa using kG];simp)).symm))))
    intro kG a H
    try have p34:=dF kG
    have htx:(decide (¬ l[k].kind=1) || gq l[k].text)=true:=by
     first
     | (simp [mW];done)
     | (simp [show gq l[k].text=true by simpa using fV];done)
    have hfl:ig l[k].flow=true:=by simpa using kG
    have hrl:=E9 l[k].rows;refine kP H (Kc K7 (SR fun _ aT=>av aT O (SB ?_)));clear H K7 aT;intro a H;skip;refine dY (ι:=Nat × GH) (Tc:=[(0,_),(3,_)]) (Lc:=[]) (fun gh=>[(4,vi gh.1)]) (fun gh=>[]) (fun gh=>gh.2) (fun gh=>gh.1<=l[k].rows.length∧(l[k].rows.take gh.1).all Ca=true∧(∀ b o,G b=some o->gh.2 b=some o)∧(∀ b o,g b=some o->gh.2 b=some o)) (fun gh=>l[k].rows.length - gh.1) ((0,_)) (by exact H.sub ⟨O,O,O,aI⟩) ?_ ?_
    ·exact ⟨fC _,O,fun b o h=>sQ b o (hgm b o h),sQ⟩
    clear H;rintro ⟨j,g2⟩ a w hI H;dsimp only at hI H;obtain ⟨hj,hd2,gH,hgg⟩:=hI;dsimp only [lca,bW] at H;refine kP H (SQ fun _ bH=>SR fun _ bG=>Rm O (Rm O (Rm O (Ri iB fB O O (Rf uW O (Rg vH O (aK hgg (hrow 10 _ O)) (Rl mK O (Rc O (Kz bG (Cd O ?_ ?_)))))))))) <;> clear H bG
    ·intro iQ a H
     try have p42:=dT iQ
     have hj2:j < l[k].rows.length:=by omega
     obtain ⟨V9,rc',e',-,-,hrg⟩:=hr.slice;obtain ⟨FV,-,-⟩:=Value.slice.inj e';subst FV;obtain ⟨b2,o2,cs2,rfl,-,hrow2,yN⟩:=hrg j l[k].rows[j].dat (by simp [hj2]);obtain ⟨qA,qn,qc,uA,un,uc,zA,zn,zc,xA,xn,xc,rfl,Cq,hfc⟩:=yN.row;replace hrow2:=fun j u hj=>aK gH (hrow2 j u hj);have he2:=wP l[k].rows[j];have hm2:=Dn (dV hj2);refine kP H (Kc bH (SQ fun _ bX=>SB (SR fun _ dG=>Rm O (Rm O (Ri iB fB O O (Rf uW O (Rg vH O (aK hgg (hrow 10 _ O)) (Rm O (Ri mK jo O O (Rf uX O (Rg vI O (hrow2 5 _ O) ?_)))))))))));clear H bH;intro a H;refine s_call Tg H wn O (VJ ih _ _ H.ro l[k].rows[j].cells _ (hfc.mono gH) V) O ?_;clear H;rintro v54 QM a w rfl GA H;refine kH H (Rn O (Kz dG (Cd O ?_ ?_))) <;> clear H dG
     ·intro kJ a H
      exact kP H (SR fun _ dR=>av dR O (LR results6 O fun H=>H.rt (jK (by rw [vZ];exact (vR hk2 (by rw [vY,Cc,vR hj2 (by rw [Cb];simpa using kJ)];simp)).symm))))
     intro kJ a H
     try have p55:=dF kJ
     refine kP H (Kc bX (SC (Rm O (Rd O (Ra O ?_)))));clear H bX;intro a H;refine aj ?_;refine bE ((j+1,_)) (by exact H.sub ⟨O,O,O,aI⟩) ?_
     (try dsimp only);exact ⟨V,AU hj2 hd2 (by rw [Cb];simpa using kJ),fun b o h=>GA b o (gH b o h),fun b o h=>GA b o (hgg b o h)⟩
    intro iQ a H
    try have p42:=dF iQ
    refine dJ ?_;refine K6 _ _ ?_;clear K6;refine kP H (SC (Rm O (Rd O (Ra O ?_))));clear H;intro a H;refine aj ?_;refine bE ((k+1,g2)) (by exact H.sub ⟨O,O,aI⟩) ?_
    (try dsimp only);exact ⟨V,AU hk2 hd (by rw [vY,Cc,htx,hfl,BQ V hd2];rfl),gH⟩
   intro eO a H
   try have mW:=dF eO
   refine kH H (aV eO O (aO eO O (aO eO O (Pf eO O (Rm O ?_)))));clear H;intro a H;(iterate 2 refine uG H (wg H O O O) O O ?_;clear H;intro a H);refine bD iB fB _ H (wg H O O O) O O O (by first|assumption|omega) rfl ?_;clear H;intro a H;refine Hy D6 H (wg H O O O) O O ?_;clear H;intro a H;refine iU lG H (wg H O O O) O (H.hp.aS (hrow 9 _ O)) O ?_;clear H;intro a H;refine s_call Ce H (wg H O O O) O (ih _ _ H.ro l[k].flow _ (hf.mono hgm) V) O ?_;clear H;rintro v32 BK a w rfl sQ H;refine Py H (wg H O O O) O O ?_;clear H;intro a H;refine kH H (Pf O O (Kz K8 (Cd O ?_ ?_))) <;> clear H K8
   ·intro kG a H
    exact kP H (SR fun _ fu=>av fu O (LR results6 O fun H=>H.rt (jK (by rw [vZ];exact (vR hk2 (by rw [vY,show ig l[k].flow=false by simpa using kG];simp)).symm))))
   intro kG a H
   try have p34:=dF kG
   have htx:(decide (¬ l[k].kind=1) || gq l[k].text)=true:=by
    first
    | (simp [mW];done)
    | (simp [show gq l[k].text=true by simpa using fV];done)
   have hfl:ig l[k].flow=true:=by simpa using kG
   have hrl:=E9 l[k].rows;refine kP H (Kc K7 (SR fun _ gF=>av gF O (SB ?_)));clear H K7 gF;intro a H;skip;refine dY (ι:=Nat × GH) (Tc:=[(0,_),(3,_)]) (Lc:=[]) (fun gh=>[(4,vi gh.1)]) (fun gh=>[]) (fun gh=>gh.2) (fun gh=>gh.1<=l[k].rows.length∧(l[k].rows.take gh.1).all Ca=true∧(∀ b o,G b=some o->gh.2 b=some o)∧(∀ b o,g b=some o->gh.2 b=some o)) (fun gh=>l[k].rows.length - gh.1) ((0,_)) (by exact H.sub ⟨O,O,O,aI⟩) ?_ ?_
   ·exact ⟨fC _,O,fun b o h=>sQ b o (hgm b o h),sQ⟩
   clear H;rintro ⟨j,g2⟩ a w hI H;dsimp only at hI H;obtain ⟨hj,hd2,gH,hgg⟩:=hI;dsimp only [lca,bW] at H;refine kP H (SQ fun _ fU=>SR fun _ jd=>Rm O (Rm O (Rm O (Ri iB fB O O (Rf uW O (Rg vH O (aK hgg (hrow 10 _ O)) (Rl mK O (Rc O (Kz jd (Cd O ?_ ?_)))))))))) <;> clear H jd
   ·intro iQ a H
    try have p42:=dT iQ
    have hj2:j < l[k].rows.length:=by omega
    obtain ⟨V9,rc',e',-,-,hrg⟩:=hr.slice;obtain ⟨FV,-,-⟩:=Value.slice.inj e';subst FV;obtain ⟨b2,o2,cs2,rfl,-,hrow2,yN⟩:=hrg j l[k].rows[j].dat (by simp [hj2]);obtain ⟨qA,qn,qc,uA,un,uc,zA,zn,zc,xA,xn,xc,rfl,Cq,hfc⟩:=yN.row;replace hrow2:=fun j u hj=>aK gH (hrow2 j u hj);have he2:=wP l[k].rows[j];have hm2:=Dn (dV hj2);refine kP H (Kc fU (SQ fun _ jf=>SB (SR fun _ iF=>Rm O (Rm O (Ri iB fB O O (Rf uW O (Rg vH O (aK hgg (hrow 10 _ O)) (Rm O (Ri mK jo O O (Rf uX O (Rg vI O (hrow2 5 _ O) ?_)))))))))));clear H fU;intro a H;refine s_call Tg H wn O (VJ ih _ _ H.ro l[k].rows[j].cells _ (hfc.mono gH) V) O ?_;clear H;rintro v54 QM a w rfl GA H;refine kH H (Rn O (Kz iF (Cd O ?_ ?_))) <;> clear H iF
    ·intro kJ a H
     exact kP H (SR fun _ jM=>av jM O (LR results6 O fun H=>H.rt (jK (by rw [vZ];exact (vR hk2 (by rw [vY,Cc,vR hj2 (by rw [Cb];simpa using kJ)];simp)).symm))))
    intro kJ a H
    try have p55:=dF kJ
    refine kP H (Kc jf (SC (Rm O (Rd O (Ra O ?_)))));clear H jf;intro a H;refine aj ?_;refine bE ((j+1,_)) (by exact H.sub ⟨O,O,O,aI⟩) ?_
    (try dsimp only);exact ⟨V,AU hj2 hd2 (by rw [Cb];simpa using kJ),fun b o h=>GA b o (gH b o h),fun b o h=>GA b o (hgg b o h)⟩
   intro iQ a H
   try have p42:=dF iQ
   refine dJ ?_;refine K6 _ _ ?_;clear K6;refine kP H (SC (Rm O (Rd O (Ra O ?_))));clear H;intro a H;refine aj ?_;refine bE ((k+1,g2)) (by exact H.sub ⟨O,O,aI⟩) ?_
   (try dsimp only);exact ⟨V,AU hk2 hd (by rw [vY,Cc,htx,hfl,BQ V hd2];rfl),gH⟩
  intro h8 a H
  try have p8:=dF h8
  refine dJ ?_;refine K2 _ _ ?_;clear K2;exact kP H (SR fun _ iI=>av iI O (LR results6 O fun H=>H.rt (jK (by rw [vZ];exact (BQ V hd).symm))))
theorem J9 (G:GH) (w0:World) (hG:Hold G w0) (l:List aD) (v:ak) (hv:aF G (.sl 11 (l.map aD.dat)) v) (hz:cK l<=1073741823) :
  Calls prog 6 #[v] w0 (bQ w0 G fun u G'=>u=.bool (ig l)):=VE 1073741824 (bS _) G w0 hG l v hv V
theorem M0:bL 49:=bN func49 O
def kU (l:List dO):List UInt8:=l.flatMap fun c=>mJ c.flow++[10]
abbrev kM (l:List UInt8):ByteArray:=⟨l.toArray⟩
theorem Wu {l:List dO} {k:Nat} (hk:k < l.length):kU (l.take (k+1))=kU (l.take k)++(mJ l[k].flow++[10]):=by
 rw [jq hk];simp only [kU,List.flatMap_append,List.flatMap_cons,List.flatMap_nil,lU]
theorem Km:∀ l:List dO,(kU l).length<=lZ l
 | []=>bS _
 | x :: l=>by
  have:=Km l;have h2:=KU x.flow;have h3:=zk x
  simp only [kU,List.flatMap_cons,fQ,List.length_singleton,lZ,gV,fM] at *;omega
theorem Ko {l:List dO} {k:Nat}:(kU (l.take k)).length<=(kU l).length:=by
 have h:kU l=kU (l.take k)++kU (l.drop k):=by
  simp only [kU];rw [<- List.flatMap_append,List.take_append_drop]
 rw [h,fQ];omega
theorem xg (l:List UInt8):(kM l).size=l.length:=by simp [kM,ByteArray.size]
theorem AX (a b:List UInt8):kM (a++b)=kM a++kM b:=by apply ByteArray.ext;simp [kM]
theorem afJ:gq (kM [10])=true:=(Ki (s:=⟨#[10]⟩) (c:=10) (n:=1) O Y Y Y (fun j h3 h4=>by omega)).1
theorem Wt:∀ {l:List dO},yK l=true->gq (kM (kU l))=true
 | [],_=>MS.1
 | x :: l,h=>by
  rw [yK,FT,iG] at h;have h1:=(Ql (MR h.1)).1;have h2:=Wt h.2
  have e:kU (x :: l)=(mJ x.flow++[10])++kU l:=by simp [kU]
  rw [e,AX,AX];exact EZ (EZ h1 afJ) h2
set_option maxHeartbeats 1000000 in
theorem Zx (G:GH) (w0:World) (hG:Hold G w0) (x:dQ) (cs:List ak) (hv:aY G x.dat cs) (hz:iy x.dat<=1073741824) :
  Calls prog 32 #[.agg cs.toArray] w0 (bQ w0 G fun u G'=>u=.string (kM (kU x.cells))):=by
 have he:=wP x;have hrl:=Km x.cells;have hcl:=La x.cells;obtain ⟨pA,pn,pc,dA,dn,dc,yA,yn,yc,fA,fn,fc,rfl,hh,hf⟩:=hv.row;obtain ⟨A,c,efa,hc1,hc2,hg⟩:=hf.slice;obtain ⟨rfl,rfl,rfl⟩:=Value.slice.inj efa;rw [bJ] at *;refine eN [(0,_)] func32 O ntmps32 O O hG ?_;intro a H;refine gU (fun _ K1=>?_);refine jQ (cs:=[_,_,_,_,_,_]) H wn O O O ?_;clear H;intro b1 a w hb1 H;refine kH H (av K1 O (SR fun _ K2=>?_));clear H K1;intro a H;refine gX XI H wn O ?_;clear H;intro b3 a w hb3 H;refine K2 _ _ ?_;clear K2;refine kP H (SQ fun _ K3=>SR fun _ K4=>fG uX vI 1 O O (Rl qx O (Rm O (Kz K4 (SB ?_)))));clear H K4;intro a H;skip;refine dY (ι:=Nat × ak × ak × OL × GH) (Tc:=[(3,_),(7,_),(8,_)]) (Lc:=[(_,_)]) (fun gh=>[(9,vi gh.1)]) (fun gh=>[bB b3 gh.2.1 gh.2.2.1]++gh.2.2.2.1) (fun gh=>gh.2.2.2.2) (fun gh=>gh.1<=x.cells.length∧(gh.2.1=.pointer none∨gh.2.1=(aJ b3 0))∧aW 5 1 gh.2.2.1 (kU (x.cells.take gh.1)).length (Lib.byteCells (kU (x.cells.take gh.1))) gh.2.2.2.1∧(kU (x.cells.take gh.1)=[]->gh.2.2.1=.slice none 0 0)∧(∀ b o,G b=some o->gh.2.2.2.2 b=some o)) (fun gh=>x.cells.length - gh.1) ((0,.pointer none,.slice none 0 0,[],G)) (by exact (H.dz (Pl:=[_,_]) (bZ:=[_,_]) [1,0] Y O).sub ⟨O,O,O,O,aI⟩) ?_ ?_
 ·exact ⟨V,.inl O,aW.nil,fun _=>rfl,fun _ _ h=>h⟩
 clear H;rintro ⟨k,p,v,Lo,g⟩ a w hI H;dsimp only at hI H;obtain ⟨hk,hp,hrw,hnl,hgm⟩:=hI;dsimp only [lca,bW] at H;refine kP H (SR fun _ K5=>Rc O (Kz K5 (SQ fun _ K6=>Cd O ?_ ?_))) <;> clear H K5
 ·intro h10 a H
  try have mG:=dT h10
  have hk2:k < x.cells.length:=by omega
  obtain ⟨b,o,cs,rfl,zP,hrow,hrep⟩:=hg k x.cells[k].dat (by simp [hk2]);obtain ⟨qA,qn,qc,uA,un,uc,zA,zn,zc,xA,xn,xc,rfl,Cq,hfc⟩:=hrep.cell;replace hrow:=fun j u hj=>aK hgm (hrow j u hj);have hpz:=Ko (l:=x.cells) (k:=k);have Oj:=Ko (l:=x.cells) (k:=k+1);have hbs:=Wu hk2;have hbz:=gZ List.length hbs;rw [fQ,fQ] at hbz;have hce:=zk x.cells[k];have hcm:=E8 (dV hk2)
  have hts:(kM (mJ x.cells[k].flow++[10])).size=(mJ x.cells[k].flow).length+1:=by rw [xg];simp
  refine kP H (Kc K6 (SQ fun _ K7=>SB (SR fun _ K8=>Ri qx mY O O ?_)));clear H K6;intro a H;refine bV mY (cs:=[_,_,_,_,_,_,_]) H wn O O (fun j v hj=>H.hp.aS (hrow j v hj)) O ?_;clear H;intro a H;refine gX mY H wn O ?_;clear H;intro b5 a w hb5 H;refine bg mY 0 (vs:=[_,_,_,_,_,_,_]) H wn O ?_;clear H;intro w H;refine K8 _ _ ?_;clear K8;refine kP H (SC (fG D7 lG 0 O O ?_));clear H;intro a H;refine s_call M0 H wn O (Pm _ _ H.ro x.cells[k].flow _ (hfc.mono hgm) V) O ?_;clear H;rintro v15 Ar a w rfl sP H;refine ED H wn O O (by rw [xg];show _+1<=_;omega) rfl ?_;clear H;intro a H;rw [show kM (mJ x.cells[k].flow)++(⟨#[10]⟩:ByteArray)=kM (mJ x.cells[k].flow++[10]) from (AX _ [10]).symm] at H;refine jT MZ (Li:=[_,_]) (L:=bB b3 p v :: Lo) H wn O (aja _ _ _ b3 p v _ _ (kM (mJ x.cells[k].flow++[10])) hp (Hp.owns (Li:=[_,_]) H.hp) hrw (by rw [hts];omega)) rfl ?_;clear H;rintro v_ _ Q5 a w ⟨v17,Fy,rfl,GR,rfl⟩ mE H;refine kH H (Kn K7 (SC (Rd O (Rm O ?_))));clear H K7;intro a H;refine aj ?_;refine bE ((k+1,(aJ b3 0),v17,Fy,_)) (by exact (H.dz (Pl:=[_,_,_]) (bZ:=[_,_]) [1,2] Y O).sub ⟨O,O,O,O,aI⟩) ?_
  (try dsimp only);exact ⟨V,.inr O,by rw [hbs,ME];have h:=GR;rw [xg,<- fQ] at h;exact h,fun e=>by rw [hbs] at e;simp at e,fun b o h=>sP b o (hgm b o h)⟩
 intro h10 a H
 try have mG:=dF h10
 refine dJ ?_;refine K3 _ _ ?_;clear K3;refine gy (fun _ K9=>?_);rw [show x.cells.take k=x.cells from gG V] at hrw hnl;refine rP ?_;refine jT Tw (Li:=[_]) (L:=bB b3 p v :: Lo) H wn O (Xk _ _ _ b3 p v (kU x.cells) (Hp.owns (Li:=[_]) H.hp) hrw hnl) O ?_;clear H;rintro v19 oP YK a w rfl iT H;exact kH H (bO K9 O (LR results32 O fun H=>H.rt O))
def L8 (fv:ak) (w0:World) (G:GH) (d:List Dat) (k:Int) (s:ByteArray):Prop:=∀ (G1:GH) (w1:World) (cs:List ak),(∀ b o,G b=some o->G1 b=some o)->Hold G1 w1->aY G1 d cs ->
 uK prog fv [.agg cs.toArray] w1 (bQ w1 G1 fun u G'=>u=.tuple #[vi k,.string s])
set_option maxHeartbeats 1000000 in
theorem afu (G:GH) (w0:World) (hG:Hold G w0) (l:List dO) (hA:ak) (v1 v2 v3 v4:ak) (v:ak) (hv:aF G (.sl 7 (l.map dO.dat)) v) (hz:lZ l<=1073741824) :
  Calls prog 34 #[.agg #[hA,v1,v2,v3,v4,v]] w0 (bQ w0 G fun u G'=>u=.string (kM (kU l))):=by
 have hrl:=Km l;have hcl:=La l;obtain ⟨A,c,rfl,hc1,hc2,hg⟩:=hv.slice;rw [bJ] at *;refine eN [(0,_)] func34 O ntmps34 O O hG ?_;intro a H;refine gU (fun _ K1=>?_);refine jQ (cs:=[_,_,_,_,_,_]) H wn O O O ?_;clear H;intro b1 a w hb1 H;refine kH H (av K1 O (SR fun _ K2=>av K2 O (SQ fun _ K3=>SR fun _ K4=>av K4 O (SB ?_))));clear H K1 K2 K4;intro a H;skip;refine dY (ι:=Nat × GH) (Tc:=[(1,_)]) (Lc:=[(_,_)]) (fun gh=>[(3,.string (kM (kU (l.take gh.1)))),(4,vi gh.1)]) (fun gh=>[]) (fun gh=>gh.2) (fun gh=>gh.1<=l.length∧(∀ b o,G b=some o->gh.2 b=some o)) (fun gh=>l.length - gh.1) ((0,G)) (by exact H.sub ⟨O,O,O,aI⟩) ?_ ?_
 ·exact ⟨V,fun _ _ h=>h⟩
 clear H;rintro ⟨k,g⟩ a w hI H;dsimp only at hI H;obtain ⟨hk,hgm⟩:=hI;dsimp only [lca,bW] at H;refine kP H (SQ fun _ K5=>SR fun _ K6=>Rm O (fG uX vI 0 O O (Rl qx O (Rc O (Kz K6 (Cd O ?_ ?_)))))) <;> clear H K6
 ·intro h9 a H
  try have p9:=dT h9
  have hk2:k < l.length:=by omega
  obtain ⟨b,o,cs,rfl,zP,hrow,hrep⟩:=hg k l[k].dat (by simp [hk2]);obtain ⟨qA,qn,qc,uA,un,uc,zA,zn,zc,xA,xn,xc,rfl,Cq,hfc⟩:=hrep.cell;replace hrow:=fun j u hj=>aK hgm (hrow j u hj);have hpz:=Ko (l:=l) (k:=k);have Oj:=Ko (l:=l) (k:=k+1);have hbs:=Wu hk2;have hbz:=gZ List.length hbs;rw [fQ,fQ,List.length_singleton] at hbz;have hce:=zk l[k];have hcm:=E8 (dV hk2);refine kP H (Kc K5 (SQ fun _ K7=>SB (SC (Rm O (fG uX vI 0 O O (Rm O (Ri qx mY O O (Rf D7 O (Rg lG O (hrow 6 _ O) ?_)))))))));clear H K5;intro a H;refine s_call M0 H wn O (Pm _ _ H.ro l[k].flow _ (hfc.mono hgm) V) O ?_;clear H;rintro v19 oP a w rfl iT H;refine ED H wn O O (by rw [xg,xg];omega) rfl ?_;clear H;intro a H;rw [<- AX] at H;refine ED H wn O O (by rw [xg,fQ];show _+1<=_;omega) rfl ?_;clear H;intro a H;rw [show kM (kU (l.take k)++mJ l[k].flow)++(⟨#[10]⟩:ByteArray)=kM (kU (l.take (k+1))) by rw [hbs,<- oU];exact (AX _ [10]).symm] at H;refine kH H (bO K7 O (SC (Rm O (Rd O (Ra O ?_)))));clear H K7;intro a H;refine aj ?_;refine bE ((k+1,_)) (by exact H.sub ⟨O,O,O,aI⟩) ?_
  (try dsimp only);exact ⟨V,fun b o h=>iT b o (hgm b o h)⟩
 intro h9 a H
 try have p9:=dF h9
 refine dJ ?_;refine K3 _ _ ?_;clear K3;exact kP H (SR fun _ K8=>Rm O (av K8 O (LR results34 O fun H=>H.rt (by rw [gG V]))))
theorem abx:bL 51:=bN func51 O
theorem P9:∀ {m l:List (List Dat)},m.Sublist l->fM m<=fM l
 | _,_,.slnil=>bS _
 | _,_,.cons a h=>by have:=P9 h;simp only [fM];omega
 | _,_,.cons_cons a h=>by have:=P9 h;simp only [fM];omega
theorem ajc (o:List aD) (y:aD):cK (addN o y)<=cK o+cK [y]:=by
 rcases Ma o y with e|e|⟨o,z,rfl,-,-,e⟩ <;> rw [e]
 ·omega
 ·rw [Ld];omega
 rw [Ld,Ld]
 cases z
 cases y
 rename_i z1 z2 z3 z4 z5 z6 z7 y1 y2 y3 y4 y5 y6 y7
 have h1:=oO (xQ (.mk z1 z2 z3 z4 z5 z6 z7) (.mk y1 y2 y3 y4 y5 y6 y7));have h2:=oO (.mk z1 z2 z3 z4 z5 z6 z7);have h3:=oO (.mk y1 y2 y3 y4 y5 y6 y7)
 simp only [xQ,aD.kind,aD.code,aD.id,aD.text,aD.head,aD.flow,aD.rows,ByteArray.size_append] at h1 h2 h3
 simp only [cK,gV,tY,fM,xQ,aD.kind,aD.code,aD.id,aD.text,aD.head,aD.flow,aD.rows] at *
 omega
theorem Lb:∀ m o:List aD,cK (m.foldl addN o)<=cK o+cK m
 | [],o=>Nat.le_add_right _ _
 | y :: m,o=>by
  have h1:=Lb m (addN o y);have h2:=ajc o y;have h3:=Ld [y] m;rw [List.foldl_cons];rw [List.singleton_append] at h3
  omega
mutual
theorem zgI:∀ x:aD,iy (gI x).dat<=iy x.dat
 | .mk k c i t h f r=>by
  have h1:=Lb (wh f) [];have h2:=Le f;have h3:=Yk r;have h4:=P9 (List.Sublist.map dQ.dat (List.filter_sublist (p:=Gl) (l:=zN r)));rw [gI,oO,oO]
  simp only [aD.text,aD.head,aD.flow,aD.rows,cK,kY,tY,fM] at *
  omega
theorem Le:∀ l:List aD,cK (wh l)<=cK l
 | []=>by rw [wh];exact bS _
 | x :: l=>by
  have h1:=zgI x;have h2:=Le l;rw [wh]
  simp only [cK,gV,fM] at *
  omega
theorem zgR:∀ x:dQ,iy (gR x).dat<=iy x.dat
 | .mk h c=>by
  have h1:=Yj c;rw [gR,wP,wP]
  simp only [dQ.head,dQ.cells]
  omega
theorem Yk:∀ l:List dQ,kY (zN l)<=kY l
 | []=>by rw [zN];exact bS _
 | x :: l=>by
  have h1:=zgR x;have h2:=Yk l;rw [zN]
  simp only [kY,gV,fM] at *
  omega
theorem zgC:∀ x:dO,iy (gC x).dat<=iy x.dat
 | .mk i h f=>by
  have h1:=Lb (wh f) [];have h2:=Le f;rw [gC,zk,zk]
  simp only [dO.head,dO.flow,cK,tY,fM] at *
  omega
theorem Yj:∀ l:List dO,lZ (Bb l)<=lZ l
 | []=>by rw [Bb];exact bS _
 | x :: l=>by
  have h1:=zgC x;have h2:=Yj l;rw [Bb]
  simp only [lZ,gV,fM] at *
  omega
end
theorem Yl (l:List aD):cK (pX l)<=cK l:=by
 have h1:=Lb (wh l) [];have h2:=Le l;rw [Jk] at h1 h2;rw [pX,qh,qE]
 simp only [cK,tY,fM] at *
 omega
abbrev BO (l:List aD):Prop:=∀ x∈l,x.kind=1->gq x.text=true
theorem aiG {o:List aD} {y:aD} (ho:BO o) (hy:y.kind=1->gq y.text=true):BO (addN o y):=by
 rcases Ma o y with e|e|⟨o,z,rfl,hz,hy1,e⟩ <;> rw [e]
 ·exact ho
 ·intro x hx
  rcases tV.1 hx with h|h
  ·exact ho x h
  rw [uP] at h;subst h;exact hy
 intro x hx
 rcases tV.1 hx with h|h
 ·exact ho x (List.mem_append_left _ h)
 rw [uP] at h;subst h;intro _;exact EZ (ho z (List.mem_append_right _ nN) hz) (hy hy1)
theorem XU:∀ {m o:List aD},BO o->BO m->BO (m.foldl addN o)
 | [],_,ho,_=>ho
 | y :: m,o,ho,hm=>by
  rw [List.foldl_cons];exact XU (o:=addN o y) (aiG ho (hm _ nN)) fun x hx=>hm x (tZ _ hx)
theorem aiK {l:List aD} (h:BO l):BO (pX l):=by
 rw [pX,qh,qE];refine XU (fun x hx=>by cases hx) fun x hx=>?_;obtain ⟨y,hy,rfl⟩:=List.mem_map.1 hx;rw [Nn];exact h y hy
theorem P6:∀ p q:List aD,gD (p++q)=gD p+gD q
 | [],q=>by rw [uN,gD,eH]
 | x :: p,q=>by rw [nU,gD,gD,P6 p q,Nat.add_assoc]
theorem OW:∀ (o:Nat) (p q:List aD),fE o (p++q)=fE o p++fE (o+gD p) q
 | _,[],q=>by rw [uN,fE,gD,qD];rfl
 | o,x :: p,q=>by rw [nU,fE,fE,OW (o+lH x) p q,gD,nU,Nat.add_assoc]
theorem Kh:∀ {l:List aD} {o:Nat} {a:Nat × aD},a∈fE o l->o<=a.1∧a.1+lH a.2<=o+gD l
 | [],_,_,h=>by cases h
 | x :: l,o,a,h=>by
  rw [fE] at h;rw [gD]
  rcases nT.1 h with rfl|h
  ·exact ⟨bS _,by dsimp only;omega⟩
  obtain ⟨h1,h2⟩:=Kh h;exact ⟨V,V⟩
theorem Vx (t:Int):∀ (l:List aD) (o:Nat),lA t (fE o l)++rA t (fE o l)=l
 | [],_=>rfl
 | x :: l,o=>by
  have ih:=Vx t l (o+lH x);rw [fE]
  cases h:xw t (o,x) with
  | true=>simp only [lA,rA,List.filter_cons,h,if_true,Bool.not_true,yD,if_false,gV,nU] at *;rw [ih]
  | false =>
   have h0:∀ a∈fE (o+lH x) l,xw t a=false:=fun a ha=>by
    have h1:=Kh ha
    have h2:¬ ((o:Int)+lH x<=t):=by simpa [xw] using h
    exact zy V
   have e1:lA t (fE (o+lH x) l)=[]:=by
    rw [lA,List.filter_eq_nil_iff.2 fun a ha=>by rw [h0 a ha];decide];rfl
   rw [e1,uN] at ih
   simp only [lA,rA,List.filter_cons,h,if_true,Bool.not_false,yD,if_false,gV] at *
   rw [e1,ih];rfl
theorem aau {fr tO:Int} {l:List aD} (h:zl fr l):zl fr (uE tO l):=by
 intro a ha;refine h a ?_;have e:=Vx tO l 0;rw [<- e,OW];exact List.mem_append_left _ ha
theorem aat (p q:List aD):zl (gD p:Nat) (p++q):=by
 intro a ha;rw [OW] at ha
 rcases tV.1 ha with h|h
 ·exact .inl (wZ (by have:=Kh h;omega))
 exact .inr (by have:=(Kh h).1;omega)
theorem KH (G:GH) (w0:World) (hG:Hold G w0) (l:List aD) (fr tO:Int) (v:ak) (hv:aF G (.sl 11 (l.map aD.dat)) v) (hz:cK l<=1073741824) (hr:Ah l fr tO=0)
  (h1:zl tO l) (h2:zl fr l) :
  Calls prog 72 #[v,vi fr,vi tO] w0 (bQ w0 G fun u G'=>∃ x,u=.tuple #[x,vi 0]∧aF G' (.sl 11 ((pX (yU fr (uE tO l))).map aD.dat)) x):=by
 have z1:=Dm (OJ tO l);have z2:=Dm (Pj fr (uE tO l));refine eN [(0,_),(1,_),(2,_)] func72 O ntmps72 O O hG ?_;intro a H;refine kP H (SR fun _ K1=>Ra O (av K1 O (SQ fun _ K2=>SR fun _ K3=>Rm O (Rm O (Rm O ?_)))));clear H K1;intro a H;refine s_call abW H wn O (ZW _ _ H.ro l fr tO v hv V) O ?_;clear H;rintro v16 BJ a w rfl Cu H;rw [hr] at H;refine kH H (av K3 O (SR fun _ K4=>Rm O (Rc O (Kz K4 (Cd O ?_ ?_))))) <;> clear H K3 K4
 ·intro h18 a H
  exact absurd h18 Y
 intro h18 a H
 try have nY:=dF h18
 refine kP H (Kc K2 (SR fun _ K5=>Rm O (Rm O ?_)));clear H K2;intro a H;refine s_call TD H wn O (SV _ _ H.ro l tO v (hv.mono Cu) hz h1) O ?_;clear H;rintro v23 Yw a w ⟨x,y,rfl,hx,hy⟩ Cw H;refine kH H (Rm O ?_);clear H;intro a H;(iterate 2 refine eZ H wn O O O ?_;clear H;intro a H);refine kH H (Ra O (av K5 O (SR fun _ K6=>Rm O (Rm O ?_))));clear H K5;intro a H;refine s_call TD H wn O (SV _ _ H.ro (uE tO l) fr x hx V (aau h2)) O ?_;clear H;rintro v29 G29 a w ⟨x2,y2,rfl,hx2,hy2⟩ ajS H;refine kH H (Rm O ?_);clear H;intro a H;(iterate 2 refine eZ H wn O O O ?_;clear H;intro a H);refine kH H (Ra O (av K6 O (SR fun _ K7=>Rm O ?_)));clear H K6;intro a H;refine s_call Nc H wn O (afN _ _ H.ro _ y2 hy2 V) O ?_;clear H;rintro v33 G33 a w UL ajU H;obtain ⟨A33,n33,c33,rfl⟩:=UL.form;refine kH H (Ra O (av K7 O ?_));clear H K7;intro a H;refine aU ?_;refine (bK H results72 (.cons (aG H O) (.cons (aG H O) .nil)) ?_).1;exact H.rt ⟨_,O,UL⟩
def Lj (l:List aD) (b:jD):Prop:=(zl b.from_ l∧zl (oZ b) l∧zl b.dx l)∧0<=b.from_∧b.from_<=oZ b∧oZ b<=b.dx∧b.dx<=qd l∧b.from_ < b.dx
theorem Kl {l:List aD} {fr tO:Int} (he:jW l=0) (h0:0<=fr) (h1:fr<=tO) (h2:tO<=qd l):Ah l fr tO=0:=by rw [Ah,aN he,aZ]
def Ia (l:List aD) (b:jD):List UInt8:=mJ (pX (yU b.from_ (uE (oZ b) l)))
theorem afh (l:List aD):qd l<=cK l:=by
 have h1:=KL l;have h2:=ES l
 unfold qd;split <;> omega
theorem Zp {A:List jD} {b:jD} (h:b∈A):(A.findIdx? fun x=>decide (b=x)).isSome=true:=by
 cases e:A.findIdx? fun x=>decide (b=x) with
 | some i=>rfl
 | none=>exact absurd (List.findIdx?_eq_none_iff.1 e b h) (by simp)
theorem afY (G:GH) (w0:World) (hG:Hold G w0) (l:List aD) (b:jD) (v:ak) (hv:aF G (.sl 11 (l.map aD.dat)) v) (hz:cK l<=1073741824) (he:jW l=0) (hb:b∈lq l) (hin:Lj l b) :
  Calls prog 51 #[v,DJ b] w0 (bQ w0 G fun u G'=>∃ x y,u=.tuple #[x,y,vi 0]∧aF G' (.sl 11 ((pX (yU b.from_ (uE (oZ b) l))).map aD.dat)) x):=by
 obtain ⟨⟨c1,c2,c3⟩,k1,k2,k3,k4,-⟩:=hin;have hlz:=afh l;refine eN [(0,_),(1,_)] func51 O ntmps51 O O hG ?_;intro a H;refine gU (fun _ K1=>?_);refine jQ (cs:=[_,_,_,_]) H wn O O O ?_;clear H;intro b3 a w hb3 H;refine kH H (Ra O (Ra O (av K1 O (SR fun _ K2=>Rm O ?_))));clear H K1;intro a H;refine s_call MW H wn O (Lm _ _ H.ro l v hv hz) O ?_;clear H;rintro v11 BI a w ⟨x,rfl,hrep⟩ sO H;obtain ⟨QD,n11,c11,rfl⟩:=hrep.form;refine kH H (Rm O ?_);clear H;intro a H;(iterate 2 refine eZ H wn O O O ?_;clear H;intro a H);refine kH H (Ra O (av K2 O (SQ fun _ K3=>SR fun _ K4=>Rm O (Rc O (Kz K4 (Cd O ?_ ?_)))))) <;> clear H K2 K4
 ·intro lC a H
  try have oK:=dT lC
  exact absurd he oK
 intro lC a H
 try have oK:=dF lC
 refine kP H (Kc K3 (SQ fun _ K5=>SR fun _ K6=>Rm O ?_));clear H K3;intro a H;refine bV lY (cs:=[_,_,_,_]) H wn O O (H.hp.bR 0 O O) O ?_;clear H;intro a H;refine s_call abN H wn O (aal _ _ H.ro (lq l) b _ hrep) O ?_;clear H;rintro v19 oP a w rfl iT H;rw [Zp hb] at H;refine kH H (Rn O (Kz K6 (Cd O ?_ ?_))) <;> clear H K6
 ·intro h20 a H
  exact absurd h20 (by simp)
 intro h20 a H
 try have vG:=dF h20
 refine kP H (Kc K5 (SR fun _ K7=>fG Nh aC 0 O O (av K7 O (SQ fun _ K8=>SR fun _ K9=>fG acS kW 0 O O (Kz K9 (Cd O ?_ ?_)))))) <;> clear H K5 K7 K9
 ·intro aQ a H
  try have gP:=dT aQ
  have hend:b.dx - 1=oZ b:=by rw [oZ,aN aQ]
  refine kP H (SC (Rm O (Rs O ?_)));clear H;intro a H;rw [hend] at H;refine kH H (bO K8 O (SR fun _ aP=>Rm O (fG Jj aC 0 O O (Rm O ?_))));clear H K8;intro a H;refine s_call Jb H wn O (KH _ _ H.ro l b.from_ _ v (hv.mono fun b o h=>iT b o (sO b o h)) hz (Kl he k1 V V) (by first|exact c2|(rw [hend];exact c2)) c1) O ?_;clear H;rintro v32 BK a w ⟨x32,rfl,hx32⟩ sQ H;obtain ⟨Yq,n32,c32,rfl⟩:=hx32.form;refine kH H (Rm O ?_);clear H;intro a H;(iterate 2 refine eZ H wn O O O ?_;clear H;intro a H);refine kH H (av aP O (SR fun _ aT=>Rm O (Rm O (fG Nh aC 0 O O ?_))));clear H aP;intro a H;refine s_call Jb H wn O (KH _ _ H.ro l _ b.dx v (hv.mono fun b o h=>sQ b o (iT b o (sO b o h))) hz (Kl he V V V) c3 (by first|exact c2|(rw [hend];exact c2))) O ?_;clear H;rintro v40 LD a w ⟨x40,rfl,xO⟩ sS H;obtain ⟨Yr,n40,c40,rfl⟩:=xO.form;refine kH H (Rm O ?_);clear H;intro a H;(iterate 2 refine eZ H wn O O O ?_;clear H;intro a H);refine kH H (av aT O (SR fun _ bH=>Rm O (Rm O (Ra O (Ra O (av bH O ?_))))));clear H aT bH;intro a H;refine aU ?_;refine (bK H results51 (.cons (aG H O) (.cons (aG H O) (.cons (aG H O) .nil))) ?_).1;exact H.rt ⟨_,_,O,by first|exact hx32.mono sS|(rw [<- hend];exact hx32.mono sS)⟩
 intro aQ a H
 try have gP:=dF aQ
 have hend:b.dx=oZ b:=by rw [oZ,aL (by rw [aQ];decide)]
 refine kP H (Kc K8 (SR fun _ bG=>Rm O (fG Jj aC 0 O O (Rm O ?_))));clear H K8;intro a H;refine s_call Jb H wn O (KH _ _ H.ro l b.from_ _ v (hv.mono fun b o h=>iT b o (sO b o h)) hz (Kl he k1 V V) (by first|exact c2|(rw [hend];exact c2)) c1) O ?_;clear H;rintro v32 BK a w ⟨x32,rfl,hx32⟩ sQ H;obtain ⟨Yq,n32,c32,rfl⟩:=hx32.form;refine kH H (Rm O ?_);clear H;intro a H;(iterate 2 refine eZ H wn O O O ?_;clear H;intro a H);refine kH H (av bG O (SR fun _ bX=>Rm O (Rm O (fG Nh aC 0 O O ?_))));clear H bG;intro a H;refine s_call Jb H wn O (KH _ _ H.ro l _ b.dx v (hv.mono fun b o h=>sQ b o (iT b o (sO b o h))) hz (Kl he V V V) c3 (by first|exact c2|(rw [hend];exact c2))) O ?_;clear H;rintro v40 LD a w ⟨x40,rfl,xO⟩ sS H;obtain ⟨Yr,n40,c40,rfl⟩:=xO.form;refine kH H (Rm O ?_);clear H;intro a H;(iterate 2 refine eZ H wn O O O ?_;clear H;intro a H);refine kH H (av bX O (SR fun _ dG=>Rm O (Rm O (Ra O (Ra O (av dG O ?_))))));clear H bX dG;intro a H;refine aU ?_;refine (bK H results51 (.cons (aG H O) (.cons (aG H O) (.cons (aG H O) .nil))) ?_).1;exact H.rt ⟨_,_,O,by first|exact hx32.mono sS|(rw [<- hend];exact hx32.mono sS)⟩
theorem V6 (G:GH) (w0:World) (hG:Hold G w0) (l:List aD) (b:jD) (v:ak) (hv:aF G (.sl 11 (l.map aD.dat)) v) (hz:cK l<=1073741824) (he:jW l=0) (hb:b∈lq l) (hin:Lj l b) :
  Calls prog 33 #[v,DJ b] w0 (bQ w0 G fun u G'=>u=.tuple #[.string (kM (Ia l b)),vi 0]):=by
 have z1:=Dm (OJ (oZ b) l);have z2:=Dm (Pj b.from_ (uE (oZ b) l));have z3:=Yl (yU b.from_ (uE (oZ b) l));refine eN [(0,_),(1,_)] func33 O ntmps33 O O hG ?_;intro a H;refine gU (fun _ K1=>?_);refine jQ (cs:=[_,_,_,_]) H wn O O O ?_;clear H;intro b3 a w hb3 H;refine kH H (Ra O (av K1 O (SR fun _ K2=>Rm O ?_)));clear H K1;intro a H;refine bV lY (cs:=[_,_,_,_]) H wn O O (H.hp.bR 0 O O) O ?_;clear H;intro a H;refine s_call abx H wn O (afY _ _ H.ro l b v hv hz he hb hin) O ?_;clear H;rintro v12 LB a w ⟨x,y,rfl,hx⟩ JJ H;refine kH H (Rm O ?_);clear H;intro a H;(iterate 3 refine eZ H wn O O O ?_;clear H;intro a H);refine kH H (Ra O (Ra O (av K2 O (SR fun _ K3=>Rm O ?_))));clear H K2;intro a H;refine s_call M0 H wn O (Pm _ _ H.ro _ x hx V) O ?_;clear H;rintro v17 vM a w rfl mE H;refine kH H (Rm O (Ra O (av K3 O ?_)));clear H K3;intro a H;refine aU ?_;refine (bK H results33 (.cons (aG H O) (.cons (aG H O) .nil)) ?_).1;exact H.rt O
section
section
variable {N:Nat} {D:List Deferred} {w0:World} {F:Nat->Prop} {G0 G:GH} {L:OL} {T T':List (Nat × ak)}
variable {r:Option Nat} {P:Program} {Q:Exit->Act->World->Prop} {l:List Oper} {a a':Act} {w w':World} {ε:Type}
def uM (l:List Oper) (pr:ε->Nat->ak->Prop) (T:List (Nat × ak)) (S:Nat->Bool) (E:ε) (T':List (Nat × ak)):Prop :=
 (∀ t v,lk T t=some v->lk T' t=some v)∧∀ i d,S i=true->eT l i=some d->∃ v,lk T' d=some v∧pr E i v
theorem uM.put {pr:ε->Nat->ak->Prop} {S:Nat->Bool} {E E':ε} {i d:Nat} {v:ak} (h:uM l pr T S E T') (hok:MQ l T=true) (hi:eT l i=some d) (hv:pr E' i v) (hE:∀ j u,j≠i->pr E j u->pr E' j u):uM l pr T (fq S i) E' ((d,v) :: T'):=by
 have hil:=AZ hi
 have hok1:=gW.1 hok i (rF.2 hil)
 rw [nk,hi] at hok1
 simp only [iG,Option.isNone_iff_eq_none,gW,rF] at hok1
 refine ⟨fun t u ht=>?_,fun j e hj he=>?_⟩
 ·rw [fJ (fun e=>by subst e;rw [hok1.1] at ht;cases ht)];exact h.1 t u ht
 ·by_cases hji:j=i
  ·subst hji;rw [hi] at he;cases he;exact ⟨v,jX _ _ _,hv⟩
  ·have hSj:S j=true:=by unfold fq at hj;rwa [aL hji] at hj
   obtain ⟨u,hu1,hu2⟩:=h.2 j e hSj he
   have hne:d≠e:=by
    intro e';subst e'
    have h2:=hok1.2 j (AZ he)
    have hb:Nat.beq i j=false:=BS (fun h=>hji h.symm)
    rw [hb,he] at h2
    simp at h2
   exact ⟨u,by rw [fJ hne];exact hu1,hE j u hji hu2⟩
theorem uM.unit {pr:ε->Nat->ak->Prop} {S:Nat->Bool} {E:ε} {i:Nat} (h:uM l pr T S E T') (hi:eT l i=none):uM l pr T (fq S i) E T' :=
 ⟨h.1,fun j e hj he=>h.2 j e (by
  unfold fq at hj
  by_cases hji:j=i
  ·subst hji;rw [hi] at he;cases he
  ·rwa [aL hji] at hj) he⟩
theorem ZA {id:Nat} (hm:P.follows .mixedOrders=true) (bU:List (List Nat)) (hk:vW l bU=true) (pr:ε->Nat->ak->Prop) (Lf:(Nat->Bool)->ε->OL) (E0:ε) (H:St N D w0 F G0 G (Lf (fun _=>false) E0) T a w)
  (hstep:allI (fun i o=>∀ S E T' a w,S i=false->(∀ j∈bU.getD i [],S j=true)->(∀ j,j < l.length->i∈bU.getD j []->S j=false)->St N D w0 F G0 G (Lf S E) T' a w->uM l pr T S E T' ->
   WL r P l.toArray (fun e a' w'=>e=.normal∧∃ E' T'',St N D w0 F G0 G (Lf (fq S i) E') T'' a' w'∧uM l pr T (fq S i) E' T'') [o] a w) 0 l)
  (hend:∀ S E T' a w,(∀ i,i < l.length->S i=true)->St N D w0 F G0 G (Lf S E) T' a w->uM l pr T S E T'->Q .normal a w):WP r P (.region id l.toArray true) Q a w:=by
 refine FK hm bU hk (fun S a w=>∃ E T',St N D w0 F G0 G (Lf S E) T' a w∧uM l pr T S E T') ⟨E0,T,H.move H.hp.drew,fun _ _ h=>h,fun _ _ h=>by cases h⟩ ?_ ?_
 ·rintro i o S a w ho ⟨E,T',HS,hV⟩ ah mU hdesc
  have h:=zC hstep i o ho
  rw [eH] at h
  exact h S E T' a w ah mU hdesc HS hV
 ·rintro S a w hall ⟨E,T',HS,hV⟩
  exact hend S E T' a w hall HS hV
theorem uM.add {pr:ε->Nat->ak->Prop} {S:Nat->Bool} {E:ε} (h:uM l pr T S E T') {t:Nat} {u:ak} (hu:lk T' t=some u):uM l pr T S E ((t,u) :: T'):=by
 have e:∀ s v,lk T' s=some v->lk ((t,u) :: T') s=some v:=fun s v hs=>by
  by_cases hst:t=s
  ·subst hst;rw [hu] at hs;cases hs;exact jX _ _ _
  ·rw [fJ hst];exact hs
 exact ⟨fun s v hs=>e s v (h.1 s v hs),fun i d hi hd=>by
  obtain ⟨v,h1,h2⟩:=h.2 i d hi hd
  exact ⟨v,e d v h1,h2⟩⟩
theorem St.rE {a:Act} {w:World} (H:St N D w0 F G0 G L T a w) {t:Nat} {u:ak} (h:lk T t=some u):St N D w0 F G0 G L ((t,u) :: T) a w:=H.eP (H.get t u h)
end
end
section
section
variable {N:Nat} {D:List Deferred} {w0:World} {F:Nat->Prop} {G0 G G1 G2:GH} {L L1:OL} {T Xs:List (Nat × ak)}
variable {r:Option Nat} {P:Program} {Q:Exit->Act->World->Prop} {l:List Oper} {a a':Act} {w w':World}
theorem R8 {id:Nat} (hm:P.follows .mixedOrders=true) (bU:List (List Nat)) (B:List Nat) (hk:vW l bU=true) (hB:za l bU B=true) (X:(Nat->Bool)->Act->World->Prop) (h0:X (fun _=>false) a w.drew)
  (hstep:∀ i o S a w,l[i]?=some o->B.contains i=false->S i=false->(∀ j∈bU.getD i [],S j=true)->(∀ j,j < l.length->i∈bU.getD j []->S j=false)->X S a w->WL r P l.toArray (fun e a' w'=>e=.normal∧X (fq S i) a' w') [o] a w)
  (hend:∀ S a w,(∀ i,i < l.length->B.contains i=false->S i=true)->(∀ i,B.contains i=true->S i=false)->X S a w->WL r P l.toArray (fun e a w=>e=.normal∧Q .normal a w) (qg l B) a w):WP r P (.region id l.toArray true) Q a w:=by
 have hB1:∀ p b,B[p]?=some b->b < l.length∧∀ i,i < l.length->(B.contains i=false∨(B.take p).contains i=true)->i∈bU.getD b []:=by
  intro p b hp
  simp only [za,iG] at hB
  have h1:=gW.1 hB.1 p (rF.2 (gN.1 hp).1)
  rw [hp] at h1
  simp only [iG,gW,rF] at h1
  refine ⟨Eq.mp Nat.blt_eq h1.1,fun i hi hor=>?_⟩
  have h2:=h1.2 i hi
  rcases hor with h3|h3
  ·have h4:i∉B:=by simpa using h3
   simpa [h4] using h2
  ·have h4:i∈B.take p:=by simpa using h3
   simpa [h4] using h2
 have hB2:∀ i,i < l.length->B.contains i=false->∀ j∈bU.getD i [],B.contains j=false:=by
  intro i hi hb j hj
  simp only [za,iG] at hB
  have h1:=gW.1 hB.2 i (rF.2 hi)
  rw [hb] at h1
  simp only [Bool.false_or,gW] at h1
  simpa using h1 j hj
 refine FK hm bU hk (fun S a w=>((∀ i,B.contains i=true->S i=false)∧X S a w) ∨
   ∃ p,(∀ i,i < l.length->B.contains i=false->S i=true)∧(∀ i,(B.take p).contains i=true->S i=true)∧(∀ q b,B[q]?=some b->p<=q->S b=false)∧WL r P l.toArray (fun e a w=>e=.normal∧Q .normal a w) (qg l (B.drop p)) a w)
  (.inl ⟨fun _ _=>rfl,h0⟩) ?_ ?_
 ·intro i o S a w ho hX ah mU hdesc
  have hil:i < l.length:=(gN.1 ho).1
  by_cases hbi:B.contains i=true
  ·-- an operation of the tail: all that stands ahead of it is done
   obtain ⟨p0,hp0⟩:=List.getElem?_of_mem (by simpa using hbi:i∈B)
   have hall:∀ j,j < l.length->B.contains j=false->S j=true:=fun j hj hb=>mU j ((hB1 p0 i hp0).2 j hj (.inl hb))
   have Oi:∃ p,(∀ i,(B.take p).contains i=true->S i=true)∧(∀ q b,B[q]?=some b->p<=q->S b=false)∧WL r P l.toArray (fun e a w=>e=.normal∧Q .normal a w) (qg l (B.drop p)) a w:=by
    rcases hX with ⟨h1,hD⟩|⟨p,_,h2,h3,h4⟩
    ·exact ⟨0,by simp,fun q b hq _=>h1 b (by simpa using kg hq),hend S a w hall h1 hD⟩
    ·exact ⟨p,h2,h3,h4⟩
   obtain ⟨p,h2,h3,h4⟩:=Oi
   -- i is the next one
   have hpp:p<=p0:=by
    rcases Nat.lt_or_ge p0 p with hlt|hge
    ·have:(B.take p).contains i=true:=by
      simp only [uO]
      exact kg (i:=p0) (by rw [tX,aN hlt];exact hp0)
     rw [h2 i this] at ah;cases ah
    ·exact hge
   have CF:p < B.length:=by have:=(gN.1 hp0).1;omega
   have hbp:B[p]?=some B[p]:=iR CF
   have heq:B[p]=i:=by
    rcases Nat.lt_or_ge p p0 with hlt|hge
    ·exfalso
     have hin:B[p]∈bU.getD i []:=(hB1 p0 i hp0).2 _ (hB1 p _ hbp).1 (.inr (by
      simp only [uO]
      exact kg (i:=p) (by rw [tX,aN hlt];exact hbp)))
     have:=mU _ hin
     rw [h3 p _ hbp (bS _)] at this;cases this
    ·have:p=p0:=by omega
     subst this
     rw [hbp] at hp0;simpa using hp0
   have hdrop:B.drop p=i :: B.drop (p+1):=by rw [List.drop_eq_getElem_cons CF,heq]
   have hops:qg l (B.drop p)=o :: qg l (B.drop (p+1)):=by rw [hdrop];simp [qg,ho]
   rw [hops] at h4
   refine Yd (fun a' w' h5=>.inr ⟨p+1,fun j hj hb=>?_,fun j hj=>?_,fun q b hq hpq=>?_,h5⟩) h4
   ·unfold fq;split
    ·rfl
    ·exact hall j hj hb
   ·unfold fq;split
    ·rfl
    ·rename_i hne
     refine h2 j ?_
     simp only [uO] at hj |-
     rw [jq CF,tV] at hj
     rcases hj with hj|hj
     ·exact hj
     ·simp only [uP] at hj;exact absurd (hj.trans heq) hne
   ·unfold fq
    rw [aL ?_]
    ·exact h3 q b hq V
    ·rintro rfl
     -- i would stand twice in B: it would come ahead of itself
     have h6:=(hB1 q b hq).2 b (hB1 q b hq).1 (.inr (by
      simp only [uO]
      exact kg (i:=p) (by rw [tX,aN V];rw [hbp,heq])))
     rw [mU _ h6] at ah;cases ah
  ·have xH:B.contains i=false:=by cases h:B.contains i with|false=>rfl|true=>exact absurd h hbi
   rcases hX with ⟨h1,hX⟩|⟨p,h0,_,_,_⟩
   ·refine rZ (fun e a' w' ⟨he,hD⟩=>⟨he,.inl ⟨fun j hj=>?_,hD⟩⟩) (hstep i o S a w ho xH ah mU hdesc hX)
    unfold fq
    rw [aL (by rintro rfl;rw [xH] at hj;cases hj)]
    exact h1 j hj
   ·rw [h0 i hil xH] at ah;cases ah
 ·intro S a w hall hX
  rcases hX with ⟨h1,hD⟩|⟨p,_,_,h3,h4⟩
  ·have hnil:B=[]:=by
    cases B with
    | nil=>rfl
    | cons b B=>have h5:=h1 b (by simp);rw [hall b (hB1 0 b O).1] at h5;cases h5
   subst hnil
   exact (hend S a w (fun j hj _=>hall j hj) h1 hD).2
  ·have hnil:B.drop p=[]:=by
    cases hd:B.drop p with
    | nil=>rfl
    | cons b B' =>
     have hb:B[p]?=some b:=by
      have:=gZ (fun x:List Nat=>x[0]?) hd
      simpa using this
     have h5:=h3 p b hb (bS _)
     rw [hall b (hB1 p b hb).1] at h5;cases h5
   rw [hnil] at h4
   exact h4.2
theorem ZB {id:Nat} (hm:P.follows .mixedOrders=true) (bU:List (List Nat)) (B:List Nat) (hk:vW l bU=true) (hB:za l bU B=true) (m:Nat) (Oa:B.contains m=false) (ob:Obj) (pr:Nat->Nat->ak->GH->Prop)
  (aes:∀ b b' i v G,i≠m->pr b i v G->pr b' i v G) (H:St N D w0 F G0 G L T a w)
  (hstep:allI (fun i o=>∀ b L' S a w G1,B.contains i=false->Nat.beq i m=false->S i=false->(∀ j∈bU.getD i [],S j=true)->(∀ k o,G k=some o->G1 k=some o)->St N D w0 F G0 G1 L' T a w->(∀ i d,S i=true->eT l i=some d->∃ v,a.tmps[d]?=some v∧pr b i v G1) ->
   WL r P l.toArray (fun e a' w'=>e=.normal∧DX N D w0 F G0 G L' T l (pr b) (fq S i) a' w') [o] a w) 0 l)
  (hmid:∀ o S a w G1,l[m]?=some o->S m=false->(∀ j∈bU.getD m [],S j=true)->(∀ k o,G k=some o->G1 k=some o)->St N D w0 F G0 G1 L T a w->(∀ b i d,i≠m->S i=true->eT l i=some d->∃ v,a.tmps[d]?=some v∧pr b i v G1) ->
   WL r P l.toArray (fun e a' w'=>e=.normal∧∃ b,DX N D w0 F G0 G ((b,ob) :: L) T l (pr b) (fq S m) a' w') [o] a w)
  (hend:∀ b a w G1,(∀ k o,G k=some o->G1 k=some o)->St N D w0 F G0 G1 ((b,ob) :: L) T a w->(∀ i d,B.contains i=false->eT l i=some d->∃ v,a.tmps[d]?=some v∧pr b i v G1)->WL r P l.toArray (fun e a w=>e=.normal∧Q .normal a w) (qg l B) a w)
  (hml:Nat.blt m l.length=true):WP r P (.region id l.toArray true) Q a w:=by
 refine R8 hm bU B hk hB (fun S a w=>∃ b L',(S m=false->L'=L)∧(S m=true->L'=(b,ob) :: L)∧DX N D w0 F G0 G L' T l (pr b) S a w)
  ⟨0,L,fun _=>rfl,fun h=>absurd (show false=true from h) Y,G,fun _ _ h=>h,H.move H.hp.drew,fun _ _ h=>absurd (show false=true from h) Y⟩ ?_ ?_
 ·rintro i o S a w ho hb ah mU hdesc ⟨b,L',h1,h2,G1,hG,HS,hv⟩
  by_cases him:i=m
  ·subst him
   have e:=h1 ah;subst e
   have h:=hmid o S a w G1 ho ah mU hG HS fun b' j d hj hSj hd=>by
    obtain ⟨v,hv1,hv2⟩:=hv j d hSj hd
    exact ⟨v,hv1,aes b b' j v _ hj hv2⟩
   have e1:fq S i i=true:=aN O
   exact rZ (fun e a' w' ⟨he,b',hD⟩=>⟨he,b',_,fun h=>absurd (e1.symm.trans h) Y,fun _=>rfl,hD⟩) h
  ·have h:=zC hstep i o ho
   rw [eH] at h
   have e:fq S i m=S m:=aL (fun h=>him h.symm)
   exact rZ (fun e' a' w' ⟨he,hD⟩=>⟨he,b,L',fun h=>h1 (e ▸ h),fun h=>h2 (e ▸ h),hD⟩) (h b L' S a w G1 hb (BS him) ah mU hG HS hv)
 ·rintro S a w hall hnB ⟨b,L',h1,h2,G1,hG,HS,hv⟩
  have JN:S m=true:=hall m (Eq.mp Nat.blt_eq hml) Oa
  have e:=h2 JN;subst e
  exact hend b a w G1 hG HS fun j d hb hd=>hv j d (hall j (AZ hd) hb) hd
theorem aaE {pr:Nat->ak->GH->Prop} {S:Nat->Bool} {i d:Nat} {v:ak} (hok:nk l T i=true) (hi:eT l i=some d) 
  (HT:St N D w0 F G0 G1 L T a w) (Hb:St N D w0 F G0 G1 L (Xs++full N a) a w) (hG:∀ k o,G k=some o->G1 k=some o) (hv:∀ j d,j≠i->S j=true->eT l j=some d->∃ v,a.tmps[d]?=some v∧pr j v G1)
  (hp:pr i v G1) (H:St N D w0 F G0 G1 L1 ((d,v) :: (Xs++full N a)) a' w'):DX N D w0 F G0 G L1 T l pr (fq S i) a' w':=by
 have hil:i < l.length:=AZ hi
 have hok1:=hok
 rw [nk,hi] at hok1
 simp only [iG,Option.isNone_iff_eq_none,gW,rF] at hok1
 have hsame:∀ t,t≠d->a'.tmps[t]?=a.tmps[t]?:=by
  intro t ht
  by_cases hlt:t < N
  ·have h1:∃ u,lk (Xs++full N a) t=some u:=by
    rw [Bl]
    cases lk Xs t with
    | some u=>exact ⟨u,O⟩
    | none=>exact ⟨_,Ho a hlt⟩
   obtain ⟨u,hu⟩:=h1
   rw [Hb.get t u hu,H.get t u (by rw [fJ (Ne.symm ht)];exact hu)]
  ·rw [Array.getElem?_eq_none (by rw [H.jU];omega),Array.getElem?_eq_none (by rw [Hb.jU];omega)]
 refine ⟨G1,hG,⟨H.jU,fun t u ht=>?_,H.oz,H.hp⟩,fun j e hj he=>?_⟩
 ·rw [hsame t (fun e=>by rw [e,hok1.1] at ht;cases ht)]
  exact HT.get t u ht
 ·by_cases hji:j=i
  ·subst hji
   rw [hi] at he
   simp only [kZ] at he
   subst he
   exact ⟨v,H.get d v (jX _ _ _),hp⟩
  ·have hSj:S j=true:=by unfold fq at hj;rwa [aL hji] at hj
   obtain ⟨u,hu1,hu2⟩:=hv j e hji hSj he
   have hne:e≠d:=by
    intro e'
    subst e'
    have h2:=hok1.2 j (AZ he)
    rw [BS (fun h=>hji h.symm),he] at h2
    simp at h2
   exact ⟨u,by rw [hsame e hne];exact hu1,hu2⟩
end
end
section
section
variable {N:Nat} {D:List Deferred} {w0:World} {F:Nat->Prop} {G0 G G1 G2:GH} {L L1:OL} {T Xs:List (Nat × ak)}
variable {r:Option Nat} {P:Program} {Q:Exit->Act->World->Prop} {l:List Oper} {a a':Act} {w w':World}
end
end
section
section
variable {N:Nat} {D:List Deferred} {w0:World} {F:Nat->Prop} {G0 G G1 G2:GH} {L L1 L2:OL} {T Xs:List (Nat × ak)}
variable {r:Option Nat} {P:Program} {Q:Exit->Act->World->Prop} {l:List Oper} {a a':Act} {w w':World}
theorem MP {pr:Nat->ak->GH->Prop} {S:Nat->Bool} {i:Nat} (hi:eT l i=none) (HT:St N D w0 F G0 G1 L T a w) (hG:∀ k o,G k=some o->G1 k=some o) (hv:∀ i d,S i=true->eT l i=some d->∃ v,a.tmps[d]?=some v∧pr i v G1)
  (H:St N D w0 F G0 G1 L2 (Xs++full N a) a w'):DX N D w0 F G0 G L2 T l pr (fq S i) a w' :=
 ⟨G1,hG,HT.move H.hp,fun j e hj he=>hv j e (by
  unfold fq at hj
  by_cases hji:j=i
  ·subst hji;rw [hi] at he;cases he
  ·rwa [aL hji] at hj) he⟩
theorem MF {id:Nat} (hm:P.follows .mixedOrders=true) (bU:List (List Nat)) (B:List Nat) (hk:vW l bU=true) (hB:za l bU B=true) (m:Nat) (Oa:B.contains m=false) (pr:Nat->ak->GH->Prop) (ix:Nat) (ob:Nat × Obj)
  (H:St N D w0 F G0 G L T a w)
  (hstep:allI (fun i o=>∀ S a w G1,B.contains i=false->Nat.beq i m=false->S i=false->(∀ j∈bU.getD i [],S j=true)->(∀ k o,G k=some o->G1 k=some o)->St N D w0 F G0 G1 L T a w->(∀ i d,S i=true->eT l i=some d->∃ v,a.tmps[d]?=some v∧pr i v G1) ->
   WL r P l.toArray (fun e a' w'=>e=.normal∧DX N D w0 F G0 G L T l pr (fq S i) a' w') [o] a w) 0 l)
  (hmid:∀ o S a w G1,l[m]?=some o->S m=false->(∀ j∈bU.getD m [],S j=true)->(∀ k o,G k=some o->G1 k=some o)->St N D w0 F G0 G1 L T a w->(∀ i d,S i=true->eT l i=some d->∃ v,a.tmps[d]?=some v∧pr i v G1) ->
   WL r P l.toArray (fun e a' w'=>e=.normal∧DX N D w0 F G0 G (L.set ix ob) T l pr (fq S m) a' w') [o] a w)
  (hstep2:allI (fun i o=>∀ S a w G1,(B.contains i || (bU.getD m []).contains i)=false->Nat.beq i m=false->S i=false->(∀ j∈bU.getD i [],S j=true)->(∀ k o,G k=some o->G1 k=some o)->St N D w0 F G0 G1 (L.set ix ob) T a w->(∀ i d,S i=true->eT l i=some d->∃ v,a.tmps[d]?=some v∧pr i v G1) ->
   WL r P l.toArray (fun e a' w'=>e=.normal∧DX N D w0 F G0 G (L.set ix ob) T l pr (fq S i) a' w') [o] a w) 0 l)
  (hend:∀ a w G1,(∀ k o,G k=some o->G1 k=some o)->St N D w0 F G0 G1 (L.set ix ob) T a w->(∀ i d,B.contains i=false->eT l i=some d->∃ v,a.tmps[d]?=some v∧pr i v G1)->WL r P l.toArray (fun e a w=>e=.normal∧Q .normal a w) (qg l B) a w)
  (hml:Nat.blt m l.length=true):WP r P (.region id l.toArray true) Q a w:=by
 refine R8 hm bU B hk hB (fun S a w=>(S m=false∧DX N D w0 F G0 G L T l pr S a w)∨(S m=true∧DX N D w0 F G0 G (L.set ix ob) T l pr S a w))
  (.inl ⟨rfl,G,fun _ _ h=>h,H.move H.hp.drew,fun _ _ h=>absurd (show false=true from h) Y⟩) ?_ ?_
 ·rintro i o S a w ho hb ah mU hdesc hX
  by_cases him:i=m
  ·subst him
   rcases hX with ⟨_,G1,hG,HS,hv⟩|⟨h1,_⟩
   ·have h:=hmid o S a w G1 ho ah mU hG HS hv
    have e1:fq S i i=true:=aN O
    exact rZ (fun e a' w' ⟨he,hD⟩=>⟨he,.inr ⟨e1,hD⟩⟩) h
   ·rw [h1] at ah;cases ah
  ·have e:fq S i m=S m:=aL (fun h=>him h.symm)
   rcases hX with ⟨h1,G1,hG,HS,hv⟩|⟨h1,G1,hG,HS,hv⟩
   ·have h:=zC hstep i o ho
    rw [eH] at h
    exact rZ (fun e' a' w' ⟨he,hD⟩=>⟨he,.inl ⟨e.trans h1,hD⟩⟩) (h S a w G1 hb (BS him) ah mU hG HS hv)
   ·have h:=zC hstep2 i o ho
    rw [eH] at h
    have hnc:(B.contains i || (bU.getD m []).contains i)=false:=by
     rw [hb,Bool.false_or]
     cases hc2:(bU.getD m []).contains i with
     | false=>rfl
     | true=>have:=hdesc m (Eq.mp Nat.blt_eq hml) (uO.1 hc2);rw [h1] at this;cases this
    exact rZ (fun e' a' w' ⟨he,hD⟩=>⟨he,.inr ⟨e.trans h1,hD⟩⟩) (h S a w G1 hnc (BS him) ah mU hG HS hv)
 ·rintro S a w hall hnB hX
  have JN:S m=true:=hall m (Eq.mp Nat.blt_eq hml) Oa
  rcases hX with ⟨h1,_⟩|⟨h1,G1,hG,HS,hv⟩
  ·rw [h1] at JN;cases JN
  ·exact hend a w G1 hG HS fun j d hb hd=>hv j d (hall j (AZ hd) hb) hd
end
end
theorem uH:Ty prog 27 1 8 [.int .i64 0] false:=⟨Z,Z⟩
def Ae (t:Int) (a:Nat × aD):Bool:=decide (t < (a.1:Int)+(lH a.2:Int))
def oM (l:List aD) (t:Int):Int × Int × Int :=
 if jW l=0 then
  if t < 0∨qd l<=t then (0,0,2) else match (fE 0 l).findIdx? (Ae t) with|some i=>(i,t - (((fE 0 l)[i]?.map (·.1)).getD 0:Nat),0)|none=>(0,0,2)
 else (0,0,jW l)
theorem Wo (G:GH) (w0:World) (hG:Hold G w0) (l:List aD) (t:Int) (v:ak) (hv:aF G (.sl 11 (l.map aD.dat)) v) (hz:cK l<=1073741824) :
  Calls prog 31 #[v,vi t] w0 (bQ w0 G fun u G'=>u=.tuple #[vi (oM l t).1,vi (oM l t).2.1,vi (oM l t).2.2]):=by
 have hls:qd l<=1073741824:=by
  have h1:=KL l;have h2:=ES l
  unfold qd;split <;> omega
 have hol:=OX l 0;have hll:=yj l;refine eN [(0,_),(1,_)] func31 O ntmps31 O O hG ?_;intro a H;refine gU (fun _ K1=>?_);refine jQ (cs:=[_]) H wn O O O ?_;clear H;intro b3 a w hb3 H;refine gX aC H wn O ?_;clear H;intro b4 a w hb4 H;refine gX aC H wn O ?_;clear H;intro b5 a w hb5 H;refine gX uH H wn O ?_;clear H;intro b6 a w hb6 H;refine K1 _ _ ?_;clear K1;refine kP H (SR fun _ K2=>Rm O ?_);clear H;intro a H;refine s_call FZ H wn O (Hl _ _ H.ro _ _ hv V) O ?_;clear H;rintro v15 _ a w ⟨rfl,rfl⟩ - H;refine kH H (Rm O ?_);clear H;intro a H;(iterate 2 refine eZ H wn O O O ?_;clear H;intro a H);refine kH H (Ra O ?_);clear H;intro a H;refine bg uH 0 (vs:=[_]) H wn O ?_;clear H;intro w H;refine K2 _ _ ?_;clear K2;refine kP H (SQ fun _ K3=>SB (SR fun _ K4=>Ro uH 0 O (Rc O (av K4 O (Cd O ?_ ?_))))) <;> clear H K4
 ·intro h18 a H
  try have nY:=dT h18
  refine gy (fun _ K5=>?_);refine dI hmx [[],[],[1],[0,1,2]] [3] Z [vi (jW l)] H (aH (Z0 O (Ro uH 0 O)) ?_ ?_ (fT O) fD) ?_
  ·intro ay a w G1 _ ah hc hG HT hv;have H:=HT;clear ah;have Hb:=H.full;have H:=Hb;clear hc;refine bg aC 2 (vs:=[_]) H wn O ?_;clear H;intro w H;refine aj ⟨O,?_⟩;exact I6 O HT hG hv H
  ·intro ay a w G1 _ ah hc hG HT hv;have H:=HT;clear ah;have Hb:=H.full;have H:=Hb;clear hc;refine bg aC 1 (vs:=[_]) H wn O ?_;clear H;intro w H;refine aj ⟨O,?_⟩;exact I6 O HT hG hv H
  clear H;intro a w G adq H hv;have H:=H.au (hv 0 21 O O) O;clear hv;refine bg uH 0 (vs:=[_]) H wn O ?_;clear H;intro w H;refine aj ⟨O,?_⟩;refine K5 _ _ ?_;clear K5;refine aU ?_;refine (bK H results31 (.cons (qR aC H O (H.hp.gK 2 O O)) (.cons (qR aC H O (H.hp.gK 1 O O)) (.cons (qR uH H O (H.hp.gK 0 O O)) .nil))) ?_).1
  first
   | exact H.rt (by obtain ⟨h1,h2,h3⟩:=hI;rw [oM,aN he,aZ,h2,h3];simp [iR h1])
   | exact H.rt (by rw [oM,aN he,aZ,He (by simpa using hI)];rfl)
   | exact H.rt (by rw [oM];simp_all)
 intro h18 a H
 try have nY:=dF h18
 have he:jW l=0:=by omega
 rw [he] at H;refine kP H (SR fun _ K6=>Ro aC 3 O (Rc O (Rm O (Sp 25 O ?_ ?_)))) <;> clear H
 ·intro kN a H
  try have p25:=dT kN
  refine kH H (aV kN O (Pt kN O (av K6 O (Ct O O (SR fun _ K7=>?_)))));clear H K6;intro a H;refine bg aC 2 (vs:=[_]) H wn O ?_;clear H;intro w H;refine bg aC 1 (vs:=[_]) H wn O ?_;clear H;intro w H;refine bg uH 0 (vs:=[_]) H wn O ?_;clear H;intro w H;refine K7 _ _ ?_;clear K7;refine aU ?_;refine (bK H results31 (.cons (qR aC H O (H.hp.gK 2 O O)) (.cons (qR aC H O (H.hp.gK 1 O O)) (.cons (qR uH H O (H.hp.gK 0 O O)) .nil))) ?_).1
  first
   | exact H.rt (by obtain ⟨h1,h2,h3⟩:=hI;rw [oM,aN he,aZ,h2,h3];simp [iR h1])
   | exact H.rt (by rw [oM,aN he,aZ,He (by simpa using hI)];rfl)
   | exact H.rt (by rw [oM];simp_all)
 intro kN a H
 try have p25:=dF kN
 refine kH H (YO aC 3 kN O (YM kN O (YC kN O (Pf kN O (av K6 O (Cd O ?_ ?_)))))) <;> clear H K6
 ·intro h22 a H
  try have mX:=dT h22
  refine gU (fun _ K8=>?_);refine bg aC 2 (vs:=[_]) H wn O ?_;clear H;intro w H;refine bg aC 1 (vs:=[_]) H wn O ?_;clear H;intro w H;refine bg uH 0 (vs:=[_]) H wn O ?_;clear H;intro w H;refine K8 _ _ ?_;clear K8;refine aU ?_;refine (bK H results31 (.cons (qR aC H O (H.hp.gK 2 O O)) (.cons (qR aC H O (H.hp.gK 1 O O)) (.cons (qR uH H O (H.hp.gK 0 O O)) .nil))) ?_).1
  first
   | exact H.rt (by obtain ⟨h1,h2,h3⟩:=hI;rw [oM,aN he,aZ,h2,h3];simp [iR h1])
   | exact H.rt (by rw [oM,aN he,aZ,He (by simpa using hI)];rfl)
   | exact H.rt (by rw [oM];simp_all)
 intro h22 a H
 try have mX:=dF h22
 refine lV ?_;refine K3 _ _ ?_;clear K3;refine gU (fun _ K9=>?_);refine gX aC H wn O ?_;clear H;intro b8 a w Gm H;refine bg aC 0 (vs:=[_]) H wn O ?_;clear H;intro w H;refine K9 _ _ ?_;clear K9;refine kP H (SQ fun _ aP=>SR fun _ aT=>Rm O ?_);clear H;intro a H;refine s_call Tt H wn O (Vj _ _ H.ro l _ hv V) O ?_;clear H;rintro v31 G31 a w ⟨bd,rfl,hit⟩ ajT H;refine aT _ _ ?_;clear aT;refine xk ?_;skip;refine IV (ι:=Unit) (κ:=Nat × Int) (Lc:=[]) (fun (k:Nat) (gh:Unit)=>[(b8,.cells #[vi k] 3 (0,0)),(b3,.cells #[vi t] 3 (0,0)),(b4,.cells #[vi 0] 3 (0,0)),(b5,.cells #[vi 0] 3 (0,0)),(b6,.cells #[vi 0] 27 (0,0))]) (fun (k:Nat) (gh:Unit)=>[]) (fun (k:Nat) (gh:Unit) (g:GH)=>((fE 0 l).take k).findIdx? (Ae t)=none) (fun (gx:Nat × Int)=>Code.ret) (fun (gx:Nat × Int)=>[(b8,.cells #[vi gx.1] 3 (0,0)),(b3,.cells #[vi t] 3 (0,0)),(b4,.cells #[vi gx.1] 3 (0,0)),(b5,.cells #[vi gx.2] 3 (0,0)),(b6,.cells #[vi 0] 27 (0,0))]) (fun (gx:Nat × Int)=>[]) (fun (gx:Nat × Int) (g:GH)=>∃ h:gx.1 < (fE 0 l).length,(fE 0 l).findIdx? (Ae t)=some gx.1∧gx.2=t - ((fE 0 l)[gx.1].1:Int)) (()) (by exact H.dz (Pl:=[_,_,_,_,_]) (bZ:=[_,_,_,_,_]) [0,4,3,2,1] Y O) O Na (hit) (fun _ _ h=>h) O (fun k args g h=>by obtain ⟨_,_,rfl,_⟩:=J5 h;rfl) (fun _ _ _ _ _ h=>h) (fun _ _ _ _ h=>h) (rfl) ?_ ?_ ?_
 ·clear H;intro l8 yT vU bk k args gh G8 w8 F8 B8 a Gs Ej hI adQ aem aeN H;obtain ⟨hk,cs8,rfl,UQ⟩:=J5 Gs;obtain ⟨pA,pn,pc,dA,dn,dc,yA,yn,yc,fA,fn,fc,rA,rn,rc,rfl,hh8,hf8,UQ⟩:=UQ.item;have hmem:=OY (dV hk);have hm1:=Qm hmem.1;have hm2:=ES l;have wz:=KX (fE 0 l)[k].2;dsimp only [uQ,List.cons_append,List.nil_append] at H;refine kP H (SR fun _ bH=>av bH O (SC ?_));clear H bH;intro a H;refine gX fB H wn O ?_;clear H;intro b10 a w NI H;refine bg fB 0 (vs:=[_,_,_,_,_,_,_,_,_,_,_]) H wn O ?_;clear H;intro w H;refine aj ?_;refine adQ _ _ _ _ _ _ (by exact H.dz (Pl:=[_,_,_,_,_,_,_]) (bZ:=[_,_,_,_,_,_,_]) [1,0,2,3,4,5,6] Y O) ?_;clear H;intro w H;refine kP H (SB (SQ fun _ bG=>SR fun _ bX=>?_));clear H;intro a H;refine bV fB (cs:=[_,_,_,_,_,_,_,_,_,_,_]) H wn O O (H.hp.bR 1 O O) O ?_;clear H;intro a H;refine s_call I9 H wn O (KY _ _ H.ro _ _ _ _ _ _ _ _ _ _ V) O ?_;clear H;rintro v36 _ a w ⟨rfl,rfl⟩ - H;refine kH H (Rm O ?_);clear H;intro a H;(iterate 2 refine eZ H wn O O O ?_;clear H;intro a H);refine kH H (Ra O (av bX O (SR fun _ dG=>Ro aC 3 O (Rm O (Rm O (Rd O (Rc O (Kz dG (Cd O ?_ ?_))))))))) <;> clear H bX dG
  ·intro h43 a H
   try have p43:=dT h43
   refine gy (fun _ dR=>?_);refine MF (hmx) [[],[],[],[1,2],[0],ra 0 5,ra 0 6] [5,6] Z Z 4 Y (fun (jV:Nat) (v:ak) (G:GH)=>match jV with|0=>v=vi k|1=>v=vi t|2=>v=vi ((fE 0 l)[k].1:Int)|3=>v=vi (t - ((fE 0 l)[k].1:Int))|_=>True) 4 ((b4,.cells #[vi k] 3 (0,0))) H ?_ ?_ ?_ ?_ Z
   ·clear H;refine aH ?_ ?_ ?_ ?_ (eB ?_ (eB (fT O) (eB (fT O) fD)))
    ·intro ay a w G1 _ _ ah hc hG HT hv;have H:=HT;clear ah;have Hb:=H.full;have H:=Hb;clear hc;refine kH H (Ro aC 2 O ?_);clear H;intro a H;refine aj ⟨O,?_⟩;exact aB HT Hb hG hv (fun _ _ _ _ _ h=>h) H O
    ·intro ay a w G1 _ _ ah hc hG HT hv;have H:=HT;clear ah;have Hb:=H.full;have H:=Hb;clear hc;refine kH H (Ro aC 3 O ?_);clear H;intro a H;refine aj ⟨O,?_⟩;exact aB HT Hb hG hv (fun _ _ _ _ _ h=>h) H O
    ·intro ay a w G1 _ _ ah hc hG HT hv;have H:=HT;clear ah;have Hb:=H.full;have H:=Hb;clear hc;refine kH H (Rm O ?_);clear H;intro a H;refine aj ⟨O,?_⟩;exact aB HT Hb hG hv (fun _ _ _ _ _ h=>h) H O
    ·intro ay a w G1 _ _ ah hc hG HT hv;have H:=HT;clear ah;have H:=H.au (hv 1 45 (hc 1 Y) O) O;have H:=H.au (hv 2 46 (hc 2 Y) O) O;have Hb:=H.full;have H:=Hb;clear hc;refine kH H (Rs O ?_);clear H;intro a H;refine aj ⟨O,?_⟩;exact aB HT Hb hG hv (fun _ _ _ _ _ h=>h) H O
    intro _ _ _ _ _ hB;exact absurd hB Y
   ·clear H;intro o_ ay a w G1 xJ _ hc hG HT hv;obtain rfl:_=o_:=Option.some.inj xJ;clear xJ;have H:=HT;have H:=H.au (hv 0 44 (hc 0 Y) O) O;have Hb:=H.full;have H:=Hb;clear hc;refine bg aC 4 (vs:=[_]) H wn O ?_;clear H;intro w H;refine aj ⟨O,?_⟩;exact MP O HT hG hv H
   ·clear H;refine aH (fT O) ?_ ?_ ?_ (eB ?_ (eB (fT O) (eB (fT O) fD)))
    ·intro ay a w G1 _ _ ah hc hG HT hv;have H:=HT;dsimp only [List.set,List.append,lca,bW] at H;clear ah;have Hb:=H.full;have H:=Hb;clear hc;refine kH H (Ro aC 3 O ?_);clear H;intro a H;refine aj ⟨O,?_⟩;exact aB HT Hb hG hv (fun _ _ _ _ _ h=>h) H O
    ·intro ay a w G1 _ _ ah hc hG HT hv;have H:=HT;dsimp only [List.set,List.append,lca,bW] at H;clear ah;have Hb:=H.full;have H:=Hb;clear hc;refine kH H (Rm O ?_);clear H;intro a H;refine aj ⟨O,?_⟩;exact aB HT Hb hG hv (fun _ _ _ _ _ h=>h) H O
    ·intro ay a w G1 _ _ ah hc hG HT hv;have H:=HT;dsimp only [List.set,List.append,lca,bW] at H;clear ah;have H:=H.au (hv 1 45 (hc 1 Y) O) O;have H:=H.au (hv 2 46 (hc 2 Y) O) O;have Hb:=H.full;have H:=Hb;clear hc;refine kH H (Rs O ?_);clear H;intro a H;refine aj ⟨O,?_⟩;exact aB HT Hb hG hv (fun _ _ _ _ _ h=>h) H O
    intro _ _ _ _ _ hB;exact absurd hB Y
   clear H;intro a w G uw H hv;dsimp only [List.set,List.append,lca,bW] at H;have H:=H.au (hv 3 47 O O) O;clear hv;refine bg aC 5 (vs:=[_]) H wn O ?_;clear H;intro w H;refine bg uH 6 (vs:=[_]) H wn O ?_;clear H;intro w H;refine aj ⟨O,?_⟩;refine dR _ _ ?_;clear dR;refine aU ?_;refine (aeN ((k,t - ((fE 0 l)[k].1:Int))) _ _ _ _ _ (by exact H.dz (Pl:=[_,_,_,_,_,_,_]) (bZ:=[_,_,_,_,_,_]) [0,2,3,4,5,6] Y O) ?_).1 O;exact ⟨hk,J4 hk hI h43,O⟩
  intro h43 a H
  try have p43:=dF h43
  refine kP H (Kc bG (SC (Ro aC 2 O (Rd O ?_))));clear H bG;intro a H;refine bg aC 2 (vs:=[_]) H wn O ?_;clear H;intro w H;refine aj ?_;refine aem (()) _ _ _ _ _ (by exact H.dz (Pl:=[_,_,_,_,_,_,_]) (bZ:=[_,_,_,_,_,_]) [0,2,3,4,5,6] Y O) ?_;exact OH hk hI h43
 ·clear H;intro Yu gh YJ a w Ej hI H;dsimp only [lca,bW] at H;refine aP _ _ ?_;clear aP;refine gU (fun _ fu=>?_);refine bg aC 3 (vs:=[_]) H wn O ?_;clear H;intro w H;refine bg aC 4 (vs:=[_]) H wn O ?_;clear H;intro w H;refine bg uH 5 (vs:=[_]) H wn O ?_;clear H;intro w H;refine fu _ _ ?_;clear fu;refine aU ?_;refine (Es H 0 O ?_).1;clear H;intro a w H;dsimp only [List.eraseIdx_cons_succ,List.eraseIdx_cons_zero] at H;refine (bK H results31 (.cons (qR aC H O (H.hp.gK 2 O O)) (.cons (qR aC H O (H.hp.gK 3 O O)) (.cons (qR uH H O (H.hp.gK 4 O O)) .nil))) ?_).1
  first
   | exact H.rt (by obtain ⟨h1,h2,h3⟩:=hI;rw [oM,aN he,aZ,h2,h3];simp [iR h1])
   | exact H.rt (by rw [oM,aN he,aZ,He (by simpa using hI)];rfl)
   | exact H.rt (by rw [oM];simp_all)
 clear H;intro Yu x YJ a w Ej hI H;dsimp only [lca,bW] at H;refine aU ?_;refine (Es H 0 O ?_).1;clear H;intro a w H;dsimp only [List.eraseIdx_cons_succ,List.eraseIdx_cons_zero] at H;refine (bK H results31 (.cons (qR aC H O (H.hp.gK 2 O O)) (.cons (qR aC H O (H.hp.gK 3 O O)) (.cons (qR uH H O (H.hp.gK 4 O O)) .nil))) ?_).1
 first
  | exact H.rt (by obtain ⟨h1,h2,h3⟩:=hI;rw [oM,aN he,aZ,h2,h3];simp [iR h1])
  | exact H.rt (by rw [oM,aN he,aZ,He (by simpa using hI)];rfl)
  | exact H.rt (by rw [oM];simp_all)
def vK (L:List aD) (t:Int):Prop:=∃ p q,L=p++q∧t=(gD p:Nat)
theorem vK.cut {L:List aD} {t:Int} (h:vK L t):zl t L:=by obtain ⟨p,q,rfl,rfl⟩:=h;exact aat p q
theorem vK.len {L:List aD} {t:Int} (h:vK L t) (hd:oC L=true):t<=qd L:=by
 obtain ⟨p,q,rfl,rfl⟩:=h;rw [qd,aN hd,P6];omega
def QE (L:List aD) (b:jD):Prop:=vK L b.from_∧vK L (oZ b)∧vK L b.dx∧0<=b.from_∧b.from_<=oZ b∧oZ b<=b.dx∧b.from_ < b.dx
theorem Wn {L:List aD} {fr at_:Int} {lo:Bool} (h1:vK L fr) (h2:vK L at_) (h0:0<=fr) (h3:fr<=at_):∀ b∈qQ fr at_ lo,QE L b:=by
 intro b hb
 unfold qQ at hb
 split at hb
 ·cases hb
 rw [uP] at hb;subst hb;exact ⟨h1,h2,h2,h0,h3,Int.le_refl _,by show fr < at_;omega⟩
theorem IJ {L:List aD} (hd:oC L=true):∀ (q p:List aD) (fr:Int) (lo:Bool),L=p++q->vK L fr->0<=fr->fr<=(gD p:Nat)->∀ b∈pU fr (gD p:Nat) lo q,QE L b
 | [],p,fr,lo,e,h1,h0,h3=>by
  rw [pU];exact Wn h1 ⟨p,[],e,O⟩ h0 h3
 | x :: q,p,fr,lo,e,h1,h0,h3=>by
  have hx:xX x=0:=by
   have hd2:=hd;rw [e] at hd2
   unfold oC at hd2
   rw [gW] at hd2
   simpa using hd2 x (List.mem_append_right _ nN)
  have hn:n1 x=lH x:=aN hx
  have e2:L=(p++[x])++q:=by rw [e];simp
  have es:((gD p:Nat):Int)+(n1 x:Nat)=(gD (p++[x]):Nat):=by rw [P6,hn];simp [gD]
  have hb1:vK L (gD p:Nat):=⟨p,_,e,O⟩;have hb2:vK L (gD (p++[x]):Nat):=⟨_,_,e2,O⟩;intro b hb;rw [pU] at hb
  by_cases k2:x.kind=2
  ·have hn1:=VL (x:=x) V
   have es1:((gD p:Nat):Int)+1=(gD (p++[x]):Nat):=by rw [<- es,hn1];rfl
   rw [aN k2,es,es1] at hb
   rcases nT.1 hb with rfl|hb
   ·have ee:oZ ⟨1,fr,(gD (p++[x]):Nat),true⟩=(gD p:Nat):=by show ((gD (p++[x]):Nat):Int) - 1=_;omega
    exact ⟨h1,by rw [ee];exact hb1,hb2,h0,by rw [ee];exact h3,by rw [ee];show _<=((gD (p++[x]):Nat):Int);omega,by show fr < ((gD (p++[x]):Nat):Int);omega⟩
   exact IJ hd q (p++[x]) _ _ e2 hb2 V (Int.le_refl _) b hb
  rw [aL k2] at hb
  by_cases k3:x.kind=7∨x.kind=3
  ·have hn1:=VL (x:=x) V
   have es1:((gD p:Nat):Int)+1=(gD (p++[x]):Nat):=by rw [<- es,hn1];rfl
   rw [aN k3,es,es1] at hb
   rcases tV.1 hb with hb|hb
   ·exact Wn h1 hb1 h0 h3 b hb
   rcases nT.1 hb with rfl|hb
   ·exact ⟨hb1,hb2,hb2,by show (0:Int)<=((gD p:Nat):Int);omega,by show ((gD p:Nat):Int)<=((gD (p++[x]):Nat):Int);omega,Int.le_refl _,by show ((gD p:Nat):Int) < ((gD (p++[x]):Nat):Int);omega⟩
   exact IJ hd q (p++[x]) _ _ e2 hb2 V (Int.le_refl _) b hb
  rw [aL k3,es] at hb;exact IJ hd q (p++[x]) _ _ e2 h1 h0 V b hb
theorem RJ {l:List aD} (he:jW l=0) {b:jD} (hb:b∈lq l):Lj l b:=by
 have hd:oC l=true:=by
  unfold jW at he
  cases e:oC l with
  | true=>rfl
  | false=>rw [e] at he;exact absurd he Y
 rw [lq,aN he] at hb;obtain ⟨h1,h2,h3,h4,h5,h6,h7⟩:=IJ hd l [] 0 true O ⟨[],l,O,O⟩ (Int.le_refl _) (Int.le_refl _) b hb;exact ⟨⟨h1.cut,h2.cut,h3.cut⟩,h4,h5,h6,h3.len hd,h7⟩
theorem VW {t:Int}:∀ {l:List aD} {o:Nat},t < (o+gD l:Nat)->(o:Int)<=t->∃ i,i < l.length∧(fE o l).findIdx? (Ae t)=some i
 | [],o,h,h0=>by rw [gD] at h;omega
 | x :: l,o,h,h0=>by
  rw [fE,List.findIdx?_cons]
  cases e:Ae t (o,x) with
  | true=>exact ⟨0,by simp,O⟩
  | false =>
   have h1:¬ t < (o:Int)+(lH x:Int):=by simpa [Ae] using e
   rw [gD] at h;obtain ⟨i,hi,hf⟩:=VW (l:=l) (o:=o+lH x) (t:=t) V V;exact ⟨i+1,by simpa using hi,by simp [hf]⟩
theorem Wp {l:List aD} {t:Int} (he:jW l=0) (h0:0<=t) (h1:t < qd l):∃ (i:Nat) (x:Int),i < l.length∧(fE 0 l).findIdx? (Ae t)=some i∧oM l t=((i:Int),x,0):=by
 have hd:oC l=true:=by
  unfold jW at he
  cases e:oC l with
  | true=>rfl
  | false=>rw [e] at he;exact absurd he Y
 have hl:qd l=(gD l:Nat):=by rw [qd,aN hd]
 obtain ⟨i,hi,hf⟩:=VW (l:=l) (o:=0) (t:=t) (by rw [eH];omega) V;exact ⟨i,_,hi,hf,by rw [oM,aN he,aZ,hf]⟩
def Br (l:List aD) (t:Int):List dQ:=match (fE 0 l).findIdx? (Ae t) with|some i=>(l[i]?.map aD.rows).getD []|none=>[]
def nE (R:List dQ):List UInt8:=R.flatMap fun r=>kU r.cells
def ug (l:List aD) (b:jD):List UInt8:=if b.kind=2 then nE (Br l b.from_) else Ia l b
theorem Wx {l:List aD} {t:Int} {i:Nat} (hi:i < l.length) (h:(fE 0 l).findIdx? (Ae t)=some i):Br l t=l[i].rows:=by
 rw [Br,h];simp [hi]
theorem Ww {l:List dQ} {k:Nat} (hk:k < l.length):nE (l.take (k+1))=nE (l.take k)++kU l[k].cells:=by
 rw [jq hk];simp only [nE,List.flatMap_append,List.flatMap_cons,List.flatMap_nil,lU]
theorem Kr:∀ l:List dQ,(nE l).length<=kY l
 | []=>bS _
 | x :: l=>by
  have:=Kr l;have h2:=Km x.cells;have h3:=wP x
  simp only [nE,List.flatMap_cons,fQ,kY,gV,fM] at *;omega
theorem Kt {l:List dQ} {k:Nat}:(nE (l.take k)).length<=(nE l).length:=by
 have h:nE l=nE (l.take k)++nE (l.drop k):=by
  simp only [nE];rw [<- List.flatMap_append,List.take_append_drop]
 rw [h,fQ];omega
theorem Wv:∀ {l:List dQ},uh l=true->gq (kM (nE l))=true
 | [],_=>MS.1
 | x :: l,h=>by
  rw [uh,Cb,iG] at h;have h1:=Wt h.1;have h2:=Wv h.2
  have e:nE (x :: l)=kU x.cells++nE l:=by simp [nE]
  rw [e,AX];exact EZ h1 h2
theorem agp {l:List aD} (h:ig l=true) (t:Int):uh (Br l t)=true:=by
 unfold Br
 split
 ·rename_i i _
  cases e:l[i]? with
  | none=>rw [Option.map_none,Option.getD_none,uh]
  | some x =>
   obtain ⟨hi,rfl⟩:=gN.1 e;rw [vZ,gW] at h;have h1:=h _ (dV hi);rw [vY,iG] at h1;exact h1.2
 rw [uh]
theorem agq (l:List aD) (t:Int):kY (Br l t)<=cK l:=by
 unfold Br
 split
 ·rename_i i _
  cases e:l[i]? with
  | none=>exact fC _
  | some x =>
   obtain ⟨hi,rfl⟩:=gN.1 e;have h1:=BH (dV hi);have h2:=oO l[i]
   show kY l[i].rows<=_
   omega
 exact fC _
theorem XH (l:List aD) (b:jD):(yU b.from_ (uE (oZ b) l)).Sublist l:=(Pj _ _).trans (OJ _ _)
theorem Mw (l:List aD) (b:jD):(ug l b).length<=cK l:=by
 unfold ug
 split
 ·have h1:=Kr (Br l b.from_);have h2:=agq l b.from_
  omega
 have h1:=KU (pX (yU b.from_ (uE (oZ b) l)));have h2:=Yl (yU b.from_ (uE (oZ b) l));have h3:=Dm (XH l b)
 unfold Ia;omega
theorem Zn {l:List aD} (h:ig l=true) (b:jD):gq (kM (ug l b))=true:=by
 unfold ug
 split
 ·exact Wv (agp h _)
 exact (Ql (aiK fun x hx=>MR h x ((XH l b).subset hx))).1
structure iX where
 kind:Int
 text:ByteArray
def iX.dat (x:iX):List Dat:=[li x.kind,.lf (.string x.text)]
abbrev iX.cells (x:iX):List ak:=[vi x.kind,.string x.text]
theorem RU (G:GH) (x:iX):aY G x.dat x.cells:=by
 simp only [iX.dat,aY]
 exact ⟨_,_,O,by simp [aF,Value.oneCell'],_,_,O,by simp [aF,Value.oneCell'],O⟩
theorem IK {G:GH} {x:iX} {cs:List ak} (h:aY G x.dat cs):cs=x.cells:=by
 simp only [iX.dat,aY,aF] at h
 obtain ⟨v1,_,rfl,⟨rfl,-⟩,v2,_,rfl,⟨rfl,-⟩,rfl⟩:=h
 rfl
def yI (l:List aD) (b:jD):iX:=⟨b.kind,kM (ug l b)⟩
def iM (l:List aD):List iX:=(lq l).map (yI l)
theorem I5 {s:ByteArray} {a n:Nat}:∀ (f k:Nat) (low high p:Int),(mo s a n f k low high p).2.2=true->k<=n->n<=k+f ->
  (mo s a n f k low high p).2.1=n∧∀ j,k<=j->j < n->a+j < s.size∧(if j=k then low<=iC s (a+j)∧iC s (a+j)<=high else 128<=iC s (a+j)∧iC s (a+j)<=191)
 | 0,k,low,high,p,_,h1,h2=>by
  have hk:k=n:=by omega
  subst hk;exact ⟨by rw [mo],fun j hj hj2=>by omega⟩
 | f+1,k,low,high,p,h,h1,h2=>by
  rw [mo] at h |-
  by_cases hn:n<=k
  ·rw [aN hn];exact ⟨by dsimp only;omega,fun j hj hj2=>by omega⟩
  rw [aL hn] at h |-
  by_cases hb:s.size<=a+k∨iC s (a+k) < low∨high < iC s (a+k)
  ·rw [aN hb] at h;cases h
  rw [aL hb] at h |-;obtain ⟨e1,e2⟩:=I5 f (k+1) 128 191 _ h V V;refine ⟨e1,fun j hj hj2=>?_⟩
  by_cases hjk:j=k
  ·subst hjk;rw [aN O];omega
  rw [aL hjk];have:=e2 j V hj2
  split at this
  ·omega
  exact this
theorem BX {s:ByteArray} {i:Nat} (h:i < s.size):iC s i=((s.get! i).toNat:Int):=by
 have e:s.get! i=s[i]:=by
  unfold ByteArray.get!
  exact getElem!_pos s.data i h
 rw [sH h,e]
theorem zH {s:ByteArray} {i:Nat} (hi:i < s.size) (h:(gB s i).2.2=true):(Utf8.decode s i).2=(gB s i).2.1∧¬ ((Utf8.decode s i).1=65533∧(Utf8.decode s i).2=1) ∧
  (∀ j,0 < j->j < (gB s i).2.1->i+j < s.size∧128<=iC s (i+j)∧iC s (i+j)<=191)∧¬ (128<=iC s i∧iC s i<=191):=by
 have hb:=BX hi;have hlt:(s.get! i).toNat < 256:=(s.get! i).toNat_lt;obtain ⟨B,hB⟩:∃ B,B=(s.get! i).toNat:=⟨_,O⟩;rw [<- hB] at hb hlt
 unfold gB at h |-
 simp only at h |-
 have ht:eF (iC s i)=eF (B:Int):=by rw [hb]
 rw [ht] at h |-
 by_cases c1:B < 128
 ·have e3:(eF (B:Int)).2.2=1:=by simp only [eF];rw [dS]
  rw [aZ,aN e3]
  have hd:Utf8.decode s i=(B,1):=by
   unfold Utf8.decode
   simp only [qD,<- hB]
   rw [dS]
  rw [hd];exact ⟨O,by simp;omega,fun j h1 h2=>by simp at h2;omega,V⟩
 by_cases c2:B < 194∨244 < B
 ·have e3:(eF (B:Int)).2.2=0:=by simp only [eF];rw [aZ,dS]
  rw [aN e3] at h;cases h
 by_cases c3:B < 224
 ·have e3:(eF (B:Int)).2.2=2:=by simp only [eF];rw [aZ,aZ,dS]
  have e1:(eF (B:Int)).1=128∧(eF (B:Int)).2.1=191:=by simp only [eF];refine ⟨?_,?_⟩ <;> (rw [aZ,aZ])
  rw [aZ,aZ,e3,e1.1,e1.2] at h |-;obtain ⟨q1,q2⟩:=I5 _ _ _ _ _ h Y Y;have b1:=q2 1 Y Y;rw [aN O] at b1;have g1:=BX b1.1;obtain ⟨B1,hB1⟩:∃ B1,B1=(s.get! (i+1)).toNat:=⟨_,O⟩;rw [<- hB1] at g1;rw [q1]
  have hd:Utf8.decode s i=((B % 32)*64+B1 % 64,2):=by
   unfold Utf8.decode
   simp only [qD,<- hB,<- hB1]
   rw [aZ,aN (by simp [b1.1];omega),dS]
  rw [hd];refine ⟨O,by simp,fun j h1 h2=>?_,V⟩
  obtain rfl:j=1:=by have:j < 2:=h2;omega
  exact ⟨b1.1,b1.2⟩
 by_cases c4:B < 240
 ·have e3:(eF (B:Int)).2.2=3:=by simp only [eF];rw [aZ,aZ,aZ,dS]
  have e1:128<=(eF (B:Int)).1∧(eF (B:Int)).2.1<=191∧(B=224->(eF (B:Int)).1=160)∧(B=237->(eF (B:Int)).2.1=159):=by
   simp only [eF]
   refine ⟨?_,?_,fun e=>?_,fun e=>?_⟩
   ·split
    ·omega
    split <;> omega
   ·split
    ·omega
    split <;> omega
   ·rw [dS]
   rw [dS]
  obtain ⟨lo,hlo⟩:∃ x,x=(eF (B:Int)).1:=⟨_,O⟩;obtain ⟨hi',hhi⟩:∃ x,x=(eF (B:Int)).2.1:=⟨_,O⟩;rw [aZ,aZ,e3,<- hlo,<- hhi] at h |-;rw [<- hlo,<- hhi] at e1;obtain ⟨q1,q2⟩:=I5 _ _ _ _ _ h Y Y;have b1:=q2 1 Y Y;have b2:=q2 2 Y Y;rw [aN O] at b1;rw [aL Y] at b2;have g1:=BX b1.1;have g2:=BX b2.1;obtain ⟨B1,hB1⟩:∃ B1,B1=(s.get! (i+1)).toNat:=⟨_,O⟩;obtain ⟨B2,hB2⟩:∃ B2,B2=(s.get! (i+2)).toNat:=⟨_,O⟩;rw [<- hB1] at g1;rw [<- hB2] at g2;rw [q1]
  have hv:Utf8.valid (((B % 16)*4096+(B1 % 64)*64+B2 % 64:Nat):Int)=true:=by
   simp only [Utf8.valid,Bool.or_eq_true,iG,dU]
   have ajt:=e1.2.2.2
   omega
  have hd:Utf8.decode s i=((B % 16)*4096+(B1 % 64)*64+B2 % 64,3):=by
   unfold Utf8.decode
   simp only [qD,<- hB,<- hB1,<- hB2]
   have ajs:=e1.2.2.1;rw [aZ,aL (by simp;omega),aN (by simp [b1.1,b2.1];omega),aN (by simp only [iG,dU];exact ⟨V,hv⟩)]
  rw [hd];refine ⟨O,by simp,fun j h1 h2=>?_,V⟩;have h2':j < 3:=h2
  rcases (show j=1∨j=2 by omega) with rfl|rfl
  ·exact ⟨b1.1,V,V⟩
  exact ⟨b2.1,b2.2⟩
 have e3:(eF (B:Int)).2.2=4:=by simp only [eF];rw [aZ,aZ,aZ,aZ]
 have e1:128<=(eF (B:Int)).1∧(eF (B:Int)).2.1<=191∧(B=240->(eF (B:Int)).1=144)∧(B=244->(eF (B:Int)).2.1=143):=by
  simp only [eF]
  refine ⟨?_,?_,fun e=>?_,fun e=>?_⟩
  ·split
   ·omega
   split <;> omega
  ·split
   ·omega
   split <;> omega
  ·rw [aZ,dS]
  rw [aZ,dS]
 obtain ⟨lo,hlo⟩:∃ x,x=(eF (B:Int)).1:=⟨_,O⟩;obtain ⟨hi',hhi⟩:∃ x,x=(eF (B:Int)).2.1:=⟨_,O⟩;rw [aZ,aZ,e3,<- hlo,<- hhi] at h |-;rw [<- hlo,<- hhi] at e1;obtain ⟨q1,q2⟩:=I5 _ _ _ _ _ h Y Y;have b1:=q2 1 Y Y;have b2:=q2 2 Y Y;have b3:=q2 3 Y Y;rw [aN O] at b1;rw [aL Y] at b2 b3;have g1:=BX b1.1;have g2:=BX b2.1;have g3:=BX b3.1;obtain ⟨B1,hB1⟩:∃ B1,B1=(s.get! (i+1)).toNat:=⟨_,O⟩;obtain ⟨B2,hB2⟩:∃ B2,B2=(s.get! (i+2)).toNat:=⟨_,O⟩;obtain ⟨B3,hB3⟩:∃ B3,B3=(s.get! (i+3)).toNat:=⟨_,O⟩;rw [<- hB1] at g1;rw [<- hB2] at g2;rw [<- hB3] at g3;rw [q1];have aju:=e1.2.2.1;have ajv:=e1.2.2.2
 have hv:Utf8.valid (((B % 8)*262144+(B1 % 64)*4096+(B2 % 64)*64+B3 % 64:Nat):Int)=true:=by
  simp only [Utf8.valid,Bool.or_eq_true,iG,dU]
  omega
 have hd:Utf8.decode s i=((B % 8)*262144+(B1 % 64)*4096+(B2 % 64)*64+B3 % 64,4):=by
  unfold Utf8.decode
  simp only [qD,<- hB,<- hB1,<- hB2,<- hB3]
  rw [aZ,aL (by simp;omega),aL (by simp;omega),aN (by simp [b1.1,b2.1,b3.1];omega),aN (by simp only [iG,dU];exact ⟨V,hv⟩)]
 rw [hd];refine ⟨O,by simp,fun j h1 h2=>?_,V⟩;have h2':j < 4:=h2
 rcases (show j=1∨j=2∨j=3 by omega) with rfl|rfl|rfl
 ·exact ⟨b1.1,V,V⟩
 ·exact ⟨b2.1,b2.2⟩
 exact ⟨b3.1,b3.2⟩
theorem tH {s:ByteArray} {i:Nat} (h:iN s i < 0) (hi:i < s.size):(gB s i).2.2=true∧iN s (i+(gB s i).2.1) < 0:=by
 rw [iN,dif_pos hi] at h
 split at h
 ·rename_i h2;exact ⟨h2,h⟩
 omega
theorem AY {s:ByteArray} {i:Nat} (h:iN s i < 0) (hi:i < s.size):0 < (gB s i).2.1∧i+(gB s i).2.1<=s.size:=by
 have h1:=(tH h hi).1;have h2:=(DR s i hi).2 h1
 omega
theorem XW {s:ByteArray}:∀ (q i:Nat),s.size - i<=q->iN s i < 0->Go.Lib.validD (s.data.toList.drop i)=true
 | 0,i,hq,_=>by
  rw [List.drop_eq_nil_of_le (by have:=Go.Lib.size_eq s;omega)];rfl
 | q+1,i,hq,h=>by
  by_cases hi:i < s.size
  ·have hne:s.data.toList.drop i≠[]:=by
    intro e;have:=gZ List.length e;rw [List.length_drop,<- Go.Lib.size_eq] at this
    simp at this;omega
   have hs:=tH h hi;have hd:=AY h hi;have he:=zH hi hs.1;rw [Go.Lib.validD_step _ hne,Go.Lib.decodeL_drop,aL he.2.1,List.drop_drop,he.1];exact XW q (i+(gB s i).2.1) V hs.2
  rw [List.drop_eq_nil_of_le (by have:=Go.Lib.size_eq s;omega)];rfl
theorem Hu {s:ByteArray} {f i:Nat} (hf:s.size - i<=f) (hi:i < s.size):kT s f i=(i,(Utf8.decode s i).1) :: kT s (f - 1) (i+(Utf8.decode s i).2):=by
 match f,hf with
 | 0,hf=>omega
 | f+1,_=>rw [kT,aN hi];rfl
theorem CV {s:ByteArray} {f i:Nat} (hi:¬ i < s.size):kT s f i=[]:=by
 match f with
 | 0=>rfl
 | f+1=>rw [kT,aL hi]
def vD (s:ByteArray) (i:Nat):Bool:=decide (¬ (128<=iC s i∧iC s i<=191))
theorem acT {s:ByteArray} {i n:Nat} (h0:vD s i=true) (h1:∀ j,0 < j->j < n->vD s (i+j)=false) (hn:0 < n):(List.range' i n).filter (vD s)=[i]:=by
 obtain ⟨k,rfl⟩:∃ k,n=k+1:=⟨n - 1,V⟩;rw [List.range'_succ,List.filter_cons,aN h0]
 have:(List.range' (i+1) k).filter (vD s)=[]:=by
  rw [List.filter_eq_nil_iff];intro a ha;rw [List.mem_range'_1] at ha;have:=h1 (a - i) V V;rw [show i+(a - i)=a by omega] at this
  simp [this]
 rw [this]
theorem RD {s:ByteArray}:∀ (q i f:Nat),s.size - i<=q->s.size - i<=f->iN s i < 0->i<=s.size->(List.range' i (s.size - i)).filter (vD s)=(kT s f i).map (·.1)
 | 0,i,f,hq,_,_,_=>by rw [CV V,show s.size - i=0 by omega];rfl
 | q+1,i,f,hq,hf,h,hle=>by
  by_cases hi:i < s.size
  ·have hs:=tH h hi;have hd:=AY h hi;have he:=zH hi hs.1;obtain ⟨n,hn⟩:∃ n,n=(gB s i).2.1:=⟨_,O⟩;rw [<- hn] at hs hd he;rw [Hu hf hi,gV,he.1,<- RD q (i+n) (f - 1) V V hs.2 V];rw [show s.size - i=n+(s.size - (i+n)) by omega,<- List.range'_append_1,List.filter_append]
   rw [acT (by simp only [vD,dU];exact he.2.2.2) (fun j h1 h2=>by
    have:=he.2.2.1 j h1 h2
    simp only [vD,pQ,DC];exact this.2) hd.1]
   rfl
  rw [CV V,show s.size - i=0 by omega];rfl
def Kg (s:ByteArray):List Nat:=(iD s).map (·.1)++[s.size]
def yG (s:ByteArray):List Nat:=(List.range s.size).filter (vD s)++[s.size]
theorem RB {s:ByteArray} (hv:gq s=true):yG s=Kg s:=by
 have hf:iN s 0 < 0:=by simpa [gq] using hv
 rw [yG,Kg,iD,<- RD _ 0 s.size (bS _) V hf (fC _),List.range_eq_range']
 rfl
theorem acp (r:Nat):(Utf8.encode (r:Int)).data.toList=Go.Lib.encodeRune (r:Int):=by
 have big:∀ x:Nat,(x:Int).toNat=x:=fun x=>Int.toNat_natCast x
 unfold Utf8.encode Go.Lib.encodeRune
 simp only
 by_cases c1:r<=127
 ·have hv:Utf8.valid (r:Int)=true:=by simp only [Utf8.valid,Bool.or_eq_true,iG,dU];omega
  rw [aN hv,Go.Lib.encodeRuneZ_one V V,big,dS]
  rfl
 by_cases c2:r<=2047
 ·have hv:Utf8.valid (r:Int)=true:=by simp only [Utf8.valid,Bool.or_eq_true,iG,dU];omega
  rw [aN hv,Go.Lib.encodeRuneZ_two V V,big,aZ,dS]
  simp only [gV,tY]
  rw [show (192+(r:Int) / 64).toNat=192+r / 64 by omega,show (128+(r:Int) % 64).toNat=128+r % 64 by omega]
 by_cases c3:r<=65535∧¬ (55296<=r∧r<=57343)
 ·have hv:Utf8.valid (r:Int)=true:=by simp only [Utf8.valid,Bool.or_eq_true,iG,dU];omega
  rw [aN hv,Go.Lib.encodeRuneZ_three V,big,aZ,aZ,dS]
  simp only [gV,tY]
  rw [show (224+(r:Int) / 4096).toNat=224+r / 4096 by omega,show (128+(r:Int) / 64 % 64).toNat=128+r / 64 % 64 by omega,show (128+(r:Int) % 64).toNat=128+r % 64 by omega]
 by_cases c4:65536<=r∧r<=1114111
 ·have hv:Utf8.valid (r:Int)=true:=by simp only [Utf8.valid,Bool.or_eq_true,iG,dU];omega
  rw [aN hv,Go.Lib.encodeRuneZ_four V V,big,aZ,aZ,aZ]
  simp only [gV,tY]
  rw [show (240+(r:Int) / 262144).toNat=240+r / 262144 by omega,show (128+(r:Int) / 4096 % 64).toNat=128+r / 4096 % 64 by omega,show (128+(r:Int) / 64 % 64).toNat=128+r / 64 % 64 by omega,show (128+(r:Int) % 64).toNat=128+r % 64 by omega]
 have hv:¬ Utf8.valid (r:Int)=true:=by simp only [Utf8.valid,Bool.or_eq_true,iG,dU];omega
 rw [aL hv,Go.Lib.encodeRuneZ_bad V]
 decide
theorem aco {s:ByteArray} {i:Nat} (h:iN s i < 0) (hi:i < s.size):(Utf8.encode ((Utf8.decode s i).1:Int)).data.toList=(s.data.toList.drop i).take (Utf8.decode s i).2:=by
 have hne:s.data.toList.drop i≠[]:=by
  intro e;have:=gZ List.length e;rw [List.length_drop,<- Go.Lib.size_eq] at this
  simp at this;omega
 have he:=zH hi (tH h hi).1;have h1:=Go.Lib.encode_decode _ hne (by rw [Go.Lib.decodeL_drop];exact he.2.1);rw [Go.Lib.decodeL_drop] at h1;rw [<- h1,acp]
theorem WG:∀ (ns:List Int) (b:ByteArray),(ns.foldl (fun r n=>r++Utf8.encode n) b).data.toList=b.data.toList++ns.flatMap fun n=>(Utf8.encode n).data.toList
 | [],b=>by simp
 | n :: ns,b=>by
  rw [List.foldl_cons,WG ns]
  simp [ByteArray.data_append]
theorem agy (ns:List Int):(runesBytes ns).data.toList=ns.flatMap fun n=>(Utf8.encode n).data.toList:=by
 rw [runesBytes,WG];rfl
def iK (s:ByteArray):Nat->Nat->Nat
 | i,0=>i
 | i,j+1=>if i < s.size then iK s (i+(Utf8.decode s i).2) j else i
theorem Dz {s:ByteArray}:∀ (j i:Nat),iN s i < 0->i<=s.size->i<=iK s i j∧iK s i j<=s.size
 | 0,i,_,h=>⟨bS _,h⟩
 | j+1,i,hf,h=>by
  rw [iK]
  split
  ·rename_i hi
   have hd:=AY hf hi;have he:=zH hi (tH hf hi).1;have:=Dz j (i+(Utf8.decode s i).2) (by rw [he.1];exact (tH hf hi).2) V
   omega
  omega
theorem Ru {s:ByteArray}:∀ (j i f:Nat),s.size - i<=f->iN s i < 0->i<=s.size->j<=(kT s f i).length->((kT s f i).map (·.1)++[s.size])[j]?=some (iK s i j)
 | j,i,f,hf,h,hle,hj=>by
  by_cases hi:i < s.size
  ·have hd:=AY h hi;have he:=zH hi (tH h hi).1;rw [Hu hf hi] at hj |-
   cases j with
   | zero=>rfl
   | succ j =>
    rw [iK,aN hi,gV,nU,List.getElem?_cons_succ];exact Ru j (i+(Utf8.decode s i).2) (f - 1) V (by rw [he.1];exact (tH h hi).2) V (by simpa using hj)
  rw [CV hi] at hj |-
  simp at hj;subst hj
  have:i=s.size:=by omega
  simp [iK,this]
theorem XR {s:ByteArray}:∀ (j i f:Nat),s.size - i<=f->iN s i < 0->i<=s.size->(((kT s f i).take j).map fun x=>(x.2:Int)).flatMap (fun n=>(Utf8.encode n).data.toList)=(s.data.toList.drop i).take (iK s i j - i)
 | 0,i,f,_,_,_=>by simp [iK]
 | j+1,i,f,hf,h,hle=>by
  by_cases hi:i < s.size
  ·have hd:=AY h hi;have he:=zH hi (tH h hi).1
   have hs2:iN s (i+(Utf8.decode s i).2) < 0:=by rw [he.1];exact (tH h hi).2
   have ha:=Dz j (i+(Utf8.decode s i).2) hs2 V;rw [Hu hf hi,List.take_succ_cons,gV,List.flatMap_cons,aco h hi,XR j (i+(Utf8.decode s i).2) (f - 1) V hs2 V,iK,aN hi,<- List.drop_drop,<- List.take_add]
   congr 1;omega
  rw [CV hi,iK,aL hi];simp
theorem Wq {s:ByteArray}:∀ (u i f:Nat),s.size - i<=f->iN s i < 0->i<=s.size->∃ g,s.size - iK s i u<=g∧(kT s f i).drop u=kT s g (iK s i u)
 | 0,i,f,hf,_,_=>⟨f,hf,O⟩
 | u+1,i,f,hf,h,hle=>by
  by_cases hi:i < s.size
  ·have hd:=AY h hi;have he:=zH hi (tH h hi).1;rw [Hu hf hi,iK,aN hi,List.drop_succ_cons];exact Wq u (i+(Utf8.decode s i).2) (f - 1) V (by rw [he.1];exact (tH h hi).2) V
  rw [CV hi,iK,aL hi];exact ⟨0,V,by simp [kT]⟩
theorem Me {s:ByteArray}:∀ (u i:Nat),iN s i < 0->i<=s.size->iN s (iK s i u) < 0
 | 0,i,h,_=>h
 | u+1,i,h,hle=>by
  rw [iK];split
  ·rename_i hi
   have hd:=AY h hi;have he:=zH hi (tH h hi).1;exact Me u _ (by rw [he.1];exact (tH h hi).2) V
  exact h
theorem Md {s:ByteArray}:∀ (u i v:Nat),iK s i (u+v)=iK s (iK s i u) v
 | 0,i,v=>by rw [eH];rfl
 | u+1,i,v=>by
  rw [show u+1+v=(u+v)+1 by omega,iK,iK]
  split
  ·exact Md u _ v
  rename_i hi
  cases v with
  | zero=>rfl
  | succ v=>rw [iK,aL hi]
theorem acG (s:ByteArray) (a b:Nat):(s.extract a b).data.toList=(s.data.toList.drop a).take (b - a):=by
 simp [ByteArray.data_extract]
theorem aix {s:ByteArray} (hv:gq s=true) {u v:Nat} (huv:u<=v):runesBytes ((((iD s).map fun x=>(x.2:Int)).drop u).take (v - u))=s.extract (iK s 0 u) (iK s 0 v):=by
 have hf:iN s 0 < 0:=by simpa [gq] using hv
 obtain ⟨g,hg,e⟩:=Wq u 0 s.size V hf (fC _);have ha:=Dz u 0 hf (fC _);have hok:=Me u 0 hf (fC _);have h1:=XR (v - u) (iK s 0 u) g hg hok ha.2;rw [<- Md,show u+(v - u)=v by omega] at h1
 have h2:(runesBytes ((((iD s).map fun x=>(x.2:Int)).drop u).take (v - u))).data.toList=(s.extract (iK s 0 u) (iK s 0 v)).data.toList:=by
  rw [agy,<- List.map_drop,<- List.map_take,iD,e,h1,acG]
 exact ByteArray.ext (Array.ext' h2)
theorem VR {s:ByteArray} (hv:gq s=true) {u:Nat} (hu:u<=(iD s).length):(Kg s)[u]?=some (iK s 0 u):=by
 have hf:iN s 0 < 0:=by simpa [gq] using hv
 exact Ru u 0 s.size V hf (fC _) hu
theorem pI:Ty prog 41 1 24 [.slice none 0 0] false:=⟨Z,Z⟩
theorem bP:Ty prog 40 1 24 [.slice none 0 0] false:=⟨Z,Z⟩
theorem iE:prog.underlying 41=some (.slice 40):=by kernel_rfl
theorem cB:prog.underlying 40=some (.slice 3):=by kernel_rfl
theorem abj:bL 26:=bN func26 O
def gJ (k:Int):List Dat:=[li k]
theorem ny (G:GH) (k:Int):aY G (gJ k) [vi k]:=by
 simp only [gJ,aY]
 exact ⟨_,_,O,by simp [aF,Value.oneCell'],O⟩
theorem afO {G:GH} {k:Int} {cs:List ak} (h:aY G (gJ k) cs):cs=[vi k]:=by
 simp only [gJ,aY,aF] at h
 obtain ⟨v1,_,rfl,⟨rfl,-⟩,rfl⟩:=h
 rfl
def nD (r:List Int):List Dat:=[.sl 1 (r.map gJ)]
theorem rU {G:GH} {r:List Int} {A:Option Addr} {n c k:Nat} (hv:aF G (.sl 1 (r.map gJ)) (.slice A n c)) (hk:k < r.length):∃ b o,A=some ⟨b,o,none⟩∧aS G b (o+k*1)=some (vi r[k]):=by
 obtain ⟨A',c',he,_,_,hg⟩:=hv.slice
 injection he with e1 e2 e3
 subst e1;obtain ⟨b,o,cs,h1,h2,h3,h4⟩:=hg k (gJ r[k]) (by simp [hk]);obtain rfl:=afO h4;exact ⟨b,o,h1,h3 0 _ O⟩
theorem Ac {G:GH} {S:List (List Int)} {A:Option Addr} {n c i:Nat} (hv:aF G (.sl 1 (S.map nD)) (.slice A n c)) (hi:i < S.length):∃ b o bA bc,A=some ⟨b,o,none⟩∧aS G b (o+i*1)=some (.slice bA S[i].length bc)∧aF G (.sl 1 (S[i].map gJ)) (.slice bA S[i].length bc):=by
 obtain ⟨A',c',he,_,_,hg⟩:=hv.slice
 injection he with e1 e2 e3
 subst e1;obtain ⟨b,o,cs,h1,h2,h3,h4⟩:=hg i (nD S[i]) (by simp [hi])
 simp only [nD,aY] at h4
 obtain ⟨v,_,rfl,h5,rfl⟩:=h4;obtain ⟨bA,bn,bc,rfl⟩:=h5.form;obtain ⟨_,_,NW,-⟩:=h5.slice;obtain ⟨-,hn,-⟩:=Value.slice.inj NW;rw [bJ] at hn;subst hn;exact ⟨b,o,bA,bc,h1,h3 0 _ O,h5⟩
def bI (S:List (List Int)) (i k:Nat):Int:=(S.getD i []).getD k 0
theorem EC {S:List (List Int)} {i k:Nat} (hi:i < S.length) (hk:k < S[i].length):bI S i k=S[i][k]:=by
 simp [bI,List.getD,hi,hk]
def tot (s:Nat->Nat->Int) (n m i k:Nat):Int :=
 if h:i < n∧k < m then max (max (tot s n m (i+1) k) (tot s n m i (k+1))) (if s i k < 400 then -1 else s i k+tot s n m (i+1) (k+1)) else 0
termination_by (n - i)+(m - k)
theorem Qi {s:Nat->Nat->Int} {n m i k:Nat} (hi:i < n) (hk:k < m):tot s n m i k=max (max (tot s n m (i+1) k) (tot s n m i (k+1))) (if s i k < 400 then -1 else s i k+tot s n m (i+1) (k+1)):=by
 rw [tot,dif_pos ⟨hi,hk⟩]
theorem ER {s:Nat->Nat->Int} {n m i k:Nat} (h:¬ (i < n∧k < m)):tot s n m i k=0:=by rw [tot,dif_neg h]
theorem EP {s:Nat->Nat->Int} {n m:Nat} (hs:∀ i k,i < n->k < m->s i k<=1000):∀ (q i k:Nat),(n - i)+(m - k)<=q->0<=tot s n m i k∧tot s n m i k<=1000*((n - i:Nat):Int)
 | 0,i,k,h=>by rw [ER V];omega
 | q+1,i,k,h=>by
  by_cases hik:i < n∧k < m
  ·rw [Qi hik.1 hik.2];have h1:=EP hs q (i+1) k V;have h2:=EP hs q i (k+1) V;have h3:=EP hs q (i+1) (k+1) V;have h4:=hs i k hik.1 hik.2
   split <;> omega
  rw [ER hik];omega
structure jJ where
 a:Int
 b:Int
 score:Int
def jJ.dat (x:jJ):List Dat:=[li x.a,li x.b,li x.score]
theorem VB (G:GH) (x:jJ):aY G x.dat [vi x.a,vi x.b,vi x.score]:=by
 simp only [jJ.dat,aY]
 exact ⟨_,_,O,by simp [aF,Value.oneCell'],_,_,O,by simp [aF,Value.oneCell'],_,_,O,by simp [aF,Value.oneCell'],O⟩
theorem afo {G:GH} {x:jJ} {cs:List ak} (h:aY G x.dat cs):cs=[vi x.a,vi x.b,vi x.score]:=by
 simp only [jJ.dat,aY,aF] at h
 obtain ⟨v1,_,rfl,⟨rfl,-⟩,v2,_,rfl,⟨rfl,-⟩,v3,_,rfl,⟨rfl,-⟩,rfl⟩:=h
 rfl
def yg (s:Nat->Nat->Int) (n m i k:Nat):Int:=if s i k < 400 then -1 else s i k+tot s n m (i+1) (k+1)
def lg (s:Nat->Nat->Int) (n m i k:Nat):List jJ :=
 if h:i < n∧k < m then
  if tot s n m i k=yg s n m i k then ⟨i,k,s i k⟩ :: lg s n m (i+1) (k+1)
  else if tot s n m i k=tot s n m (i+1) k then lg s n m (i+1) k else lg s n m i (k+1)
 else []
termination_by (n - i)+(m - k)
theorem FE (s:Nat->Nat->Int) (n m:Nat):∀ (q i k:Nat),(n - i)+(m - k)<=q->(lg s n m i k).length<=n - i
 | 0,i,k,h=>by rw [lg,dif_neg V];simp
 | q+1,i,k,h=>by
  rw [lg]
  split
  ·rename_i hik
   split
   ·have:=FE s n m q (i+1) (k+1) V;simp only [ko];omega
   split
   ·have:=FE s n m q (i+1) k V;omega
   exact FE s n m q i (k+1) V
  simp
theorem aeU {W i k i' k':Nat} (hk:k < W) (hk':k' < W) (h:i*W+k=i'*W+k'):i=i'∧k=k':=by
 have h1:=gZ (· / W) h;have h2:=gZ (· % W) h
 have hW:0 < W:=by omega
 have e1:∀ a b:Nat,b < W->(a*W+b) / W=a:=fun a b hb=>by rw [Nat.mul_comm,Nat.mul_add_div hW,Nat.div_eq_of_lt hb,qD]
 have e2:∀ a b:Nat,b < W->(a*W+b) % W=b:=fun a b hb=>by rw [Nat.mul_comm,Nat.mul_add_mod,Nat.mod_eq_of_lt hb]
 simp only [e1 _ _ hk,e1 _ _ hk'] at h1
 simp only [e2 _ _ hk,e2 _ _ hk'] at h2
 exact ⟨h1,h2⟩
structure FC (G:GH) (bs bt bm bf:Nat) (S:List (List Int)) (m:Nat):Prop where
 sc:∃ A c,aS G bs 0=some (.slice A S.length c)∧aF G (.sl 1 (S.map nD)) (.slice A S.length c)
 wid:∀ r∈S,r.length=m
 tb:aS G bt 0=some (.slice (some ⟨bm,0,none⟩) (S.length+1) (S.length+1))
 rows:∀ i,i<=S.length->aS G bm i=some (.slice (some ⟨bf,i*(m+1),none⟩) (m+1) ((S.length+1)*(m+1) - i*(m+1)))
 small:S.length<=1024∧m<=1024
 ok:∀ i k,i < S.length->k < m->0<=bI S i k∧bI S i k<=1000
theorem FC.mono {G G':GH} {bs bt bm bf:Nat} {S:List (List Int)} {m:Nat} (h:FC G bs bt bm bf S m) (hm:∀ b o,G b=some o->G' b=some o):FC G' bs bt bm bf S m:=by
 obtain ⟨A,c,h1,h2⟩:=h.sc;exact ⟨⟨A,c,aK hm h1,h2.mono hm⟩,h.wid,aK hm h.tb,fun i hi=>aK hm (h.rows i hi),h.small,h.ok⟩
abbrev bF (b:Nat) (fl:List Int):Nat × Obj:=(b,.cells (fl.map vi).toArray 3 (0,0))
theorem uZ {fl:List Int} {o:Nat} {z:Int} (h:fl[o]?=some z):(fl.map vi).toArray[o]?=some (vi z):=by simp [h]
set_option maxHeartbeats 1000000 in
theorem Yb {G:GH} {w0:World} {Lx:OL} {bs bt bm bf m i k:Nat} {S:List (List Int)} {fl:List Int} {z:Int} (hT:FC G bs bt bm bf S m) (hO:jN G (bF bf fl :: Lx) w0) (hi:i < S.length) (hk:k < m) (hz:fl[(i+1)*(m+1)+(k+1)]?=some z) (hzb:0<=z∧z<=10000000) :
  uK prog (.func (.func 26) #[] #[(aJ bs 0),(aJ bt 0)]) [vi i,vi k] w0 (jO w0 G (bF bf fl :: Lx) fun u G' L'=>u=vi (if bI S i k < 400 then -1 else bI S i k+z)∧L'=bF bf fl :: Lx):=by
 refine sI (caps:=[(aJ bs 0),(aJ bt 0)]) (args:=[vi i,vi k]) abj ?_;obtain ⟨A,c,hs1,hs2⟩:=hT.sc;obtain ⟨b,o,bA,bc,rfl,g1,g2⟩:=Ac hs2 hi;have hwi:=hT.wid _ (dV hi);obtain ⟨b2,o2,rfl,g3⟩:=rU g2 (show k < S[i].length by omega);have ht:=hT.tb;have hr:=hT.rows (i+1) V;have hok:=hT.ok i k hi hk;have hsm:=hT.small;rw [<- EC hi V] at g3;rw [hwi] at g1 g2;refine mP (N:=32) (T:=[(0,_),(1,_),(2,_),(3,_)]) func26 O ntmps26 O O hO ?_;intro a H;refine kP H (SR fun _ K1=>av K1 O (SQ fun _ K2=>SR fun _ K3=>Rg pI O (by assumption) ?_));clear H K1;intro a H;refine kH H (Rm O (Ri iE bP O O (Rg bP O (by assumption) ?_)));clear H;intro a H;refine kH H (Rm O (Ri cB aC O O (Rg aC O (by assumption) ?_)));clear H;intro a H;refine kH H (Rc O (Kz K3 (Cd O ?_ ?_))) <;> clear H K3
 ·intro eD a H
  try have jC:=dT eD
  exact kP H (SR fun _ K4=>av K4 O (LR results26 O fun H=>H.hp.dP ⟨by rw [aN jC],O⟩))
 intro eD a H
 try have jC:=dF eD
 refine lV ?_;refine K2 _ _ ?_;clear K2;refine gy (fun _ K5=>?_);have H:=H.sub (T':=[(0,_),(1,_),(2,_),(3,_)]) ⟨O,O,O,O,aI⟩;refine dI hmx [[],[],[0,1],[0,1,2],[],ra 0 5,ra 0 6,[],[],[8],[7,8,9],ra 7 4,[],[12],ra 7 7,ra 7 8,ra 0 16,ra 0 17] [] Z [.slice (some ⟨b,o,none⟩) S.length c,vi i,(aJ b (o+i*1)),.slice (some ⟨b2,o2,none⟩) m bc,vi k,(aJ b2 (o2+k*1)),vi (bI S i k),.slice (some ⟨bm,0,none⟩) (S.length+1) (S.length+1),vi i,vi ((i:Int)+1),(aJ bm (0+(i+1)*1)),.slice (some ⟨bf,(i+1)*(m+1),none⟩) (m+1) ((S.length+1)*(m+1) - (i+1)*(m+1)),vi k,vi ((k:Int)+1),(aJ bf ((i+1)*(m+1)+(k+1)*1)),vi z,vi (bI S i k+z),vi (bI S i k+z)] H (aH ?_ ?_ ?_ ?_ (aH ?_ ?_ ?_ ?_ (aH ?_ ?_ ?_ ?_ (aH ?_ ?_ ?_ ?_ (eB ?_ (eB ?_ fD)))))) ?_
 ·intro ay a w G1 _ ah hc hG HT hv;have H:=HT;clear ah;have Hb:=H.full;have H:=Hb;clear hc;refine kH H (Rg pI O (aK hG hs1) ?_);clear H;intro a H;refine aj ⟨O,?_⟩;exact aB HT Hb hG hv (fun _ _ _ _ _ h=>h) H O
 ·intro ay a w G1 _ ah hc hG HT hv;have H:=HT;clear ah;have Hb:=H.full;have H:=Hb;clear hc;refine kH H (Rm O ?_);clear H;intro a H;refine aj ⟨O,?_⟩;exact aB HT Hb hG hv (fun _ _ _ _ _ h=>h) H O
 ·intro ay a w G1 _ ah hc hG HT hv;have H:=HT;clear ah;have H:=H.au (hv 0 15 (hc 0 Y) O) O;have H:=H.au (hv 1 16 (hc 1 Y) O) O;have Hb:=H.full;have H:=Hb;clear hc;refine kH H (Ri iE bP O O ?_);clear H;intro a H;refine aj ⟨O,?_⟩;exact aB HT Hb hG hv (fun _ _ _ _ _ h=>h) H O
 ·intro ay a w G1 _ ah hc hG HT hv;have H:=HT;clear ah;have H:=H.au (hv 2 17 (hc 2 Y) O) O;have Hb:=H.full;have H:=Hb;clear hc;refine kH H (Rg bP O (aK hG g1) ?_);clear H;intro a H;refine aj ⟨O,?_⟩;exact aB HT Hb hG hv (fun _ _ _ _ _ h=>h) H O
 ·intro ay a w G1 _ ah hc hG HT hv;have H:=HT;clear ah;have Hb:=H.full;have H:=Hb;clear hc;refine kH H (Rm O ?_);clear H;intro a H;refine aj ⟨O,?_⟩;exact aB HT Hb hG hv (fun _ _ _ _ _ h=>h) H O
 ·intro ay a w G1 _ ah hc hG HT hv;have H:=HT;clear ah;have H:=H.au (hv 3 18 (hc 3 Y) O) O;have H:=H.au (hv 4 19 (hc 4 Y) O) O;have Hb:=H.full;have H:=Hb;clear hc;refine kH H (Ri cB aC O O ?_);clear H;intro a H;refine aj ⟨O,?_⟩;exact aB HT Hb hG hv (fun _ _ _ _ _ h=>h) H O
 ·intro ay a w G1 _ ah hc hG HT hv;have H:=HT;clear ah;have H:=H.au (hv 5 20 (hc 5 Y) O) O;have Hb:=H.full;have H:=Hb;clear hc;refine kH H (Rg aC O (aK hG g3) ?_);clear H;intro a H;refine aj ⟨O,?_⟩;exact aB HT Hb hG hv (fun _ _ _ _ _ h=>h) H O
 ·intro ay a w G1 _ ah hc hG HT hv;have H:=HT;clear ah;have Hb:=H.full;have H:=Hb;clear hc;refine kH H (Rg pI O (aK hG ht) ?_);clear H;intro a H;refine aj ⟨O,?_⟩;exact aB HT Hb hG hv (fun _ _ _ _ _ h=>h) H O
 ·intro ay a w G1 _ ah hc hG HT hv;have H:=HT;clear ah;have Hb:=H.full;have H:=Hb;clear hc;refine kH H (Rm O ?_);clear H;intro a H;refine aj ⟨O,?_⟩;exact aB HT Hb hG hv (fun _ _ _ _ _ h=>h) H O
 ·intro ay a w G1 _ ah hc hG HT hv;have H:=HT;clear ah;have H:=H.au (hv 8 23 (hc 8 Y) O) O;have Hb:=H.full;have H:=Hb;clear hc;refine kH H (Rd O ?_);clear H;intro a H;refine aj ⟨O,?_⟩;exact aB HT Hb hG hv (fun _ _ _ _ _ h=>h) H O
 ·intro ay a w G1 _ ah hc hG HT hv;have H:=HT;clear ah;have H:=H.au (hv 7 22 (hc 7 Y) O) O;have H:=H.au (hv 9 24 (hc 9 Y) O) O;have Hb:=H.full;have H:=Hb;clear hc;refine bD iE bP (i+1) H wn O O V V O ?_;clear H;intro a H;refine aj ⟨O,?_⟩;exact aB HT Hb hG hv (fun _ _ _ _ _ h=>h) H O
 ·intro ay a w G1 _ ah hc hG HT hv;have H:=HT;clear ah;have H:=H.au (hv 10 25 (hc 10 Y) O) O;have Hb:=H.full;have H:=Hb;clear hc;refine kH H (Rg bP O (aK hG (by rw [eH,Nat.mul_one];exact hr)) ?_);clear H;intro a H;refine aj ⟨O,?_⟩;exact aB HT Hb hG hv (fun _ _ _ _ _ h=>h) H O
 ·intro ay a w G1 _ ah hc hG HT hv;have H:=HT;clear ah;have Hb:=H.full;have H:=Hb;clear hc;refine kH H (Rm O ?_);clear H;intro a H;refine aj ⟨O,?_⟩;exact aB HT Hb hG hv (fun _ _ _ _ _ h=>h) H O
 ·intro ay a w G1 _ ah hc hG HT hv;have H:=HT;clear ah;have H:=H.au (hv 12 27 (hc 12 Y) O) O;have Hb:=H.full;have H:=Hb;clear hc;refine kH H (Rd O ?_);clear H;intro a H;refine aj ⟨O,?_⟩;exact aB HT Hb hG hv (fun _ _ _ _ _ h=>h) H O
 ·intro ay a w G1 _ ah hc hG HT hv;have H:=HT;clear ah;have H:=H.au (hv 11 26 (hc 11 Y) O) O;have H:=H.au (hv 13 28 (hc 13 Y) O) O;have Hb:=H.full;have H:=Hb;clear hc;refine bD cB aC (k+1) H wn O O V V O ?_;clear H;intro a H;refine aj ⟨O,?_⟩;exact aB HT Hb hG hv (fun _ _ _ _ _ h=>h) H O
 ·intro ay a w G1 _ ah hc hG HT hv;have H:=HT;clear ah;have H:=H.au (hv 14 29 (hc 14 Y) O) O;have Hb:=H.full;have H:=Hb;clear hc;refine iU aC H wn O (H.hp.gK 0 O (by rw [Nat.mul_one];exact uZ hz)) O ?_;clear H;intro a H;refine aj ⟨O,?_⟩;exact aB HT Hb hG hv (fun _ _ _ _ _ h=>h) H O
 ·intro ay a w G1 _ ah hc hG HT hv;have H:=HT;clear ah;have H:=H.au (hv 6 21 (hc 6 Y) O) O;have H:=H.au (hv 15 30 (hc 15 Y) O) O;have Hb:=H.full;have H:=Hb;clear hc;refine kH H (Rd O ?_);clear H;intro a H;refine aj ⟨O,?_⟩;exact aB HT Hb hG hv (fun _ _ _ _ _ h=>h) H O
 ·intro ay a w G1 _ ah hc hG HT hv;have H:=HT;clear ah;have H:=H.au (hv 16 31 (hc 16 Y) O) O;have Hb:=H.full;have H:=Hb;clear hc;refine kH H (Ra O ?_);clear H;intro a H;refine aj ⟨O,?_⟩;exact aB HT Hb hG hv (fun _ _ _ _ _ h=>h) H O
 clear H;intro a w G adq H hv;have H:=H.au (hv 17 6 O O) O;clear hv;refine aj ⟨O,?_⟩;refine K5 _ _ ?_;clear K5;refine lr H results26 O ?_;exact H.hp.dP ⟨by rw [aL jC],O⟩
theorem rY:prog.underlying 205=some (.slice 230):=by kernel_rfl
theorem BF:Ty prog 230 3 24 [.int .i64 0,.int .i64 0,.int .i64 0] true:=⟨Z,Z⟩
theorem ahF:sD prog 230 [(0,1),(1,1),(2,1)] [.int .i64 0,.int .i64 0,.int .i64 0]:=⟨Z,Z⟩
theorem Dl:prog.underlying 165=some (.slice 189):=by kernel_rfl
theorem BD:Ty prog 189 3 24 [.int .i64 0,.int .i64 0,.int .i64 0] true:=⟨Z,Z⟩
theorem Xi:sD prog 189 [(0,1),(1,1),(2,1)] [.int .i64 0,.int .i64 0,.int .i64 0]:=⟨Z,Z⟩
theorem ace:bL 90:=bN func90 O
theorem acf:bL 91:=bN func91 O
structure gQ where
 low:Int
 high:Int
 cls:Int
def gQ.dat (x:gQ):List Dat:=[li x.low,li x.high,li x.cls]
def gQ.cells (x:gQ):List ak:=[vi x.low,vi x.high,vi x.cls]
theorem ahB (G:GH) (x:gQ):aY G x.dat x.cells:=by
 simp only [gQ.dat,gQ.cells,aY]
 exact ⟨_,_,O,by simp [aF,Value.oneCell'],_,_,O,by simp [aF,Value.oneCell'],_,_,O,by simp [aF,Value.oneCell'],O⟩
theorem Xe (G:GH):∀ (B A:List gQ),cO G 3 (A.map gQ.dat) (A.map gQ.cells).flatten->cO G 3 ((A++B).map gQ.dat) ((A++B).map gQ.cells).flatten
 | [],A,h=>by rw [lU];exact h
 | x :: B,A,h=>by
  have h2:=h.snoc (ahB G x) O;have h3:=Xe G B (A++[x]) (by simpa using h2)
  simpa using h3
theorem PU (G:GH) (A:List gQ):cO G 3 (A.map gQ.dat) (A.map gQ.cells).flatten:=Xe G A [] cO.nil
theorem ahA {G:GH} {x:gQ} {cs:List ak} (h:aY G x.dat cs):cs=x.cells:=by
 simp only [gQ.dat,aY,aF] at h
 obtain ⟨v1,_,rfl,⟨rfl,-⟩,v2,_,rfl,⟨rfl,-⟩,v3,_,rfl,⟨rfl,-⟩,rfl⟩:=h
 rfl
theorem EJ {G:GH} {l:List gQ} {A:Option Addr} {n c k:Nat} (hv:aF G (.sl 3 (l.map gQ.dat)) (.slice A n c)) (hk:k < l.length):∃ b o,A=some ⟨b,o,none⟩∧(∀ j u,l[k].cells[j]?=some u->aS G b (o+k*3+j)=some u):=by
 obtain ⟨A',c',he,_,_,hg⟩:=hv.slice
 injection he with e1 e2 e3
 subst e1;obtain ⟨b,o,cs,h1,h2,h3,h4⟩:=hg k l[k].dat (by simp [hk]);obtain rfl:=ahA h4;exact ⟨b,o,h1,h3⟩
theorem aW.all {e sz b n:Nat} {xs:List ak} (h:xs.length=n*sz) (hn:n<=maxLen):aW e sz (.slice (some ⟨b,0,none⟩) n n) n xs [(b,.cells xs.toArray e (0,0))] :=
 ⟨h,.inr ⟨b,n,xs.toArray,rfl,rfl,bS _,hn,by simp [h],by simp [<- h]⟩⟩
def xB:List gQ:=[⟨0,9,3⟩,⟨10,10,2⟩,⟨11,12,3⟩,⟨13,13,1⟩,⟨14,31,3⟩,⟨127,159,3⟩,⟨169,169,14⟩,⟨173,173,3⟩,⟨174,174,14⟩,⟨768,879,4⟩,⟨1155,1161,4⟩,⟨1425,1469,4⟩,⟨1471,1471,4⟩,⟨1473,1474,4⟩,⟨1476,1477,4⟩,⟨1479,1479,4⟩,⟨1536,1541,6⟩,⟨1552,1562,4⟩,⟨1611,1631,4⟩,⟨1648,1648,4⟩,⟨1750,1756,4⟩,⟨1757,1757,6⟩,⟨1759,1764,4⟩,⟨1767,1768,4⟩,⟨1770,1773,4⟩,⟨1807,1807,6⟩,⟨2274,2274,6⟩,⟨2307,2307,7⟩,⟨2362,2362,4⟩,⟨2363,2363,7⟩,⟨2364,2364,4⟩,⟨2366,2368,7⟩,⟨2369,2376,4⟩,⟨2377,2380,7⟩,⟨2381,2381,4⟩,⟨2382,2383,7⟩,⟨3633,3633,4⟩,⟨3635,3635,7⟩,⟨3636,3642,4⟩,⟨3655,3662,4⟩,⟨3763,3763,7⟩,⟨4352,4447,8⟩,⟨4448,4519,9⟩,⟨4520,4607,10⟩,⟨6832,6911,4⟩,⟨7616,7679,4⟩,⟨8203,8203,3⟩,⟨8204,8204,4⟩,⟨8205,8205,5⟩,⟨8206,8207,3⟩,⟨8232,8238,3⟩,⟨8252,8252,14⟩,⟨8265,8265,14⟩,⟨8288,8303,3⟩,⟨8400,8447,4⟩,⟨8482,8482,14⟩,⟨8505,8505,14⟩,⟨8596,8601,14⟩,⟨8617,8618,14⟩,⟨8986,8987,14⟩,⟨9193,9203,14⟩,⟨9728,9732,14⟩,⟨9748,9749,14⟩,⟨9786,9786,14⟩,⟨9800,9811,14⟩,⟨9989,9989,14⟩,⟨9992,9997,14⟩,⟨10024,10024,14⟩,⟨10084,10084,14⟩,⟨10133,10135,14⟩,⟨11088,11088,14⟩,⟨12330,12335,4⟩,⟨12441,12442,4⟩,⟨43360,43388,8⟩,⟨55216,55238,9⟩,⟨55243,55291,10⟩,⟨65024,65039,4⟩,⟨65056,65071,4⟩,⟨65279,65279,3⟩,⟨65520,65531,3⟩,⟨69821,69821,6⟩,⟨126976,127231,14⟩,⟨127462,127487,13⟩,⟨127744,127994,14⟩,⟨127995,127999,4⟩,⟨128000,128591,14⟩,⟨128640,128767,14⟩,⟨129280,129535,14⟩,⟨129648,129791,14⟩,⟨917504,917535,3⟩,⟨917536,917631,4⟩,⟨917632,917759,3⟩,⟨917760,917999,4⟩,⟨918000,921599,3⟩]
def KA:List gQ:=[⟨9,9,2⟩,⟨10,13,1⟩,⟨29,29,1⟩,⟨32,32,2⟩,⟨33,33,9⟩,⟨39,39,11⟩,⟨40,40,8⟩,⟨41,41,9⟩,⟨44,44,10⟩,⟨45,45,12⟩,⟨46,46,10⟩,⟨48,57,6⟩,⟨58,59,9⟩,⟨63,63,9⟩,⟨65,90,5⟩,⟨91,91,8⟩,⟨93,93,9⟩,⟨95,95,5⟩,⟨97,122,5⟩,⟨123,123,8⟩,⟨125,125,9⟩,⟨133,133,1⟩,⟨160,160,3⟩,⟨170,170,5⟩,⟨171,171,8⟩,⟨173,173,4⟩,⟨181,181,5⟩,⟨183,183,11⟩,⟨186,186,5⟩,⟨187,187,9⟩,⟨192,214,5⟩,⟨216,246,5⟩,⟨248,687,5⟩,⟨880,883,5⟩,⟨886,887,5⟩,⟨891,893,5⟩,⟨895,895,5⟩,⟨902,902,5⟩,⟨904,1153,5⟩,⟨1162,1327,5⟩,⟨1329,1366,5⟩,⟨1377,1415,5⟩,⟨1488,1514,5⟩,⟨1568,1610,5⟩,⟨1632,1641,6⟩,⟨1643,1643,10⟩,⟨1649,1747,5⟩,⟨1776,1785,6⟩,⟨2308,2361,5⟩,⟨2392,2401,5⟩,⟨2406,2415,6⟩,⟨3585,3632,5⟩,⟨3648,3654,5⟩,⟨3664,3673,6⟩,⟨4256,4351,5⟩,⟨4352,4607,5⟩]
def Pv:List gQ:=[⟨5760,5760,2⟩,⟨7680,8191,5⟩,⟨8192,8198,2⟩,⟨8199,8199,3⟩,⟨8200,8202,2⟩,⟨8208,8208,12⟩,⟨8211,8211,12⟩,⟨8212,8212,13⟩,⟨8216,8216,8⟩,⟨8217,8217,11⟩,⟨8220,8220,8⟩,⟨8221,8221,9⟩,⟨8230,8230,9⟩,⟨8232,8233,1⟩,⟨8239,8239,3⟩,⟨8287,8287,2⟩,⟨8288,8288,3⟩,⟨12288,12288,2⟩,⟨12289,12290,9⟩,⟨12296,12296,8⟩,⟨12297,12297,9⟩,⟨12298,12298,8⟩,⟨12299,12299,9⟩,⟨12300,12300,8⟩,⟨12301,12301,9⟩,⟨12302,12302,8⟩,⟨12303,12303,9⟩,⟨12304,12304,8⟩,⟨12305,12305,9⟩,⟨12308,12308,8⟩,⟨12309,12309,9⟩,⟨12353,12438,7⟩,⟨12449,12538,7⟩,⟨12549,12591,7⟩,⟨13312,19903,7⟩,⟨19968,40959,7⟩,⟨44032,55203,5⟩,⟨63744,64255,7⟩,⟨65279,65279,3⟩,⟨65296,65305,6⟩,⟨127744,128591,7⟩,⟨128640,128767,7⟩,⟨129280,129535,7⟩,⟨131072,195103,7⟩]
def qj:List gQ:=KA++Pv
set_option maxRecDepth 20000 in
theorem adl (G:GH) (w0:World) (hG:Hold G w0):Calls prog 106 #[] w0 (bQ w0 G fun u G'=>aF G' (.sl 3 (xB.map gQ.dat)) u):=by
 refine eN [] func106 O ntmps106 O O hG ?_;intro a H;refine kP H (SR fun _ K1=>av K1 O (SR fun _ K2=>?_));clear H K1;intro a H;(iterate 94 refine ku ahF [_,_,_] H wn O O O O ?_;clear H;intro a H);refine KE rY BF (xB.map gQ.cells) H wn O O O O O O O ?_;clear H;intro b95 a w ajO H;refine kH H (av K2 O ?_);clear H K2;intro a H;refine lr H results106 O ?_;obtain ⟨Gz,hmz,hbz,H⟩:=H.kE;exact H.rt (aF.rV (n:=94) (cap:=94) hbz O (bS _) (show 94<=maxLen by decide) (gG (bS _)) (PU _ _))
set_option maxRecDepth 20000 in
theorem ahv (G:GH) (w0:World) (hO:jN G [] w0):Calls prog 90 #[] w0 (jO w0 G [] fun u G' L'=>G=G'∧aW 189 3 u 56 (KA.map gQ.cells).flatten L'):=by
 refine mP (N:=58) (T:=[]) func90 O ntmps90 O O hO ?_;intro a H;refine kP H (SR fun _ K1=>av K1 O (SR fun _ K2=>?_));clear H K1;intro a H;(iterate 56 refine ku Xi [_,_,_] H wn O O O O ?_;clear H;intro a H);refine KE Dl BD (KA.map gQ.cells) H wn O O O O O O O ?_;clear H;intro Zb a w adK H;exact kH H (av K2 O (LR results90 O fun H=>H.hp.dP ⟨O,aW.all O Y⟩))
theorem ahl (G:GH) (w0:World) (hG:Hold G w0):Calls prog 91 #[] w0 (bQ w0 G fun u G'=>aF G' (.sl 3 (Pv.map gQ.dat)) u):=by
 refine eN [] func91 O ntmps91 O O hG ?_;intro a H;refine kP H (SR fun _ K1=>av K1 O (SR fun _ K2=>?_));clear H K1;intro a H;(iterate 44 refine ku Xi [_,_,_] H wn O O O O ?_;clear H;intro a H);refine KE Dl BD (Pv.map gQ.cells) H wn O O O O O O O ?_;clear H;intro Za a w adJ H;refine kH H (av K2 O ?_);clear H K2;intro a H;refine lr H results91 O ?_;obtain ⟨Gz,hmz,hbz,H⟩:=H.kE;exact H.rt (aF.rV (n:=44) (cap:=44) hbz O (bS _) (show 44<=maxLen by decide) (gG (bS _)) (PU _ _))
theorem ahJ (G:GH) (w0:World) (hG:Hold G w0):Calls prog 76 #[] w0 (bQ w0 G fun u G'=>aF G' (.sl 3 (qj.map gQ.dat)) u):=by
 have hml:maxLen=9223372036854775807:=rfl;refine eN [] func76 O ntmps76 O O hG ?_;intro a H;refine kP H (SR fun _ K1=>av K1 O (SR fun _ K2=>?_));clear H K1;intro a H;refine jT ace (Li:=[]) (L:=[]) H wn O (ahv _ _ (Hp.owns (Li:=[]) H.hp)) O ?_;clear H;rintro v1 _ L1 a w ⟨rfl,hrw⟩ - H;dsimp only [List.nil_append] at H;refine s_call acf H wn O (ahl _ _ H.ro) O ?_;clear H;rintro v2 G2 a w hrep hm2 H;obtain ⟨A2,c2,rfl,-,-,-⟩:=hrep.slice;refine WI (Li:=[]) (Lo:=L1) Dl BD O O H wn O O hrw hrep Y Y O ?_;clear H;intro v3 Lo3 akl a w hrw3 NT H;dsimp only [List.nil_append] at H;refine kH H (av K2 O ?_);clear H K2;intro a H;refine lr H results76 O ?_;obtain ⟨Gr,hmr,yN,H⟩:=St.kF (Li:=[]) H hrw3 (rows:=qj.map gQ.dat) (by rfl) (by rw [qj,jw];exact (PU _ KA).append NT);exact H.rt yN
theorem KW:prog.underlying 151=some (.int .u64):=by kernel_rfl
theorem tC:Ty prog 205 1 24 [.slice none 0 0] false:=⟨Z,Z⟩
theorem acO:gL prog 230 1 1:=⟨Z⟩
theorem Td:bL 120:=bN func120 O
theorem Jg:gL prog 230 0 0:=⟨Z⟩
theorem TI:gL prog 230 2 2:=⟨Z⟩
theorem aaZ:bL 121:=bN func121 O
theorem XT {z:Int} (h1:0<=z) (h2:z < 18446744073709551616):IntKind.u64.wrap z=z:=by
 simp only [IntKind.wrap,IntKind.bits,IntKind.signed,Bool.false_and,yD,if_false]
 omega
theorem Xa (n:Nat):((n:Nat):Int).fdiv (2 ^ 1)=((n / 2:Nat):Int):=by
 rw [Int.fdiv_eq_ediv_of_nonneg _ Y];omega
def bs (p:Nat->Bool):Nat->Nat->Nat->Nat
 | 0,i,_=>i
 | f+1,i,j=>if i < j then (if p ((i+j) / 2) then bs p f i ((i+j) / 2) else bs p f ((i+j) / 2+1) j) else i
theorem RQ {p:Nat->Bool} {f i j:Nat} (hf:j - i<=f) (h:i < j):bs p f i j=if p ((i+j) / 2) then bs p (f - 1) i ((i+j) / 2) else bs p (f - 1) ((i+j) / 2+1) j:=by
 match f,hf with
 | 0,hf=>omega
 | f+1,_=>rw [bs,aN h];rfl
theorem RP {p:Nat->Bool} {f i j:Nat} (h:¬ i < j):bs p f i j=i:=by
 match f with
 | 0=>rfl
 | f+1=>rw [bs,aL h]
theorem W9 (G:GH) (w0:World) (hG:Hold G w0) (n:Nat) (p:Nat->Bool) (fv:ak) (hn:n<=4294967296) (hf:∀ (i:Nat) (G1:GH) (w1:World),i < n->(∀ b o,G b=some o->G1 b=some o)->Hold G1 w1->uK prog fv [vi i] w1 (bQ w1 G1 fun u G'=>u=.bool (p i))) :
  Calls prog 120 #[vi n,fv] w0 (bQ w0 G fun u G'=>u=vi (bs p n 0 n)):=by
 refine eN [(0,_),(1,_)] func120 O ntmps120 O O hG ?_;intro a H;refine kP H (SR fun _ K1=>av K1 O (SR fun _ K2=>Rm O (Ra O (av K2 O (SQ fun _ K3=>SB ?_)))));clear H K1 K2;intro a H;skip;refine dY (ι:=Nat × Nat × Nat × GH) (Tc:=[(1,_)]) (Lc:=[]) (fun gh=>[(5,vi gh.1),(6,vi gh.2.1)]) (fun gh=>[]) (fun gh=>gh.2.2.2) (fun gh=>gh.1<=gh.2.1∧gh.2.1<=n∧gh.2.1 - gh.1<=gh.2.2.1∧bs p gh.2.2.1 gh.1 gh.2.1=bs p n 0 n∧(∀ b o,G b=some o->gh.2.2.2 b=some o)) (fun gh=>gh.2.1 - gh.1) ((0,n,n,G)) (by exact H.sub ⟨O,O,O,aI⟩) ?_ ?_
 ·exact ⟨fC _,bS _,Nat.sub_le _ _,O,fun _ _ h=>h⟩
 clear H;rintro ⟨i,j,f,g⟩ a w hI H;dsimp only at hI H;obtain ⟨hij,hj,hf1,heq,hgm⟩:=hI;dsimp only [lca,bW] at H;refine kP H (SQ fun _ K4=>SR fun _ K5=>Rm O (Rm O (Rc O (Kz K5 (Cd O ?_ ?_))))) <;> clear H K5
 ·intro h11 a H
  try have oI:=dT h11
  have hlt:i < j:=by omega
  rw [RQ hf1 hlt] at heq;refine kP H (Kc K4 (SB (SR fun _ K6=>Rm O (Rm O (Rd O ?_)))));clear H K4;intro a H;rw [show ((i:Int)+(j:Int))=((i+j:Nat):Int) by push_cast;rfl] at H;refine Bv ((i+j:Nat):Int) KW Am H wn O (XT V V) O ?_;clear H;intro a H;refine PE _ H wn O O O Y O ?_;clear H;intro a H;rw [Xa] at H;refine Bv (((i+j) / 2:Nat):Int) Am KW H wn O (Aa V V) O ?_;clear H;intro a H;refine kH H (av K6 O (SR fun _ K7=>Rm O (Rm O ?_)));clear H K6;intro a H;refine yV H wn O O (hf ((i+j) / 2) _ _ V hgm H.ro) O ?_;clear H;rintro v20 zm a w rfl Cv H;refine kH H (Rn O (Kz K7 (Cd O ?_ ?_))) <;> clear H K7
  ·intro h21 a H
   try have mH:=dT h21
   rw [aL (by simpa using h21)] at heq;refine kP H (SC (Rm O (Rd O (Ra O ?_))));clear H;intro a H;refine aj ?_;refine bE (((i+j) / 2+1,j,f - 1,zm)) (by exact H.sub ⟨O,O,O,aI⟩) ?_
   (try dsimp only);exact ⟨V,hj,V,heq,fun b o h=>Cv b o (hgm b o h)⟩
  intro h21 a H
  try have mH:=dF h21
  rw [aN (by simpa using h21)] at heq;refine kP H (SC (Rm O (Ra O ?_)));clear H;intro a H;refine aj ?_;refine bE ((i,(i+j) / 2,f - 1,zm)) (by exact H.sub ⟨O,O,O,aI⟩) ?_
  (try dsimp only);exact ⟨V,V,V,heq,fun b o h=>Cv b o (hgm b o h)⟩
 intro h11 a H
 try have oI:=dF h11
 refine dJ ?_;refine K3 _ _ ?_;clear K3;exact kP H (SR fun _ K8=>Rm O (av K8 O (LR results120 O fun H=>H.rt (by rw [<- heq,RP V]))))
def Bg (l:List gQ) (p:Int) (i:Nat):Bool:=match l[i]? with|some x=>decide (x.high ≥ p)|none=>false
def qG (l:List gQ) (p:Int):Int :=
 if 44032<=p∧p<=55203 then (if (p - 44032).tmod 28=0 then 11 else 12)
 else match l[bs (Bg l p) l.length 0 l.length]? with|some x=>if x.low<=p then x.cls else 0|none=>0
theorem Uu {G:GH} {bl bp:Nat} {l:List gQ} {A:Option Addr} {c:Nat} {p:Int} (hb:aS G bl 0=some (.slice A l.length c)) (hp:aS G bp 0=some (vi p)) (hv:aF G (.sl 3 (l.map gQ.dat)) (.slice A l.length c)) (i:Nat) (G1:GH) (w0:World) (hi:i < l.length) (hm:∀ b o,G b=some o->G1 b=some o) (hG:Hold G1 w0) :
  uK prog (.func (.func 121) #[] #[(aJ bl 0),(aJ bp 0)]) [vi i] w0 (bQ w0 G1 fun u G'=>u=.bool (Bg l p i)):=by
 refine sI (caps:=[(aJ bl 0),(aJ bp 0)]) aaZ ?_;obtain ⟨b,o,rfl,hrow⟩:=EJ hv hi;have h1:=aK hm hb;have h2:=aK hm hp;have h3:=aK hm (hrow 1 _ O)
 have e:Bg l p i=decide (l[i].high ≥ p):=by simp only [Bg,iR hi]
 rw [e];refine eN [(0,_),(1,_),(2,_)] func121 O ntmps121 O O hG ?_;intro a H;refine kP H (SR fun _ K1=>av K1 O (SQ fun _ K2=>?_));clear H K1;intro a H;have H:=H.sub (T':=[(0,_),(1,_),(2,_)]) ⟨O,O,O,aI⟩;refine dI hmx [[],[],[0,1],[0,1,2],ra 0 4,[],ra 0 6,ra 0 7] [] Z [.slice (some ⟨b,o,none⟩) l.length c,vi i,(aJ b (o+i*3)),(aJ b (o+i*3+1)),vi l[i].high,vi p,.bool (decide (l[i].high ≥ p)),.bool (decide (l[i].high ≥ p))] H (aH ?_ ?_ ?_ ?_ (aH ?_ ?_ ?_ ?_ fD)) ?_
 ·intro ay a w G1 _ ah hc hG HT hv;have H:=HT;clear ah;have Hb:=H.full;have H:=Hb;clear hc;refine kH H (Rg tC O (aK hG h1) ?_);clear H;intro a H;refine aj ⟨O,?_⟩;exact aB HT Hb hG hv (fun _ _ _ _ _ h=>h) H O
 ·intro ay a w G1 _ ah hc hG HT hv;have H:=HT;clear ah;have Hb:=H.full;have H:=Hb;clear hc;refine kH H (Rm O ?_);clear H;intro a H;refine aj ⟨O,?_⟩;exact aB HT Hb hG hv (fun _ _ _ _ _ h=>h) H O
 ·intro ay a w G1 _ ah hc hG HT hv;have H:=HT;clear ah;have H:=H.au (hv 0 5 (hc 0 Y) O) O;have H:=H.au (hv 1 6 (hc 1 Y) O) O;have Hb:=H.full;have H:=Hb;clear hc;refine kH H (Ri rY BF O O ?_);clear H;intro a H;refine aj ⟨O,?_⟩;exact aB HT Hb hG hv (fun _ _ _ _ _ h=>h) H O
 ·intro ay a w G1 _ ah hc hG HT hv;have H:=HT;clear ah;have H:=H.au (hv 2 7 (hc 2 Y) O) O;have Hb:=H.full;have H:=Hb;clear hc;refine kH H (Rf acO O ?_);clear H;intro a H;refine aj ⟨O,?_⟩;exact aB HT Hb hG hv (fun _ _ _ _ _ h=>h) H O
 ·intro ay a w G1 _ ah hc hG HT hv;have H:=HT;clear ah;have H:=H.au (hv 3 8 (hc 3 Y) O) O;have Hb:=H.full;have H:=Hb;clear hc;refine kH H (Rg aC O (aK hG h3) ?_);clear H;intro a H;refine aj ⟨O,?_⟩;exact aB HT Hb hG hv (fun _ _ _ _ _ h=>h) H O
 ·intro ay a w G1 _ ah hc hG HT hv;have H:=HT;clear ah;have Hb:=H.full;have H:=Hb;clear hc;refine kH H (Rg aC O (aK hG h2) ?_);clear H;intro a H;refine aj ⟨O,?_⟩;exact aB HT Hb hG hv (fun _ _ _ _ _ h=>h) H O
 ·intro ay a w G1 _ ah hc hG HT hv;have H:=HT;clear ah;have H:=H.au (hv 4 9 (hc 4 Y) O) O;have H:=H.au (hv 5 10 (hc 5 Y) O) O;have Hb:=H.full;have H:=Hb;clear hc;refine kH H (Rc O ?_);clear H;intro a H;refine aj ⟨O,?_⟩;exact aB HT Hb hG hv (fun _ _ _ _ _ h=>h) H O
 ·intro ay a w G1 _ ah hc hG HT hv;have H:=HT;clear ah;have H:=H.au (hv 6 11 (hc 6 Y) O) O;have Hb:=H.full;have H:=Hb;clear hc;refine kH H (Ra O ?_);clear H;intro a H;refine aj ⟨O,?_⟩;exact aB HT Hb hG hv (fun _ _ _ _ _ h=>h) H O
 clear H;intro a w G Gd H hv;have H:=H.au (hv 7 4 O O) O;clear hv;refine aj ⟨O,?_⟩;refine K2 _ _ ?_;clear K2;refine lr H results121 O ?_;exact H.rt O
theorem Z6 (G:GH) (w0:World) (hG:Hold G w0) (l:List gQ) (p:Int) (v:ak) (hv:aF G (.sl 3 (l.map gQ.dat)) v) (hl:l.length<=4294967296) (hp:0<=p∧p<=4294967296) :
  Calls prog 107 #[v,vi p] w0 (bQ w0 G fun u G'=>u=vi (qG l p)):=by
 obtain ⟨A,c,rfl,hc1,hc2,-⟩:=hv.slice;rw [bJ] at *;refine eN [(0,_),(1,_)] func107 O ntmps107 O O hG ?_;intro a H;refine gU (fun _ K1=>?_);refine jQ (cs:=[_]) H wn O O O ?_;clear H;intro b2 a w hb2 H;refine jQ (cs:=[_]) H wn O O O ?_;clear H;intro b3 a w hb3 H;refine kH H (av K1 O (SQ fun _ K2=>SR fun _ K3=>Ro aC 0 O (Rc O (Rm O (Sp 8 O ?_ ?_))))) <;> clear H K1
 ·intro h8 a H
  try have p8:=dT h8
  refine kH H (YO aC 0 h8 O (YC h8 O (Pt h8 O (Kz K3 (Cd O ?_ ?_))))) <;> clear H K3
  ·intro h11 a H
   try have oI:=dT h11
   refine kP H (SQ fun _ K4=>SR fun _ K5=>Ro aC 0 O (Rs O ?_));clear H;intro a H;refine CY ((p - 44032).tmod 28) H wn O O Y O O ?_;clear H;intro a H;refine kH H (Rc O (Kz K5 (Cd O ?_ ?_))) <;> clear H K5
   ·intro lC a H
    try have oK:=dT lC
    exact kP H (SR fun _ K6=>av K6 O (LR results107 O fun H=>H.rt (by rw [qG,aN ⟨V,V⟩,aN oK])))
   intro lC a H
   try have oK:=dF lC
   exact kP H (Kc K4 (SR fun _ K7=>av K7 O (LR results107 O fun H=>H.rt (by rw [qG,aN ⟨V,V⟩,aL oK]))))
  intro h11 a H
  try have oI:=dF h11
  refine lV ?_;refine K2 _ _ ?_;clear K2;refine gy (fun _ K8=>?_);obtain ⟨Ga,hma,NP,H⟩:=H.kE;obtain ⟨Gb,hmb,hb2',H⟩:=H.kE;have hv2:=(hv.mono hma).mono hmb
  have q2:aS Gb b2 0=some (.slice A l.length c):=by unfold aS;rw [hb2'];rfl
  have q3:aS Gb b3 0=some (vi p):=by unfold aS;rw [hmb _ _ NP];rfl
  refine kP H (SC (Rg tC O q2 (Rl rY O ?_)));clear H;intro a H;refine Bw H wn O O ?_;clear H;intro a H;refine s_call Td H wn O (W9 _ _ H.ro l.length (Bg l p) _ hl (fun i G1 w1 hi hm hG1=>Uu q2 q3 hv2 i G1 w1 hi hm hG1)) O ?_;clear H;rintro v19 oP a w rfl iT H;have q2:=aK iT q2;have q3:=aK iT q3;have hv2:=hv2.mono iT;obtain ⟨k,hk⟩:∃ k,k=bs (Bg l p) l.length 0 l.length:=⟨_,O⟩;rw [<- hk] at H;refine kH H (bO K8 O (SQ fun _ K9=>SQ fun _ aP=>?_));clear H K8;intro a H
  obtain ⟨lo,cl,sb,so,hx⟩:∃ lo cl sb so,k < l.length->A=some ⟨sb,so,none⟩∧l[k]?.map gQ.low=some lo∧l[k]?.map gQ.cls=some cl∧aS oP sb (so+k*3+0)=some (vi lo)∧aS oP sb (so+k*3+2)=some (vi cl):=by
   by_cases h:k < l.length
   ·obtain ⟨sb,so,h1,h2⟩:=EJ hv2 h;exact ⟨_,_,sb,so,fun _=>⟨h1,by rw [iR h];rfl,by rw [iR h];rfl,h2 0 _ rfl,h2 2 _ rfl⟩⟩
   exact ⟨0,0,0,0,fun h'=>absurd h' h⟩
  by_cases c0:(k:Int) < (l.length:Int)
  ·skip
   by_cases c1:lo<=p
   ·skip;refine dI hmx [[],[],[1],[0,1,2],ra 0 4,ra 0 5,ra 0 5,ra 0 7,ra 0 8,ra 0 9,ra 0 5,ra 0 11,ra 0 12] [] Z [vi k,.slice A l.length c,vi l.length,.bool (decide ((k:Int) < (l.length:Int))),.bool (decide ((k:Int) < (l.length:Int))),.slice A l.length c,vi k,(aJ sb (so+k*3)),(aJ sb (so+k*3+0)),vi lo,vi p,.bool (decide (lo<=p)),.bool (decide (lo<=p))] H (aH ?_ ?_ ?_ ?_ (aH ?_ ?_ ?_ ?_ (aH ?_ ?_ ?_ ?_ (eB ?_ fD)))) ?_
    ·intro ay a w G1 _ ah hc hG HT hv;have H:=HT;clear ah;have Hb:=H.full;have H:=Hb;clear hc;refine kH H (Rm O ?_);clear H;intro a H;refine aj ⟨O,?_⟩;exact aB HT Hb hG hv (fun _ _ _ _ _ h=>h) H O
    ·intro ay a w G1 _ ah hc hG HT hv;have H:=HT;clear ah;have Hb:=H.full;have H:=Hb;clear hc;refine kH H (Rg tC O (aK hG q2) ?_);clear H;intro a H;refine aj ⟨O,?_⟩;exact aB HT Hb hG hv (fun _ _ _ _ _ h=>h) H O
    ·intro ay a w G1 _ ah hc hG HT hv;have H:=HT;clear ah;have H:=H.au (hv 1 21 (hc 1 Y) O) O;have Hb:=H.full;have H:=Hb;clear hc;refine kH H (Rl rY O ?_);clear H;intro a H;refine aj ⟨O,?_⟩;exact aB HT Hb hG hv (fun _ _ _ _ _ h=>h) H O
    ·intro ay a w G1 _ ah hc hG HT hv;have H:=HT;clear ah;have H:=H.au (hv 0 20 (hc 0 Y) O) O;have H:=H.au (hv 2 22 (hc 2 Y) O) O;have Hb:=H.full;have H:=Hb;clear hc;refine kH H (Rc O ?_);clear H;intro a H;refine aj ⟨O,?_⟩;exact aB HT Hb hG hv (fun _ _ _ _ _ h=>h) H O
    ·intro ay a w G1 _ ah hc hG HT hv;have H:=HT;clear ah;have H:=H.au (hv 3 23 (hc 3 Y) O) O;have Hb:=H.full;have H:=Hb;clear hc;refine kH H (Rm O ?_);clear H;intro a H;refine aj ⟨O,?_⟩;exact aB HT Hb hG hv (fun _ _ _ _ _ h=>h) H O
    ·intro ay a w G1 _ ah hc hG HT hv;have H:=HT;clear ah;have H:=H.au (hv 4 24 (hc 4 Y) O) O;have Hb:=H.full;have H:=Hb;clear hc;refine kH H (YR tC (aX c0) O (aK hG q2) ?_);clear H;intro a H;refine aj ⟨O,?_⟩;exact aB HT Hb hG hv (fun _ _ _ _ _ h=>h) H O
    ·intro ay a w G1 _ ah hc hG HT hv;have H:=HT;clear ah;have H:=H.au (hv 4 24 (hc 4 Y) O) O;have Hb:=H.full;have H:=Hb;clear hc;refine kH H (YM (aX c0) O ?_);clear H;intro a H;refine aj ⟨O,?_⟩;exact aB HT Hb hG hv (fun _ _ _ _ _ h=>h) H O
    ·intro ay a w G1 _ ah hc hG HT hv;have H:=HT;clear ah;have H:=H.au (hv 5 25 (hc 5 Y) O) O;have H:=H.au (hv 6 26 (hc 6 Y) O) O;have H:=H.au (hv 4 24 (hc 4 Y) O) O;have Hb:=H.full;have H:=Hb;clear hc;obtain ⟨rfl,hx1,hx2,hx3,hx4⟩:=hx V;refine bD rY BF k H (wg H O O (aX c0)) O O O V O ?_;clear H;intro a H;refine aj ⟨O,?_⟩;exact aB HT Hb hG hv (fun _ _ _ _ _ h=>h) H O
    ·intro ay a w G1 _ ah hc hG HT hv;have H:=HT;clear ah;have H:=H.au (hv 7 27 (hc 7 Y) O) O;have H:=H.au (hv 4 24 (hc 4 Y) O) O;have Hb:=H.full;have H:=Hb;clear hc;refine kH H (YF Jg (aX c0) O ?_);clear H;intro a H;refine aj ⟨O,?_⟩;exact aB HT Hb hG hv (fun _ _ _ _ _ h=>h) H O
    ·intro ay a w G1 _ ah hc hG HT hv;have H:=HT;clear ah;have H:=H.au (hv 8 28 (hc 8 Y) O) O;have H:=H.au (hv 4 24 (hc 4 Y) O) O;have Hb:=H.full;have H:=Hb;clear hc;obtain ⟨rfl,hx1,hx2,hx3,hx4⟩:=hx V;refine kH H (YR aC (aX c0) O (aK hG hx3) ?_);clear H;intro a H;refine aj ⟨O,?_⟩;exact aB HT Hb hG hv (fun _ _ _ _ _ h=>h) H O
    ·intro ay a w G1 _ ah hc hG HT hv;have H:=HT;clear ah;have H:=H.au (hv 4 24 (hc 4 Y) O) O;have Hb:=H.full;have H:=Hb;clear hc;refine kH H (YR aC (aX c0) O (aK hG q3) ?_);clear H;intro a H;refine aj ⟨O,?_⟩;exact aB HT Hb hG hv (fun _ _ _ _ _ h=>h) H O
    ·intro ay a w G1 _ ah hc hG HT hv;have H:=HT;clear ah;have H:=H.au (hv 9 29 (hc 9 Y) O) O;have H:=H.au (hv 10 30 (hc 10 Y) O) O;have H:=H.au (hv 4 24 (hc 4 Y) O) O;have Hb:=H.full;have H:=Hb;clear hc;refine kH H (YC (aX c0) O ?_);clear H;intro a H;refine aj ⟨O,?_⟩;exact aB HT Hb hG hv (fun _ _ _ _ _ h=>h) H O
    ·intro ay a w G1 _ ah hc hG HT hv;have H:=HT;clear ah;have H:=H.au (hv 4 24 (hc 4 Y) O) O;have H:=H.au (hv 11 31 (hc 11 Y) O) O;have Hb:=H.full;have H:=Hb;clear hc;refine kH H (Pt (aX c0) O ?_);clear H;intro a H;refine aj ⟨O,?_⟩;exact aB HT Hb hG hv (fun _ _ _ _ _ h=>h) H O
    clear H;intro a w G qb H hv;have H:=H.au (hv 12 32 O O) O;clear hv;refine aj ⟨O,?_⟩;refine aP _ _ ?_;clear aP;refine FJ H O (aX c1) ?_;refine gy (fun _ aT=>?_);obtain ⟨rfl,hx1,hx2,hx3,hx4⟩:=hx V;have q2:=aK qb q2;have hx4:=aK qb hx4;refine kP H (SC (Rg tC O q2 (Rm O ?_)));clear H;intro a H;refine bD rY BF k H wn O O O V O ?_;clear H;intro a H;refine kH H (Rf TI O (Rg aC O hx4 (bO aT O ?_)));clear H aT;intro a H;refine lr H results107 O ?_;have hkl:=fun (h:k < l.length)=>iR h
    exact H.rt (by
     rw [qG,aZ,<- hk]
     by_cases h:k < l.length
     ·obtain ⟨-,hx1,hx2,-,-⟩:=hx h;rw [hkl h] at hx1 hx2 |-
      simp only [rJ,kZ] at hx1 hx2
      dsimp only;rw [hx1,hx2]
      first|rw [aN c1]|rw [aL c1]|exact absurd h V
     rw [List.getElem?_eq_none V] <;> first|rfl|exact absurd c0 V)
   skip;refine dI hmx [[],[],[1],[0,1,2],ra 0 4,ra 0 5,ra 0 5,ra 0 7,ra 0 8,ra 0 9,ra 0 5,ra 0 11,ra 0 12] [] Z [vi k,.slice A l.length c,vi l.length,.bool (decide ((k:Int) < (l.length:Int))),.bool (decide ((k:Int) < (l.length:Int))),.slice A l.length c,vi k,(aJ sb (so+k*3)),(aJ sb (so+k*3+0)),vi lo,vi p,.bool (decide (lo<=p)),.bool (decide (lo<=p))] H (aH ?_ ?_ ?_ ?_ (aH ?_ ?_ ?_ ?_ (aH ?_ ?_ ?_ ?_ (eB ?_ fD)))) ?_
   ·intro ay a w G1 _ ah hc hG HT hv;have H:=HT;clear ah;have Hb:=H.full;have H:=Hb;clear hc;refine kH H (Rm O ?_);clear H;intro a H;refine aj ⟨O,?_⟩;exact aB HT Hb hG hv (fun _ _ _ _ _ h=>h) H O
   ·intro ay a w G1 _ ah hc hG HT hv;have H:=HT;clear ah;have Hb:=H.full;have H:=Hb;clear hc;refine kH H (Rg tC O (aK hG q2) ?_);clear H;intro a H;refine aj ⟨O,?_⟩;exact aB HT Hb hG hv (fun _ _ _ _ _ h=>h) H O
   ·intro ay a w G1 _ ah hc hG HT hv;have H:=HT;clear ah;have H:=H.au (hv 1 21 (hc 1 Y) O) O;have Hb:=H.full;have H:=Hb;clear hc;refine kH H (Rl rY O ?_);clear H;intro a H;refine aj ⟨O,?_⟩;exact aB HT Hb hG hv (fun _ _ _ _ _ h=>h) H O
   ·intro ay a w G1 _ ah hc hG HT hv;have H:=HT;clear ah;have H:=H.au (hv 0 20 (hc 0 Y) O) O;have H:=H.au (hv 2 22 (hc 2 Y) O) O;have Hb:=H.full;have H:=Hb;clear hc;refine kH H (Rc O ?_);clear H;intro a H;refine aj ⟨O,?_⟩;exact aB HT Hb hG hv (fun _ _ _ _ _ h=>h) H O
   ·intro ay a w G1 _ ah hc hG HT hv;have H:=HT;clear ah;have H:=H.au (hv 3 23 (hc 3 Y) O) O;have Hb:=H.full;have H:=Hb;clear hc;refine kH H (Rm O ?_);clear H;intro a H;refine aj ⟨O,?_⟩;exact aB HT Hb hG hv (fun _ _ _ _ _ h=>h) H O
   ·intro ay a w G1 _ ah hc hG HT hv;have H:=HT;clear ah;have H:=H.au (hv 4 24 (hc 4 Y) O) O;have Hb:=H.full;have H:=Hb;clear hc;refine kH H (YR tC (aX c0) O (aK hG q2) ?_);clear H;intro a H;refine aj ⟨O,?_⟩;exact aB HT Hb hG hv (fun _ _ _ _ _ h=>h) H O
   ·intro ay a w G1 _ ah hc hG HT hv;have H:=HT;clear ah;have H:=H.au (hv 4 24 (hc 4 Y) O) O;have Hb:=H.full;have H:=Hb;clear hc;refine kH H (YM (aX c0) O ?_);clear H;intro a H;refine aj ⟨O,?_⟩;exact aB HT Hb hG hv (fun _ _ _ _ _ h=>h) H O
   ·intro ay a w G1 _ ah hc hG HT hv;have H:=HT;clear ah;have H:=H.au (hv 5 25 (hc 5 Y) O) O;have H:=H.au (hv 6 26 (hc 6 Y) O) O;have H:=H.au (hv 4 24 (hc 4 Y) O) O;have Hb:=H.full;have H:=Hb;clear hc;obtain ⟨rfl,hx1,hx2,hx3,hx4⟩:=hx V;refine bD rY BF k H (wg H O O (aX c0)) O O O V O ?_;clear H;intro a H;refine aj ⟨O,?_⟩;exact aB HT Hb hG hv (fun _ _ _ _ _ h=>h) H O
   ·intro ay a w G1 _ ah hc hG HT hv;have H:=HT;clear ah;have H:=H.au (hv 7 27 (hc 7 Y) O) O;have H:=H.au (hv 4 24 (hc 4 Y) O) O;have Hb:=H.full;have H:=Hb;clear hc;refine kH H (YF Jg (aX c0) O ?_);clear H;intro a H;refine aj ⟨O,?_⟩;exact aB HT Hb hG hv (fun _ _ _ _ _ h=>h) H O
   ·intro ay a w G1 _ ah hc hG HT hv;have H:=HT;clear ah;have H:=H.au (hv 8 28 (hc 8 Y) O) O;have H:=H.au (hv 4 24 (hc 4 Y) O) O;have Hb:=H.full;have H:=Hb;clear hc;obtain ⟨rfl,hx1,hx2,hx3,hx4⟩:=hx V;refine kH H (YR aC (aX c0) O (aK hG hx3) ?_);clear H;intro a H;refine aj ⟨O,?_⟩;exact aB HT Hb hG hv (fun _ _ _ _ _ h=>h) H O
   ·intro ay a w G1 _ ah hc hG HT hv;have H:=HT;clear ah;have H:=H.au (hv 4 24 (hc 4 Y) O) O;have Hb:=H.full;have H:=Hb;clear hc;refine kH H (YR aC (aX c0) O (aK hG q3) ?_);clear H;intro a H;refine aj ⟨O,?_⟩;exact aB HT Hb hG hv (fun _ _ _ _ _ h=>h) H O
   ·intro ay a w G1 _ ah hc hG HT hv;have H:=HT;clear ah;have H:=H.au (hv 9 29 (hc 9 Y) O) O;have H:=H.au (hv 10 30 (hc 10 Y) O) O;have H:=H.au (hv 4 24 (hc 4 Y) O) O;have Hb:=H.full;have H:=Hb;clear hc;refine kH H (YC (aX c0) O ?_);clear H;intro a H;refine aj ⟨O,?_⟩;exact aB HT Hb hG hv (fun _ _ _ _ _ h=>h) H O
   ·intro ay a w G1 _ ah hc hG HT hv;have H:=HT;clear ah;have H:=H.au (hv 4 24 (hc 4 Y) O) O;have H:=H.au (hv 11 31 (hc 11 Y) O) O;have Hb:=H.full;have H:=Hb;clear hc;refine kH H (Pt (aX c0) O ?_);clear H;intro a H;refine aj ⟨O,?_⟩;exact aB HT Hb hG hv (fun _ _ _ _ _ h=>h) H O
   clear H;intro a w G qb H hv;have H:=H.au (hv 12 32 O O) O;clear hv;refine aj ⟨O,?_⟩;refine aP _ _ ?_;clear aP;refine vV H O (dW c1) ?_;refine kP H (Kc K9 (SR fun _ bH=>av bH O ?_));clear H K9 bH;intro a H;refine lr H results107 O ?_;have hkl:=fun (h:k < l.length)=>iR h
   exact H.rt (by
    rw [qG,aZ,<- hk]
    by_cases h:k < l.length
    ·obtain ⟨-,hx1,hx2,-,-⟩:=hx h;rw [hkl h] at hx1 hx2 |-
     simp only [rJ,kZ] at hx1 hx2
     dsimp only;rw [hx1,hx2]
     first|rw [aN c1]|rw [aL c1]|exact absurd h V
    rw [List.getElem?_eq_none V] <;> first|rfl|exact absurd c0 V)
  skip;refine dI hmx [[],[],[1],[0,1,2],ra 0 4,ra 0 5,ra 0 5,ra 0 7,ra 0 8,ra 0 9,ra 0 5,ra 0 11,ra 0 12] [] Z [vi k,.slice A l.length c,vi l.length,.bool (decide ((k:Int) < (l.length:Int))),.bool (decide ((k:Int) < (l.length:Int))),undef,undef,undef,undef,undef,undef,undef,.bool false] H (aH ?_ ?_ ?_ ?_ (aH ?_ (dK 4 (dW c0) O O) (dK 4 (dW c0) O O) (dK 4 (dW c0) O O) (aH (dK 4 (dW c0) O O) (dK 4 (dW c0) O O) (dK 4 (dW c0) O O) (dK 4 (dW c0) O O) (eB ?_ fD)))) ?_
  ·intro ay a w G1 _ ah hc hG HT hv;have H:=HT;clear ah;have Hb:=H.full;have H:=Hb;clear hc;refine kH H (Rm O ?_);clear H;intro a H;refine aj ⟨O,?_⟩;exact aB HT Hb hG hv (fun _ _ _ _ _ h=>h) H O
  ·intro ay a w G1 _ ah hc hG HT hv;have H:=HT;clear ah;have Hb:=H.full;have H:=Hb;clear hc;refine kH H (Rg tC O (aK hG q2) ?_);clear H;intro a H;refine aj ⟨O,?_⟩;exact aB HT Hb hG hv (fun _ _ _ _ _ h=>h) H O
  ·intro ay a w G1 _ ah hc hG HT hv;have H:=HT;clear ah;have H:=H.au (hv 1 21 (hc 1 Y) O) O;have Hb:=H.full;have H:=Hb;clear hc;refine kH H (Rl rY O ?_);clear H;intro a H;refine aj ⟨O,?_⟩;exact aB HT Hb hG hv (fun _ _ _ _ _ h=>h) H O
  ·intro ay a w G1 _ ah hc hG HT hv;have H:=HT;clear ah;have H:=H.au (hv 0 20 (hc 0 Y) O) O;have H:=H.au (hv 2 22 (hc 2 Y) O) O;have Hb:=H.full;have H:=Hb;clear hc;refine kH H (Rc O ?_);clear H;intro a H;refine aj ⟨O,?_⟩;exact aB HT Hb hG hv (fun _ _ _ _ _ h=>h) H O
  ·intro ay a w G1 _ ah hc hG HT hv;have H:=HT;clear ah;have H:=H.au (hv 3 23 (hc 3 Y) O) O;have Hb:=H.full;have H:=Hb;clear hc;refine kH H (Rm O ?_);clear H;intro a H;refine aj ⟨O,?_⟩;exact aB HT Hb hG hv (fun _ _ _ _ _ h=>h) H O
  ·intro ay a w G1 _ ah hc hG HT hv;have H:=HT;clear ah;have H:=H.au (hv 4 24 (hc 4 Y) O) O;have H:=H.au (hv 11 31 (hc 11 Y) O) O;have Hb:=H.full;have H:=Hb;clear hc;refine kH H (Pf (dW c0) O ?_);clear H;intro a H;refine aj ⟨O,?_⟩;exact aB HT Hb hG hv (fun _ _ _ _ _ h=>h) H O
  clear H;intro a w G qb H hv;have H:=H.au (hv 12 32 O O) O;clear hv;refine aj ⟨O,?_⟩;refine aP _ _ ?_;clear aP;refine vV H O O ?_;refine kP H (Kc K9 (SR fun _ bG=>av bG O ?_));clear H K9 bG;intro a H;refine lr H results107 O ?_;have hkl:=fun (h:k < l.length)=>iR h
  exact H.rt (by
   rw [qG,aZ,<- hk]
   by_cases h:k < l.length
   ·obtain ⟨-,hx1,hx2,-,-⟩:=hx h;rw [hkl h] at hx1 hx2 |-
    simp only [rJ,kZ] at hx1 hx2
    dsimp only;rw [hx1,hx2]
    first|rw [aN c1]|rw [aL c1]|exact absurd h V
   rw [List.getElem?_eq_none V] <;> first|rfl|exact absurd c0 V)
 intro h8 a H
 try have p8:=dF h8
 refine kH H (aO h8 O (Pf h8 O (Kz K3 (Cf O O (Kc K2 (SQ fun _ bX=>?_))))));clear H K3 K2;intro a H;obtain ⟨Ga,hma,NP,H⟩:=H.kE;obtain ⟨Gb,hmb,hb2',H⟩:=H.kE;have hv2:=(hv.mono hma).mono hmb
 have q2:aS Gb b2 0=some (.slice A l.length c):=by unfold aS;rw [hb2'];rfl
 have q3:aS Gb b3 0=some (vi p):=by unfold aS;rw [hmb _ _ NP];rfl
 refine kP H (SC (Rg tC O q2 (Rl rY O ?_)));clear H;intro a H;refine Bw H wn O O ?_;clear H;intro a H;refine s_call Td H wn O (W9 _ _ H.ro l.length (Bg l p) _ hl (fun i G1 w1 hi hm hG1=>Uu q2 q3 hv2 i G1 w1 hi hm hG1)) O ?_;clear H;rintro v19 oP a w rfl iT H;have q2:=aK iT q2;have q3:=aK iT q3;have hv2:=hv2.mono iT;obtain ⟨k,hk⟩:∃ k,k=bs (Bg l p) l.length 0 l.length:=⟨_,O⟩;rw [<- hk] at H;refine kH H (bO bX O (SQ fun _ dG=>SQ fun _ dR=>?_));clear H bX;intro a H
 obtain ⟨lo,cl,sb,so,hx⟩:∃ lo cl sb so,k < l.length->A=some ⟨sb,so,none⟩∧l[k]?.map gQ.low=some lo∧l[k]?.map gQ.cls=some cl∧aS oP sb (so+k*3+0)=some (vi lo)∧aS oP sb (so+k*3+2)=some (vi cl):=by
  by_cases h:k < l.length
  ·obtain ⟨sb,so,h1,h2⟩:=EJ hv2 h;exact ⟨_,_,sb,so,fun _=>⟨h1,by rw [iR h];rfl,by rw [iR h];rfl,h2 0 _ rfl,h2 2 _ rfl⟩⟩
  exact ⟨0,0,0,0,fun h'=>absurd h' h⟩
 by_cases c0:(k:Int) < (l.length:Int)
 ·skip
  by_cases c1:lo<=p
  ·skip;refine dI hmx [[],[],[1],[0,1,2],ra 0 4,ra 0 5,ra 0 5,ra 0 7,ra 0 8,ra 0 9,ra 0 5,ra 0 11,ra 0 12] [] Z [vi k,.slice A l.length c,vi l.length,.bool (decide ((k:Int) < (l.length:Int))),.bool (decide ((k:Int) < (l.length:Int))),.slice A l.length c,vi k,(aJ sb (so+k*3)),(aJ sb (so+k*3+0)),vi lo,vi p,.bool (decide (lo<=p)),.bool (decide (lo<=p))] H (aH ?_ ?_ ?_ ?_ (aH ?_ ?_ ?_ ?_ (aH ?_ ?_ ?_ ?_ (eB ?_ fD)))) ?_
   ·intro ay a w G1 _ ah hc hG HT hv;have H:=HT;clear ah;have Hb:=H.full;have H:=Hb;clear hc;refine kH H (Rm O ?_);clear H;intro a H;refine aj ⟨O,?_⟩;exact aB HT Hb hG hv (fun _ _ _ _ _ h=>h) H O
   ·intro ay a w G1 _ ah hc hG HT hv;have H:=HT;clear ah;have Hb:=H.full;have H:=Hb;clear hc;refine kH H (Rg tC O (aK hG q2) ?_);clear H;intro a H;refine aj ⟨O,?_⟩;exact aB HT Hb hG hv (fun _ _ _ _ _ h=>h) H O
   ·intro ay a w G1 _ ah hc hG HT hv;have H:=HT;clear ah;have H:=H.au (hv 1 21 (hc 1 Y) O) O;have Hb:=H.full;have H:=Hb;clear hc;refine kH H (Rl rY O ?_);clear H;intro a H;refine aj ⟨O,?_⟩;exact aB HT Hb hG hv (fun _ _ _ _ _ h=>h) H O
   ·intro ay a w G1 _ ah hc hG HT hv;have H:=HT;clear ah;have H:=H.au (hv 0 20 (hc 0 Y) O) O;have H:=H.au (hv 2 22 (hc 2 Y) O) O;have Hb:=H.full;have H:=Hb;clear hc;refine kH H (Rc O ?_);clear H;intro a H;refine aj ⟨O,?_⟩;exact aB HT Hb hG hv (fun _ _ _ _ _ h=>h) H O
   ·intro ay a w G1 _ ah hc hG HT hv;have H:=HT;clear ah;have H:=H.au (hv 3 23 (hc 3 Y) O) O;have Hb:=H.full;have H:=Hb;clear hc;refine kH H (Rm O ?_);clear H;intro a H;refine aj ⟨O,?_⟩;exact aB HT Hb hG hv (fun _ _ _ _ _ h=>h) H O
   ·intro ay a w G1 _ ah hc hG HT hv;have H:=HT;clear ah;have H:=H.au (hv 4 24 (hc 4 Y) O) O;have Hb:=H.full;have H:=Hb;clear hc;refine kH H (YR tC (aX c0) O (aK hG q2) ?_);clear H;intro a H;refine aj ⟨O,?_⟩;exact aB HT Hb hG hv (fun _ _ _ _ _ h=>h) H O
   ·intro ay a w G1 _ ah hc hG HT hv;have H:=HT;clear ah;have H:=H.au (hv 4 24 (hc 4 Y) O) O;have Hb:=H.full;have H:=Hb;clear hc;refine kH H (YM (aX c0) O ?_);clear H;intro a H;refine aj ⟨O,?_⟩;exact aB HT Hb hG hv (fun _ _ _ _ _ h=>h) H O
   ·intro ay a w G1 _ ah hc hG HT hv;have H:=HT;clear ah;have H:=H.au (hv 5 25 (hc 5 Y) O) O;have H:=H.au (hv 6 26 (hc 6 Y) O) O;have H:=H.au (hv 4 24 (hc 4 Y) O) O;have Hb:=H.full;have H:=Hb;clear hc;obtain ⟨rfl,hx1,hx2,hx3,hx4⟩:=hx V;refine bD rY BF k H (wg H O O (aX c0)) O O O V O ?_;clear H;intro a H;refine aj ⟨O,?_⟩;exact aB HT Hb hG hv (fun _ _ _ _ _ h=>h) H O
   ·intro ay a w G1 _ ah hc hG HT hv;have H:=HT;clear ah;have H:=H.au (hv 7 27 (hc 7 Y) O) O;have H:=H.au (hv 4 24 (hc 4 Y) O) O;have Hb:=H.full;have H:=Hb;clear hc;refine kH H (YF Jg (aX c0) O ?_);clear H;intro a H;refine aj ⟨O,?_⟩;exact aB HT Hb hG hv (fun _ _ _ _ _ h=>h) H O
   ·intro ay a w G1 _ ah hc hG HT hv;have H:=HT;clear ah;have H:=H.au (hv 8 28 (hc 8 Y) O) O;have H:=H.au (hv 4 24 (hc 4 Y) O) O;have Hb:=H.full;have H:=Hb;clear hc;obtain ⟨rfl,hx1,hx2,hx3,hx4⟩:=hx V;refine kH H (YR aC (aX c0) O (aK hG hx3) ?_);clear H;intro a H;refine aj ⟨O,?_⟩;exact aB HT Hb hG hv (fun _ _ _ _ _ h=>h) H O
   ·intro ay a w G1 _ ah hc hG HT hv;have H:=HT;clear ah;have H:=H.au (hv 4 24 (hc 4 Y) O) O;have Hb:=H.full;have H:=Hb;clear hc;refine kH H (YR aC (aX c0) O (aK hG q3) ?_);clear H;intro a H;refine aj ⟨O,?_⟩;exact aB HT Hb hG hv (fun _ _ _ _ _ h=>h) H O
   ·intro ay a w G1 _ ah hc hG HT hv;have H:=HT;clear ah;have H:=H.au (hv 9 29 (hc 9 Y) O) O;have H:=H.au (hv 10 30 (hc 10 Y) O) O;have H:=H.au (hv 4 24 (hc 4 Y) O) O;have Hb:=H.full;have H:=Hb;clear hc;refine kH H (YC (aX c0) O ?_);clear H;intro a H;refine aj ⟨O,?_⟩;exact aB HT Hb hG hv (fun _ _ _ _ _ h=>h) H O
   ·intro ay a w G1 _ ah hc hG HT hv;have H:=HT;clear ah;have H:=H.au (hv 4 24 (hc 4 Y) O) O;have H:=H.au (hv 11 31 (hc 11 Y) O) O;have Hb:=H.full;have H:=Hb;clear hc;refine kH H (Pt (aX c0) O ?_);clear H;intro a H;refine aj ⟨O,?_⟩;exact aB HT Hb hG hv (fun _ _ _ _ _ h=>h) H O
   clear H;intro a w G qb H hv;have H:=H.au (hv 12 32 O O) O;clear hv;refine aj ⟨O,?_⟩;refine dR _ _ ?_;clear dR;refine FJ H O (aX c1) ?_;refine gy (fun _ fu=>?_);obtain ⟨rfl,hx1,hx2,hx3,hx4⟩:=hx V;have q2:=aK qb q2;have hx4:=aK qb hx4;refine kP H (SC (Rg tC O q2 (Rm O ?_)));clear H;intro a H;refine bD rY BF k H wn O O O V O ?_;clear H;intro a H;refine kH H (Rf TI O (Rg aC O hx4 (bO fu O ?_)));clear H fu;intro a H;refine lr H results107 O ?_;have hkl:=fun (h:k < l.length)=>iR h
   exact H.rt (by
    rw [qG,aZ,<- hk]
    by_cases h:k < l.length
    ·obtain ⟨-,hx1,hx2,-,-⟩:=hx h;rw [hkl h] at hx1 hx2 |-
     simp only [rJ,kZ] at hx1 hx2
     dsimp only;rw [hx1,hx2]
     first|rw [aN c1]|rw [aL c1]|exact absurd h V
    rw [List.getElem?_eq_none V] <;> first|rfl|exact absurd c0 V)
  skip;refine dI hmx [[],[],[1],[0,1,2],ra 0 4,ra 0 5,ra 0 5,ra 0 7,ra 0 8,ra 0 9,ra 0 5,ra 0 11,ra 0 12] [] Z [vi k,.slice A l.length c,vi l.length,.bool (decide ((k:Int) < (l.length:Int))),.bool (decide ((k:Int) < (l.length:Int))),.slice A l.length c,vi k,(aJ sb (so+k*3)),(aJ sb (so+k*3+0)),vi lo,vi p,.bool (decide (lo<=p)),.bool (decide (lo<=p))] H (aH ?_ ?_ ?_ ?_ (aH ?_ ?_ ?_ ?_ (aH ?_ ?_ ?_ ?_ (eB ?_ fD)))) ?_
  ·intro ay a w G1 _ ah hc hG HT hv;have H:=HT;clear ah;have Hb:=H.full;have H:=Hb;clear hc;refine kH H (Rm O ?_);clear H;intro a H;refine aj ⟨O,?_⟩;exact aB HT Hb hG hv (fun _ _ _ _ _ h=>h) H O
  ·intro ay a w G1 _ ah hc hG HT hv;have H:=HT;clear ah;have Hb:=H.full;have H:=Hb;clear hc;refine kH H (Rg tC O (aK hG q2) ?_);clear H;intro a H;refine aj ⟨O,?_⟩;exact aB HT Hb hG hv (fun _ _ _ _ _ h=>h) H O
  ·intro ay a w G1 _ ah hc hG HT hv;have H:=HT;clear ah;have H:=H.au (hv 1 21 (hc 1 Y) O) O;have Hb:=H.full;have H:=Hb;clear hc;refine kH H (Rl rY O ?_);clear H;intro a H;refine aj ⟨O,?_⟩;exact aB HT Hb hG hv (fun _ _ _ _ _ h=>h) H O
  ·intro ay a w G1 _ ah hc hG HT hv;have H:=HT;clear ah;have H:=H.au (hv 0 20 (hc 0 Y) O) O;have H:=H.au (hv 2 22 (hc 2 Y) O) O;have Hb:=H.full;have H:=Hb;clear hc;refine kH H (Rc O ?_);clear H;intro a H;refine aj ⟨O,?_⟩;exact aB HT Hb hG hv (fun _ _ _ _ _ h=>h) H O
  ·intro ay a w G1 _ ah hc hG HT hv;have H:=HT;clear ah;have H:=H.au (hv 3 23 (hc 3 Y) O) O;have Hb:=H.full;have H:=Hb;clear hc;refine kH H (Rm O ?_);clear H;intro a H;refine aj ⟨O,?_⟩;exact aB HT Hb hG hv (fun _ _ _ _ _ h=>h) H O
  ·intro ay a w G1 _ ah hc hG HT hv;have H:=HT;clear ah;have H:=H.au (hv 4 24 (hc 4 Y) O) O;have Hb:=H.full;have H:=Hb;clear hc;refine kH H (YR tC (aX c0) O (aK hG q2) ?_);clear H;intro a H;refine aj ⟨O,?_⟩;exact aB HT Hb hG hv (fun _ _ _ _ _ h=>h) H O
  ·intro ay a w G1 _ ah hc hG HT hv;have H:=HT;clear ah;have H:=H.au (hv 4 24 (hc 4 Y) O) O;have Hb:=H.full;have H:=Hb;clear hc;refine kH H (YM (aX c0) O ?_);clear H;intro a H;refine aj ⟨O,?_⟩;exact aB HT Hb hG hv (fun _ _ _ _ _ h=>h) H O
  ·intro ay a w G1 _ ah hc hG HT hv;have H:=HT;clear ah;have H:=H.au (hv 5 25 (hc 5 Y) O) O;have H:=H.au (hv 6 26 (hc 6 Y) O) O;have H:=H.au (hv 4 24 (hc 4 Y) O) O;have Hb:=H.full;have H:=Hb;clear hc;obtain ⟨rfl,hx1,hx2,hx3,hx4⟩:=hx V;refine bD rY BF k H (wg H O O (aX c0)) O O O V O ?_;clear H;intro a H;refine aj ⟨O,?_⟩;exact aB HT Hb hG hv (fun _ _ _ _ _ h=>h) H O
  ·intro ay a w G1 _ ah hc hG HT hv;have H:=HT;clear ah;have H:=H.au (hv 7 27 (hc 7 Y) O) O;have H:=H.au (hv 4 24 (hc 4 Y) O) O;have Hb:=H.full;have H:=Hb;clear hc;refine kH H (YF Jg (aX c0) O ?_);clear H;intro a H;refine aj ⟨O,?_⟩;exact aB HT Hb hG hv (fun _ _ _ _ _ h=>h) H O
  ·intro ay a w G1 _ ah hc hG HT hv;have H:=HT;clear ah;have H:=H.au (hv 8 28 (hc 8 Y) O) O;have H:=H.au (hv 4 24 (hc 4 Y) O) O;have Hb:=H.full;have H:=Hb;clear hc;obtain ⟨rfl,hx1,hx2,hx3,hx4⟩:=hx V;refine kH H (YR aC (aX c0) O (aK hG hx3) ?_);clear H;intro a H;refine aj ⟨O,?_⟩;exact aB HT Hb hG hv (fun _ _ _ _ _ h=>h) H O
  ·intro ay a w G1 _ ah hc hG HT hv;have H:=HT;clear ah;have H:=H.au (hv 4 24 (hc 4 Y) O) O;have Hb:=H.full;have H:=Hb;clear hc;refine kH H (YR aC (aX c0) O (aK hG q3) ?_);clear H;intro a H;refine aj ⟨O,?_⟩;exact aB HT Hb hG hv (fun _ _ _ _ _ h=>h) H O
  ·intro ay a w G1 _ ah hc hG HT hv;have H:=HT;clear ah;have H:=H.au (hv 9 29 (hc 9 Y) O) O;have H:=H.au (hv 10 30 (hc 10 Y) O) O;have H:=H.au (hv 4 24 (hc 4 Y) O) O;have Hb:=H.full;have H:=Hb;clear hc;refine kH H (YC (aX c0) O ?_);clear H;intro a H;refine aj ⟨O,?_⟩;exact aB HT Hb hG hv (fun _ _ _ _ _ h=>h) H O
  ·intro ay a w G1 _ ah hc hG HT hv;have H:=HT;clear ah;have H:=H.au (hv 4 24 (hc 4 Y) O) O;have H:=H.au (hv 11 31 (hc 11 Y) O) O;have Hb:=H.full;have H:=Hb;clear hc;refine kH H (Pt (aX c0) O ?_);clear H;intro a H;refine aj ⟨O,?_⟩;exact aB HT Hb hG hv (fun _ _ _ _ _ h=>h) H O
  clear H;intro a w G qb H hv;have H:=H.au (hv 12 32 O O) O;clear hv;refine aj ⟨O,?_⟩;refine dR _ _ ?_;clear dR;refine vV H O (dW c1) ?_;refine kP H (Kc dG (SR fun _ gF=>av gF O ?_));clear H dG gF;intro a H;refine lr H results107 O ?_;have hkl:=fun (h:k < l.length)=>iR h
  exact H.rt (by
   rw [qG,aZ,<- hk]
   by_cases h:k < l.length
   ·obtain ⟨-,hx1,hx2,-,-⟩:=hx h;rw [hkl h] at hx1 hx2 |-
    simp only [rJ,kZ] at hx1 hx2
    dsimp only;rw [hx1,hx2]
    first|rw [aN c1]|rw [aL c1]|exact absurd h V
   rw [List.getElem?_eq_none V] <;> first|rfl|exact absurd c0 V)
 skip;refine dI hmx [[],[],[1],[0,1,2],ra 0 4,ra 0 5,ra 0 5,ra 0 7,ra 0 8,ra 0 9,ra 0 5,ra 0 11,ra 0 12] [] Z [vi k,.slice A l.length c,vi l.length,.bool (decide ((k:Int) < (l.length:Int))),.bool (decide ((k:Int) < (l.length:Int))),undef,undef,undef,undef,undef,undef,undef,.bool false] H (aH ?_ ?_ ?_ ?_ (aH ?_ (dK 4 (dW c0) O O) (dK 4 (dW c0) O O) (dK 4 (dW c0) O O) (aH (dK 4 (dW c0) O O) (dK 4 (dW c0) O O) (dK 4 (dW c0) O O) (dK 4 (dW c0) O O) (eB ?_ fD)))) ?_
 ·intro ay a w G1 _ ah hc hG HT hv;have H:=HT;clear ah;have Hb:=H.full;have H:=Hb;clear hc;refine kH H (Rm O ?_);clear H;intro a H;refine aj ⟨O,?_⟩;exact aB HT Hb hG hv (fun _ _ _ _ _ h=>h) H O
 ·intro ay a w G1 _ ah hc hG HT hv;have H:=HT;clear ah;have Hb:=H.full;have H:=Hb;clear hc;refine kH H (Rg tC O (aK hG q2) ?_);clear H;intro a H;refine aj ⟨O,?_⟩;exact aB HT Hb hG hv (fun _ _ _ _ _ h=>h) H O
 ·intro ay a w G1 _ ah hc hG HT hv;have H:=HT;clear ah;have H:=H.au (hv 1 21 (hc 1 Y) O) O;have Hb:=H.full;have H:=Hb;clear hc;refine kH H (Rl rY O ?_);clear H;intro a H;refine aj ⟨O,?_⟩;exact aB HT Hb hG hv (fun _ _ _ _ _ h=>h) H O
 ·intro ay a w G1 _ ah hc hG HT hv;have H:=HT;clear ah;have H:=H.au (hv 0 20 (hc 0 Y) O) O;have H:=H.au (hv 2 22 (hc 2 Y) O) O;have Hb:=H.full;have H:=Hb;clear hc;refine kH H (Rc O ?_);clear H;intro a H;refine aj ⟨O,?_⟩;exact aB HT Hb hG hv (fun _ _ _ _ _ h=>h) H O
 ·intro ay a w G1 _ ah hc hG HT hv;have H:=HT;clear ah;have H:=H.au (hv 3 23 (hc 3 Y) O) O;have Hb:=H.full;have H:=Hb;clear hc;refine kH H (Rm O ?_);clear H;intro a H;refine aj ⟨O,?_⟩;exact aB HT Hb hG hv (fun _ _ _ _ _ h=>h) H O
 ·intro ay a w G1 _ ah hc hG HT hv;have H:=HT;clear ah;have H:=H.au (hv 4 24 (hc 4 Y) O) O;have H:=H.au (hv 11 31 (hc 11 Y) O) O;have Hb:=H.full;have H:=Hb;clear hc;refine kH H (Pf (dW c0) O ?_);clear H;intro a H;refine aj ⟨O,?_⟩;exact aB HT Hb hG hv (fun _ _ _ _ _ h=>h) H O
 clear H;intro a w G qb H hv;have H:=H.au (hv 12 32 O O) O;clear hv;refine aj ⟨O,?_⟩;refine dR _ _ ?_;clear dR;refine vV H O O ?_;refine kP H (Kc dG (SR fun _ fU=>av fU O ?_));clear H dG fU;intro a H;refine lr H results107 O ?_;have hkl:=fun (h:k < l.length)=>iR h
 exact H.rt (by
  rw [qG,aZ,<- hk]
  by_cases h:k < l.length
  ·obtain ⟨-,hx1,hx2,-,-⟩:=hx h;rw [hkl h] at hx1 hx2 |-
   simp only [rJ,kZ] at hx1 hx2
   dsimp only;rw [hx1,hx2]
   first|rw [aN c1]|rw [aL c1]|exact absurd h V
  rw [List.getElem?_eq_none V] <;> first|rfl|exact absurd c0 V)
theorem I8:bL 122:=bN func122 O
theorem Te:bL 123:=bN func123 O
theorem uU:gL prog 208 0 0:=⟨Z⟩
theorem Jf:gL prog 208 2 2:=⟨Z⟩
theorem mQ:gL prog 208 3 3:=⟨Z⟩
theorem zJ:gL prog 208 1 1:=⟨Z⟩
def IZ (c:Int):Bool:=decide (c=1∨c=2∨c=3)
theorem IY (G:GH) (w0:World) (hG:Hold G w0) (c:Int):Calls prog 122 #[vi c] w0 (bQ w0 G fun u G'=>u=.bool (IZ c)∧G=G'):=by
 refine eN [(0,_)] func122 O ntmps122 O O hG ?_;intro a H;refine kP H (SR fun _ K1=>av K1 O (SR fun _ K2=>Rm O (Rc O (Rm O (Sp 5 O ?_ ?_))))) <;> clear H K1
 ·intro h5 a H
  try have p5:=dT h5
  exact kH H (aO h5 O (Pt h5 O (Rm O (aO O O (Pt O O (av K2 O (LR results122 O fun H=>H.rt ⟨by simp only [IZ];congr 1;first|(rw [decide_eq_decide];omega)|(symm;rw [dU];omega)|(symm;rw [pQ];omega),rfl⟩)))))))
 intro h5 a H
 try have p5:=dF h5
 refine kH H (YM h5 O (YC h5 O (Pf h5 O (Rm O (Sp 9 O ?_ ?_))))) <;> clear H
 ·intro h9 a H
  try have p9:=dT h9
  exact kH H (aO h9 O (Pt h9 O (av K2 O (LR results122 O fun H=>H.rt ⟨by simp only [IZ];congr 1;first|(rw [decide_eq_decide];omega)|(symm;rw [dU];omega)|(symm;rw [pQ];omega),rfl⟩))))
 intro h9 a H
 try have p9:=dF h9
 exact kH H (YM h9 O (YC h9 O (Pf h9 O (av K2 O (LR results122 O fun H=>H.rt ⟨by simp only [IZ];congr 1;first|(rw [decide_eq_decide];omega)|(symm;rw [dU];omega)|(symm;rw [pQ];omega),rfl⟩)))))
def wo (a b:Int):Bool:=decide ((a=8∧(b=8∨b=9∨b=11∨b=12))∨((a=11∨a=9)∧(b=9∨b=10))∨((a=12∨a=10)∧b=10))
theorem Um (G:GH) (w0:World) (hG:Hold G w0) (a b:Int):Calls prog 123 #[vi a,vi b] w0 (bQ w0 G fun u G'=>u=.bool (wo a b)∧G=G'):=by
 refine eN [(0,_),(1,_)] func123 O ntmps123 O O hG ?_;intro a H;refine kP H (SR fun _ K1=>av K1 O (SQ fun _ K2=>SR fun _ K3=>Rm O (Kz K3 (SB (SR fun _ K4=>Rc O (av K4 O (Cd O ?_ ?_))))))) <;> clear H K1 K3 K4
 ·intro h6 a H
  try have p6:=dT h6
  refine kP H (SR fun _ K5=>Rm O (Rc O (Rm O (Sp 10 O ?_ ?_)))) <;> clear H
  ·intro h10 a H
   try have mG:=dT h10
   exact kH H (aO h10 O (Pt h10 O (Rm O (aO O O (Pt O O (Rm O (aO O O (Pt O O (av K5 O (LR results123 O fun H=>H.rt ⟨by simp only [wo];congr 1;first|(rw [decide_eq_decide];omega)|(symm;rw [dU];omega)|(symm;rw [pQ];omega),rfl⟩))))))))))
  intro h10 a H
  try have mG:=dF h10
  refine kH H (YM h10 O (YC h10 O (Pf h10 O (Rm O (Sp 14 O ?_ ?_))))) <;> clear H
  ·intro eD a H
   try have jC:=dT eD
   exact kH H (aO eD O (Pt eD O (Rm O (aO O O (Pt O O (av K5 O (LR results123 O fun H=>H.rt ⟨by simp only [wo];congr 1;first|(rw [decide_eq_decide];omega)|(symm;rw [dU];omega)|(symm;rw [pQ];omega),rfl⟩)))))))
  intro eD a H
  try have jC:=dF eD
  refine kH H (YM eD O (YC eD O (Pf eD O (Rm O (Sp 18 O ?_ ?_))))) <;> clear H
  ·intro h18 a H
   try have nY:=dT h18
   exact kH H (aO h18 O (Pt h18 O (av K5 O (LR results123 O fun H=>H.rt ⟨by simp only [wo];congr 1;first|(rw [decide_eq_decide];omega)|(symm;rw [dU];omega)|(symm;rw [pQ];omega),rfl⟩))))
  intro h18 a H
  try have nY:=dF h18
  exact kH H (YM h18 O (YC h18 O (Pf h18 O (av K5 O (LR results123 O fun H=>H.rt ⟨by simp only [wo];congr 1;first|(rw [decide_eq_decide];omega)|(symm;rw [dU];omega)|(symm;rw [pQ];omega),rfl⟩)))))
 intro h6 a H
 try have p6:=dF h6
 refine kP H (SQ fun _ K6=>SR fun _ K7=>Rc O (av K7 O (Cd O ?_ ?_))) <;> clear H K7
 ·intro h22 a H
  try have mX:=dT h22
  refine kP H (Kc K6 (Ct O h22 (SR fun _ K8=>Rm O (Rc O (Rm O (Sp 27 O ?_ ?_)))))) <;> clear H K6
  ·intro h27 a H
   try have p27:=dT h27
   exact kH H (aO h27 O (Pt h27 O (av K8 O (LR results123 O fun H=>H.rt ⟨by simp only [wo];congr 1;first|(rw [decide_eq_decide];omega)|(symm;rw [dU];omega)|(symm;rw [pQ];omega),rfl⟩))))
  intro h27 a H
  try have p27:=dF h27
  exact kH H (YM h27 O (YC h27 O (Pf h27 O (av K8 O (LR results123 O fun H=>H.rt ⟨by simp only [wo];congr 1;first|(rw [decide_eq_decide];omega)|(symm;rw [dU];omega)|(symm;rw [pQ];omega),rfl⟩)))))
 intro h22 a H
 try have mX:=dF h22
 refine kP H (SC (Rc O (bO K6 O (Cd O ?_ ?_)))) <;> clear H K6
 ·intro h22 a H
  try have mX:=dT h22
  refine kP H (SR fun _ K9=>Rm O (Rc O (Rm O (Sp 27 O ?_ ?_)))) <;> clear H
  ·intro h27 a H
   try have p27:=dT h27
   exact kH H (aO h27 O (Pt h27 O (av K9 O (LR results123 O fun H=>H.rt ⟨by simp only [wo];congr 1;first|(rw [decide_eq_decide];omega)|(symm;rw [dU];omega)|(symm;rw [pQ];omega),rfl⟩))))
  intro h27 a H
  try have p27:=dF h27
  exact kH H (YM h27 O (YC h27 O (Pf h27 O (av K9 O (LR results123 O fun H=>H.rt ⟨by simp only [wo];congr 1;first|(rw [decide_eq_decide];omega)|(symm;rw [dU];omega)|(symm;rw [pQ];omega),rfl⟩)))))
 intro h22 a H
 try have mX:=dF h22
 refine kP H (SQ fun _ aP=>SR fun _ aT=>Rc O (av aT O (Cd O ?_ ?_))) <;> clear H aT
 ·intro h31 a H
  try have p31:=dT h31
  exact kP H (Kc aP (Ct O h31 (SR fun _ bH=>Rm O (Rc O (av bH O (LR results123 O fun H=>H.rt ⟨by simp only [wo];congr 1;first|(rw [decide_eq_decide];omega)|(symm;rw [dU];omega)|(symm;rw [pQ];omega),rfl⟩))))))
 intro h31 a H
 try have p31:=dF h31
 refine kP H (SC (Rc O (bO aP O (Cd O ?_ ?_)))) <;> clear H aP
 ·intro h31 a H
  try have p31:=dT h31
  exact kP H (SR fun _ bG=>Rm O (Rc O (av bG O (LR results123 O fun H=>H.rt ⟨by simp only [wo];congr 1;first|(rw [decide_eq_decide];omega)|(symm;rw [dU];omega)|(symm;rw [pQ];omega),rfl⟩))))
 intro h31 a H
 try have p31:=dF h31
 exact kP H (Kc K2 (SR fun _ bX=>av bX O (LR results123 O fun H=>H.rt ⟨by simp only [wo];congr 1;first|(rw [decide_eq_decide];omega)|(symm;rw [dU];omega)|(symm;rw [pQ];omega),rfl⟩)))
structure wX where
 before:Int
 picture:Bool
 VZ:Bool
 qP:Int
abbrev bM (b:Nat) (m:wX):Nat × Obj:=(b,.cells #[vi m.before,.bool m.picture,.bool m.VZ,vi m.qP] 208 (0,0))
def iV (m:wX) (b:Int):Bool :=
 if m.before=1∧b=2 then false
 else if (m.before=1∨m.before=2∨m.before=3)∨(b=1∨b=2∨b=3) then true
 else if ((m.before=8∧(b=8∨b=9∨b=11∨b=12))∨((m.before=11∨m.before=9)∧(b=9∨b=10))∨((m.before=12∨m.before=10)∧b=10))∨b=4∨b=5∨b=7∨m.before=6 then false
 else if m.before=5∧b=14∧m.VZ=true then false
 else if m.before=13∧b=13∧m.qP.tmod 2=1 then false
 else true
def mI (m:wX) (c:Int):wX:=⟨c,decide (c=14) || (decide (c=4) && m.picture),decide (c=5) && m.picture,if c=13 then m.qP+1 else 0⟩
set_option maxHeartbeats 4000000 in
theorem Zv {G:GH} {w0:World} {bm:Nat} (m:wX) (b:Int) (hO:jN G [bM bm m] w0) :
  Calls prog 108 #[(aJ bm 0),vi b] w0 (jO w0 G [bM bm m] fun u G' L'=>G=G'∧L'=[bM bm m]∧u=.bool (iV m b)):=by
 refine mP (N:=64) (T:=[(0,_),(1,_)]) func108 O ntmps108 O O hO ?_;intro a H;refine kP H (SR fun _ K1=>av K1 O (SR fun _ K2=>Rm O (Rk O (fG uU aC 0 O O (av K2 O (SQ fun _ K3=>SB (SR fun _ K4=>Rm O (Rc O (Rm O (Sp 13 O ?_ ?_)))))))))) <;> clear H K1 K2
 ·intro mR a H
  try have yS:=dT mR
  first
  | (exfalso;omega)
  | (exact absurd mR Y)
  | (exfalso;omega)
  |skip
   refine kH H (YM mR O (YC mR O (Pt mR O (av K4 O (Cd O ?_ ?_))))) <;> clear H K4
   ·intro h10 a H
    try have mG:=dT h10
    first
    | (exfalso;omega)
    | (exact absurd h10 Y)
    | (exfalso;omega)
    |skip
     refine kP H (SR fun _ K5=>av K5 O ?_);clear H K5;intro a H;refine lr H results108 O ?_
     exact H.hp.dP ⟨O,O,by clear H;unfold iV;(repeat' split) <;> first|rfl|(exfalso;omega)|(exfalso;simp_all;done)⟩
   intro h10 a H
   try have mG:=dF h10
   first
   | (exfalso;omega)
   | (exact absurd h10 Y)
   | (exfalso;omega)
   |skip
    refine kP H (SR fun _ K6=>Rm O ?_);clear H;intro a H;refine s_call I8 H wn O (IY _ _ H.ro m.before) O ?_;clear H;rintro v19 _ a w ⟨rfl,rfl⟩ - H;refine kH H (Rm O (Sp 20 O ?_ ?_)) <;> clear H
    ·intro h20 a H
     try have vG:=dT h20
     first
     | (exfalso;omega)
     | (exact absurd h20 Y)
     | (exfalso;omega)
     |skip
      refine kH H (aO h20 O (Pt h20 O (av K6 O (Ct O O (SR fun _ K7=>av K7 O ?_)))));clear H K6 K7;intro a H;refine lr H results108 O ?_
      exact H.hp.dP ⟨O,O,by clear H;unfold iV;(repeat' split) <;> first|rfl|(exfalso;omega)|(exfalso;simp_all;done)⟩
    intro h20 a H
    try have vG:=dF h20
    first
    | (exfalso;omega)
    | (exact absurd h20 Y)
    | (exfalso;omega)
    |skip
     refine kH H (YM h20 O ?_);clear H;intro a H;refine s_call I8 H (wg H O O h20) O (IY _ _ H.ro b) O ?_;clear H;rintro v22 _ a w ⟨rfl,rfl⟩ - H;refine kH H (Pf h20 O (av K6 O (Cd O ?_ ?_))) <;> clear H K6
     ·intro eO a H
      try have mW:=dT eO
      first
      | (exfalso;omega)
      | (exact absurd eO Y)
      | (exfalso;omega)
      |skip
       refine kP H (SR fun _ K8=>av K8 O ?_);clear H K8;intro a H;refine lr H results108 O ?_
       exact H.hp.dP ⟨O,O,by clear H;unfold iV;(repeat' split) <;> first|rfl|(exfalso;omega)|(exfalso;simp_all;done)⟩
     intro eO a H
     try have mW:=dF eO
     first
     | (exfalso;omega)
     | (exact absurd eO Y)
     | (exfalso;omega)
     |skip
      refine kP H (SQ fun _ K9=>SR fun _ aP=>Rm O (Rm O ?_));clear H;intro a H;refine s_call Te H wn O (Um _ _ H.ro m.before b) O ?_;clear H;rintro v27 _ a w ⟨rfl,rfl⟩ - H;refine kH H (av aP O (Cd O ?_ ?_)) <;> clear H aP
      ·intro aQ a H
       try have gP:=dT aQ
       first
       | (exfalso;omega)
       | (exact absurd aQ Y)
       | (exfalso;omega)
       |skip
        refine kP H (Kc K9 (Ct O aQ (SR fun _ aT=>av aT O ?_)));clear H K9 aT;intro a H;refine lr H results108 O ?_
        exact H.hp.dP ⟨O,O,by clear H;unfold iV;(repeat' split) <;> first|rfl|(exfalso;omega)|(exfalso;simp_all;done)⟩
      intro aQ a H
      try have gP:=dF aQ
      first
      | (exfalso;omega)
      | (exact absurd aQ Y)
      | (exfalso;omega)
      |skip
       refine kP H (SR fun _ bH=>Rm O (Rc O (av bH O (Cd O ?_ ?_)))) <;> clear H bH
       ·intro aQ a H
        try have gP:=dT aQ
        first
        | (exfalso;omega)
        | (exact absurd aQ Y)
        | (exfalso;omega)
        |skip
         refine kP H (Kc K9 (Ct O aQ (SR fun _ bG=>av bG O ?_)));clear H K9 bG;intro a H;refine lr H results108 O ?_
         exact H.hp.dP ⟨O,O,by clear H;unfold iV;(repeat' split) <;> first|rfl|(exfalso;omega)|(exfalso;simp_all;done)⟩
       intro aQ a H
       try have gP:=dF aQ
       first
       | (exfalso;omega)
       | (exact absurd aQ Y)
       | (exfalso;omega)
       |skip
        refine kP H (SR fun _ bX=>Rm O (Rc O (av bX O (Cd O ?_ ?_)))) <;> clear H bX
        ·intro aQ a H
         try have gP:=dT aQ
         first
         | (exfalso;omega)
         | (exact absurd aQ Y)
         | (exfalso;omega)
         |skip
          refine kP H (Kc K9 (Ct O aQ (SR fun _ dG=>av dG O ?_)));clear H K9 dG;intro a H;refine lr H results108 O ?_
          exact H.hp.dP ⟨O,O,by clear H;unfold iV;(repeat' split) <;> first|rfl|(exfalso;omega)|(exfalso;simp_all;done)⟩
        intro aQ a H
        try have gP:=dF aQ
        first
        | (exfalso;omega)
        | (exact absurd aQ Y)
        | (exfalso;omega)
        |skip
         refine kP H (SR fun _ dR=>Rm O (Rc O (av dR O (Cd O ?_ ?_)))) <;> clear H dR
         ·intro aQ a H
          try have gP:=dT aQ
          first
          | (exfalso;omega)
          | (exact absurd aQ Y)
          | (exfalso;omega)
          |skip
           refine kP H (Kc K9 (Ct O aQ (SR fun _ fu=>av fu O ?_)));clear H K9 fu;intro a H;refine lr H results108 O ?_
           exact H.hp.dP ⟨O,O,by clear H;unfold iV;(repeat' split) <;> first|rfl|(exfalso;omega)|(exfalso;simp_all;done)⟩
         intro aQ a H
         try have gP:=dF aQ
         first
         | (exfalso;omega)
         | (exact absurd aQ Y)
         | (exfalso;omega)
         |skip
          refine kP H (SC (Rm O (Rc O (bO K9 O (Cd O ?_ ?_))))) <;> clear H K9
          ·intro aQ a H
           try have gP:=dT aQ
           first
           | (exfalso;omega)
           | (exact absurd aQ Y)
           | (exfalso;omega)
           |skip
            refine kP H (SR fun _ gF=>av gF O ?_);clear H gF;intro a H;refine lr H results108 O ?_
            exact H.hp.dP ⟨O,O,by clear H;unfold iV;(repeat' split) <;> first|rfl|(exfalso;omega)|(exfalso;simp_all;done)⟩
          intro aQ a H
          try have gP:=dF aQ
          first
          | (exfalso;omega)
          | (exact absurd aQ Y)
          | (exfalso;omega)
          |skip
           refine kP H (SR fun _ fU=>Rm O (Rc O (Rm O (Sp 39 O ?_ ?_)))) <;> clear H
           ·intro jB a H
            try have p39:=dT jB
            first
            | (exfalso;omega)
            | (exact absurd jB Y)
            | (exfalso;omega)
            |skip
             refine kH H (YM jB O (YC jB O (Pt jB O (Rm O (Sp 43 O ?_ ?_))))) <;> clear H
             ·intro h43 a H
              try have p43:=dT h43
              first
              | (exfalso;omega)
              | (exact absurd h43 Y)
              | (exfalso;omega)
              |skip
               refine kH H (YM h43 O ?_);clear H;intro a H;refine wD H (wg H O O h43) O O ?_;clear H;intro a H;refine kH H (YF Jf h43 O (YO kW 0 h43 O (Pt h43 O (av fU O (Cd O ?_ ?_))))) <;> clear H fU
               ·intro jS a H
                try have p36:=dT jS
                first
                | (exfalso;omega)
                | (exact absurd jS Y)
                | (exfalso;omega)
                |skip
                 refine kP H (SR fun _ jd=>av jd O ?_);clear H jd;intro a H;refine lr H results108 O ?_
                 exact H.hp.dP ⟨O,O,by clear H;unfold iV;(repeat' split) <;> first|rfl|(exfalso;omega)|(exfalso;simp_all;done)⟩
               intro jS a H
               try have p36:=dF jS
               first
               | (exfalso;omega)
               | (exact absurd jS Y)
               | (exfalso;omega)
               |skip
                refine kP H (SR fun _ jf=>Rm O (Rc O (Rm O (Sp 52 O ?_ ?_)))) <;> clear H
                ·intro aR a H
                 try have p52:=dT aR
                 first
                 | (exfalso;omega)
                 | (exact absurd aR Y)
                 | (exfalso;omega)
                 |skip
                  refine kH H (YM aR O (YC aR O (Pt aR O (Rm O (Sp 56 O ?_ ?_))))) <;> clear H
                  ·intro cZ a H
                   try have p56:=dT cZ
                   first
                   | (exfalso;omega)
                   | (exact absurd cZ Y)
                   | (exfalso;omega)
                   |skip
                    refine kH H (YM cZ O ?_);clear H;intro a H;refine wD H (wg H O O cZ) O O ?_;clear H;intro a H;refine kH H (YF mQ cZ O (YO aC 0 cZ O ?_));clear H;intro a H;refine CY (m.qP.tmod 2) H (wg H O O cZ) O O Y O O ?_;clear H;intro a H;refine kH H (YC cZ O (Pt cZ O (av jf O (Cd O ?_ ?_)))) <;> clear H jf
                    ·intro jI a H
                     try have p49:=dT jI
                     first
                     | (exfalso;omega)
                     | (exact absurd jI Y)
                     | (exfalso;omega)
                     |skip
                      refine kP H (SR fun _ iF=>av iF O ?_);clear H iF;intro a H;refine lr H results108 O ?_
                      exact H.hp.dP ⟨O,O,by clear H;unfold iV;(repeat' split) <;> first|rfl|(exfalso;omega)|(exfalso;simp_all;done)⟩
                    intro jI a H
                    try have p49:=dF jI
                    first
                    | (exfalso;omega)
                    | (exact absurd jI Y)
                    | (exfalso;omega)
                    |skip
                     refine kP H (Kc K3 (SR fun _ jM=>av jM O ?_));clear H K3 jM;intro a H;refine lr H results108 O ?_
                     exact H.hp.dP ⟨O,O,by clear H;unfold iV;(repeat' split) <;> first|rfl|(exfalso;omega)|(exfalso;simp_all;done)⟩
                  intro cZ a H
                  try have p56:=dF cZ
                  first
                  | (exfalso;omega)
                  | (exact absurd cZ Y)
                  | (exfalso;omega)
                  |skip
                   refine kH H (aV cZ O (aV cZ O (Pf cZ O (av jf O (Cf O O (Kc K3 (SR fun _ iI=>av iI O ?_)))))));clear H jf K3 iI;intro a H;refine lr H results108 O ?_
                   exact H.hp.dP ⟨O,O,by clear H;unfold iV;(repeat' split) <;> first|rfl|(exfalso;omega)|(exfalso;simp_all;done)⟩
                intro aR a H
                try have p52:=dF aR
                first
                | (exfalso;omega)
                | (exact absurd aR Y)
                | (exfalso;omega)
                |skip
                 refine kH H (aO aR O (Pf aR O (Rm O (aV O O (aV O O (Pf O O (av jf O (Cf O O (Kc K3 (SR fun _ lJ=>av lJ O ?_))))))))));clear H jf K3 lJ;intro a H;refine lr H results108 O ?_
                 exact H.hp.dP ⟨O,O,by clear H;unfold iV;(repeat' split) <;> first|rfl|(exfalso;omega)|(exfalso;simp_all;done)⟩
             intro h43 a H
             try have p43:=dF h43
             first
             | (exfalso;omega)
             | (exact absurd h43 Y)
             | (exfalso;omega)
             |skip
              refine kH H (aO h43 O (aO h43 O (Pf h43 O (av fU O (Cf O O (SR fun _ lK=>Rm O (Rc O (Rm O (Sp 52 O ?_ ?_))))))))) <;> clear H fU
              ·intro aR a H
               try have p52:=dT aR
               first
               | (exfalso;omega)
               | (exact absurd aR Y)
               | (exfalso;omega)
               |skip
                refine kH H (YM aR O (YC aR O (Pt aR O (Rm O (Sp 56 O ?_ ?_))))) <;> clear H
                ·intro cZ a H
                 try have p56:=dT cZ
                 first
                 | (exfalso;omega)
                 | (exact absurd cZ Y)
                 | (exfalso;omega)
                 |skip
                  refine kH H (YM cZ O ?_);clear H;intro a H;refine wD H (wg H O O cZ) O O ?_;clear H;intro a H;refine kH H (YF mQ cZ O (YO aC 0 cZ O ?_));clear H;intro a H;refine CY (m.qP.tmod 2) H (wg H O O cZ) O O Y O O ?_;clear H;intro a H;refine kH H (YC cZ O (Pt cZ O (av lK O (Cd O ?_ ?_)))) <;> clear H lK
                  ·intro jI a H
                   try have p49:=dT jI
                   first
                   | (exfalso;omega)
                   | (exact absurd jI Y)
                   | (exfalso;omega)
                   |skip
                    refine kP H (SR fun _ oh=>av oh O ?_);clear H oh;intro a H;refine lr H results108 O ?_
                    exact H.hp.dP ⟨O,O,by clear H;unfold iV;(repeat' split) <;> first|rfl|(exfalso;omega)|(exfalso;simp_all;done)⟩
                  intro jI a H
                  try have p49:=dF jI
                  first
                  | (exfalso;omega)
                  | (exact absurd jI Y)
                  | (exfalso;omega)
                  |skip
                   refine kP H (Kc K3 (SR fun _ jE=>av jE O ?_));clear H K3 jE;intro a H;refine lr H results108 O ?_
                   exact H.hp.dP ⟨O,O,by clear H;unfold iV;(repeat' split) <;> first|rfl|(exfalso;omega)|(exfalso;simp_all;done)⟩
                intro cZ a H
                try have p56:=dF cZ
                first
                | (exfalso;omega)
                | (exact absurd cZ Y)
                | (exfalso;omega)
                |skip
                 refine kH H (aV cZ O (aV cZ O (Pf cZ O (av lK O (Cf O O (Kc K3 (SR fun _ mM=>av mM O ?_)))))));clear H lK K3 mM;intro a H;refine lr H results108 O ?_
                 exact H.hp.dP ⟨O,O,by clear H;unfold iV;(repeat' split) <;> first|rfl|(exfalso;omega)|(exfalso;simp_all;done)⟩
              intro aR a H
              try have p52:=dF aR
              first
              | (exfalso;omega)
              | (exact absurd aR Y)
              | (exfalso;omega)
              |skip
               refine kH H (aO aR O (Pf aR O (Rm O (aV O O (aV O O (Pf O O (av lK O (Cf O O (Kc K3 (SR fun _ nI=>av nI O ?_))))))))));clear H lK K3 nI;intro a H;refine lr H results108 O ?_
               exact H.hp.dP ⟨O,O,by clear H;unfold iV;(repeat' split) <;> first|rfl|(exfalso;omega)|(exfalso;simp_all;done)⟩
           intro jB a H
           try have p39:=dF jB
           first
           | (exfalso;omega)
           | (exact absurd jB Y)
           | (exfalso;omega)
           |skip
            refine kH H (aO jB O (Pf jB O (Rm O (aO O O (aO O O (Pf O O (av fU O (Cf O O (SR fun _ lM=>Rm O (Rc O (Rm O (Sp 52 O ?_ ?_)))))))))))) <;> clear H fU
            ·intro aR a H
             try have p52:=dT aR
             first
             | (exfalso;omega)
             | (exact absurd aR Y)
             | (exfalso;omega)
             |skip
              refine kH H (YM aR O (YC aR O (Pt aR O (Rm O (Sp 56 O ?_ ?_))))) <;> clear H
              ·intro cZ a H
               try have p56:=dT cZ
               first
               | (exfalso;omega)
               | (exact absurd cZ Y)
               | (exfalso;omega)
               |skip
                refine kH H (YM cZ O ?_);clear H;intro a H;refine wD H (wg H O O cZ) O O ?_;clear H;intro a H;refine kH H (YF mQ cZ O (YO aC 0 cZ O ?_));clear H;intro a H;refine CY (m.qP.tmod 2) H (wg H O O cZ) O O Y O O ?_;clear H;intro a H;refine kH H (YC cZ O (Pt cZ O (av lM O (Cd O ?_ ?_)))) <;> clear H lM
                ·intro jI a H
                 try have p49:=dT jI
                 first
                 | (exfalso;omega)
                 | (exact absurd jI Y)
                 | (exfalso;omega)
                 |skip
                  refine kP H (SR fun _ qy=>av qy O ?_);clear H qy;intro a H;refine lr H results108 O ?_
                  exact H.hp.dP ⟨O,O,by clear H;unfold iV;(repeat' split) <;> first|rfl|(exfalso;omega)|(exfalso;simp_all;done)⟩
                intro jI a H
                try have p49:=dF jI
                first
                | (exfalso;omega)
                | (exact absurd jI Y)
                | (exfalso;omega)
                |skip
                 refine kP H (Kc K3 (SR fun _ qz=>av qz O ?_));clear H K3 qz;intro a H;refine lr H results108 O ?_
                 exact H.hp.dP ⟨O,O,by clear H;unfold iV;(repeat' split) <;> first|rfl|(exfalso;omega)|(exfalso;simp_all;done)⟩
              intro cZ a H
              try have p56:=dF cZ
              first
              | (exfalso;omega)
              | (exact absurd cZ Y)
              | (exfalso;omega)
              |skip
               refine kH H (aV cZ O (aV cZ O (Pf cZ O (av lM O (Cf O O (Kc K3 (SR fun _ nJ=>av nJ O ?_)))))));clear H lM K3 nJ;intro a H;refine lr H results108 O ?_
               exact H.hp.dP ⟨O,O,by clear H;unfold iV;(repeat' split) <;> first|rfl|(exfalso;omega)|(exfalso;simp_all;done)⟩
            intro aR a H
            try have p52:=dF aR
            first
            | (exfalso;omega)
            | (exact absurd aR Y)
            | (exfalso;omega)
            |skip
             refine kH H (aO aR O (Pf aR O (Rm O (aV O O (aV O O (Pf O O (av lM O (Cf O O (Kc K3 (SR fun _ lN=>av lN O ?_))))))))));clear H lM K3 lN;intro a H;refine lr H results108 O ?_
             exact H.hp.dP ⟨O,O,by clear H;unfold iV;(repeat' split) <;> first|rfl|(exfalso;omega)|(exfalso;simp_all;done)⟩
 intro mR a H
 try have yS:=dF mR
 first
 | (exfalso;omega)
 | (exact absurd mR Y)
 | (exfalso;omega)
 |skip
  refine kH H (aO mR O (Pf mR O (av K4 O (Cf O O (SR fun _ rz=>Rm O ?_)))));clear H K4;intro a H;refine s_call I8 H wn O (IY _ _ H.ro m.before) O ?_;clear H;rintro v19 _ a w ⟨rfl,rfl⟩ - H;refine kH H (Rm O (Sp 20 O ?_ ?_)) <;> clear H
  ·intro h20 a H
   try have vG:=dT h20
   first
   | (exfalso;omega)
   | (exact absurd h20 Y)
   | (exfalso;omega)
   |skip
    refine kH H (aO h20 O (Pt h20 O (av rz O (Ct O O (SR fun _ rC=>av rC O ?_)))));clear H rz rC;intro a H;refine lr H results108 O ?_
    exact H.hp.dP ⟨O,O,by clear H;unfold iV;(repeat' split) <;> first|rfl|(exfalso;omega)|(exfalso;simp_all;done)⟩
  intro h20 a H
  try have vG:=dF h20
  first
  | (exfalso;omega)
  | (exact absurd h20 Y)
  | (exfalso;omega)
  |skip
   refine kH H (YM h20 O ?_);clear H;intro a H;refine s_call I8 H (wg H O O h20) O (IY _ _ H.ro b) O ?_;clear H;rintro v22 _ a w ⟨rfl,rfl⟩ - H;refine kH H (Pf h20 O (av rz O (Cd O ?_ ?_))) <;> clear H rz
   ·intro eO a H
    try have mW:=dT eO
    first
    | (exfalso;omega)
    | (exact absurd eO Y)
    | (exfalso;omega)
    |skip
     refine kP H (SR fun _ tJ=>av tJ O ?_);clear H tJ;intro a H;refine lr H results108 O ?_
     exact H.hp.dP ⟨O,O,by clear H;unfold iV;(repeat' split) <;> first|rfl|(exfalso;omega)|(exfalso;simp_all;done)⟩
   intro eO a H
   try have mW:=dF eO
   first
   | (exfalso;omega)
   | (exact absurd eO Y)
   | (exfalso;omega)
   |skip
    refine kP H (SQ fun _ nK=>SR fun _ nL=>Rm O (Rm O ?_));clear H;intro a H;refine s_call Te H wn O (Um _ _ H.ro m.before b) O ?_;clear H;rintro v27 _ a w ⟨rfl,rfl⟩ - H;refine kH H (av nL O (Cd O ?_ ?_)) <;> clear H nL
    ·intro aQ a H
     try have gP:=dT aQ
     first
     | (exfalso;omega)
     | (exact absurd aQ Y)
     | (exfalso;omega)
     |skip
      refine kP H (Kc nK (Ct O aQ (SR fun _ sj=>av sj O ?_)));clear H nK sj;intro a H;refine lr H results108 O ?_
      exact H.hp.dP ⟨O,O,by clear H;unfold iV;(repeat' split) <;> first|rfl|(exfalso;omega)|(exfalso;simp_all;done)⟩
    intro aQ a H
    try have gP:=dF aQ
    first
    | (exfalso;omega)
    | (exact absurd aQ Y)
    | (exfalso;omega)
    |skip
     refine kP H (SR fun _ wR=>Rm O (Rc O (av wR O (Cd O ?_ ?_)))) <;> clear H wR
     ·intro aQ a H
      try have gP:=dT aQ
      first
      | (exfalso;omega)
      | (exact absurd aQ Y)
      | (exfalso;omega)
      |skip
       refine kP H (Kc nK (Ct O aQ (SR fun _ sw=>av sw O ?_)));clear H nK sw;intro a H;refine lr H results108 O ?_
       exact H.hp.dP ⟨O,O,by clear H;unfold iV;(repeat' split) <;> first|rfl|(exfalso;omega)|(exfalso;simp_all;done)⟩
     intro aQ a H
     try have gP:=dF aQ
     first
     | (exfalso;omega)
     | (exact absurd aQ Y)
     | (exfalso;omega)
     |skip
      refine kP H (SR fun _ wS=>Rm O (Rc O (av wS O (Cd O ?_ ?_)))) <;> clear H wS
      ·intro aQ a H
       try have gP:=dT aQ
       first
       | (exfalso;omega)
       | (exact absurd aQ Y)
       | (exfalso;omega)
       |skip
        refine kP H (Kc nK (Ct O aQ (SR fun _ wT=>av wT O ?_)));clear H nK wT;intro a H;refine lr H results108 O ?_
        exact H.hp.dP ⟨O,O,by clear H;unfold iV;(repeat' split) <;> first|rfl|(exfalso;omega)|(exfalso;simp_all;done)⟩
      intro aQ a H
      try have gP:=dF aQ
      first
      | (exfalso;omega)
      | (exact absurd aQ Y)
      | (exfalso;omega)
      |skip
       refine kP H (SR fun _ Az=>Rm O (Rc O (av Az O (Cd O ?_ ?_)))) <;> clear H Az
       ·intro aQ a H
        try have gP:=dT aQ
        first
        | (exfalso;omega)
        | (exact absurd aQ Y)
        | (exfalso;omega)
        |skip
         refine kP H (Kc nK (Ct O aQ (SR fun _ yu=>av yu O ?_)));clear H nK yu;intro a H;refine lr H results108 O ?_
         exact H.hp.dP ⟨O,O,by clear H;unfold iV;(repeat' split) <;> first|rfl|(exfalso;omega)|(exfalso;simp_all;done)⟩
       intro aQ a H
       try have gP:=dF aQ
       first
       | (exfalso;omega)
       | (exact absurd aQ Y)
       | (exfalso;omega)
       |skip
        refine kP H (SC (Rm O (Rc O (bO nK O (Cd O ?_ ?_))))) <;> clear H nK
        ·intro aQ a H
         try have gP:=dT aQ
         first
         | (exfalso;omega)
         | (exact absurd aQ Y)
         | (exfalso;omega)
         |skip
          refine kP H (SR fun _ AA=>av AA O ?_);clear H AA;intro a H;refine lr H results108 O ?_
          exact H.hp.dP ⟨O,O,by clear H;unfold iV;(repeat' split) <;> first|rfl|(exfalso;omega)|(exfalso;simp_all;done)⟩
        intro aQ a H
        try have gP:=dF aQ
        first
        | (exfalso;omega)
        | (exact absurd aQ Y)
        | (exfalso;omega)
        |skip
         refine kP H (SR fun _ vN=>Rm O (Rc O (Rm O (Sp 39 O ?_ ?_)))) <;> clear H
         ·intro jB a H
          try have p39:=dT jB
          first
          | (exfalso;omega)
          | (exact absurd jB Y)
          | (exfalso;omega)
          |skip
           refine kH H (YM jB O (YC jB O (Pt jB O (Rm O (Sp 43 O ?_ ?_))))) <;> clear H
           ·intro h43 a H
            try have p43:=dT h43
            first
            | (exfalso;omega)
            | (exact absurd h43 Y)
            | (exfalso;omega)
            |skip
             refine kH H (YM h43 O ?_);clear H;intro a H;refine wD H (wg H O O h43) O O ?_;clear H;intro a H;refine kH H (YF Jf h43 O (YO kW 0 h43 O (Pt h43 O (av vN O (Cd O ?_ ?_))))) <;> clear H vN
             ·intro jS a H
              try have p36:=dT jS
              first
              | (exfalso;omega)
              | (exact absurd jS Y)
              | (exfalso;omega)
              |skip
               refine kP H (SR fun _ yw=>av yw O ?_);clear H yw;intro a H;refine lr H results108 O ?_
               exact H.hp.dP ⟨O,O,by clear H;unfold iV;(repeat' split) <;> first|rfl|(exfalso;omega)|(exfalso;simp_all;done)⟩
             intro jS a H
             try have p36:=dF jS
             first
             | (exfalso;omega)
             | (exact absurd jS Y)
             | (exfalso;omega)
             |skip
              refine kP H (SR fun _ vO=>Rm O (Rc O (Rm O (Sp 52 O ?_ ?_)))) <;> clear H
              ·intro aR a H
               try have p52:=dT aR
               first
               | (exfalso;omega)
               | (exact absurd aR Y)
               | (exfalso;omega)
               |skip
                refine kH H (YM aR O (YC aR O (Pt aR O (Rm O (Sp 56 O ?_ ?_))))) <;> clear H
                ·intro cZ a H
                 try have p56:=dT cZ
                 first
                 | (exfalso;omega)
                 | (exact absurd cZ Y)
                 | (exfalso;omega)
                 |skip
                  refine kH H (YM cZ O ?_);clear H;intro a H;refine wD H (wg H O O cZ) O O ?_;clear H;intro a H;refine kH H (YF mQ cZ O (YO aC 0 cZ O ?_));clear H;intro a H;refine CY (m.qP.tmod 2) H (wg H O O cZ) O O Y O O ?_;clear H;intro a H;refine kH H (YC cZ O (Pt cZ O (av vO O (Cd O ?_ ?_)))) <;> clear H vO
                  ·intro jI a H
                   try have p49:=dT jI
                   first
                   | (exfalso;omega)
                   | (exact absurd jI Y)
                   | (exfalso;omega)
                   |skip
                    refine kP H (SR fun _ rD=>av rD O ?_);clear H rD;intro a H;refine lr H results108 O ?_
                    exact H.hp.dP ⟨O,O,by clear H;unfold iV;(repeat' split) <;> first|rfl|(exfalso;omega)|(exfalso;simp_all;done)⟩
                  intro jI a H
                  try have p49:=dF jI
                  first
                  | (exfalso;omega)
                  | (exact absurd jI Y)
                  | (exfalso;omega)
                  |skip
                   refine kP H (Kc K3 (SR fun _ AB=>av AB O ?_));clear H K3 AB;intro a H;refine lr H results108 O ?_
                   exact H.hp.dP ⟨O,O,by clear H;unfold iV;(repeat' split) <;> first|rfl|(exfalso;omega)|(exfalso;simp_all;done)⟩
                intro cZ a H
                try have p56:=dF cZ
                first
                | (exfalso;omega)
                | (exact absurd cZ Y)
                | (exfalso;omega)
                |skip
                 refine kH H (aV cZ O (aV cZ O (Pf cZ O (av vO O (Cf O O (Kc K3 (SR fun _ AJ=>av AJ O ?_)))))));clear H vO K3 AJ;intro a H;refine lr H results108 O ?_
                 exact H.hp.dP ⟨O,O,by clear H;unfold iV;(repeat' split) <;> first|rfl|(exfalso;omega)|(exfalso;simp_all;done)⟩
              intro aR a H
              try have p52:=dF aR
              first
              | (exfalso;omega)
              | (exact absurd aR Y)
              | (exfalso;omega)
              |skip
               refine kH H (aO aR O (Pf aR O (Rm O (aV O O (aV O O (Pf O O (av vO O (Cf O O (Kc K3 (SR fun _ AL=>av AL O ?_))))))))));clear H vO K3 AL;intro a H;refine lr H results108 O ?_
               exact H.hp.dP ⟨O,O,by clear H;unfold iV;(repeat' split) <;> first|rfl|(exfalso;omega)|(exfalso;simp_all;done)⟩
           intro h43 a H
           try have p43:=dF h43
           first
           | (exfalso;omega)
           | (exact absurd h43 Y)
           | (exfalso;omega)
           |skip
            refine kH H (aO h43 O (aO h43 O (Pf h43 O (av vN O (Cf O O (SR fun _ vP=>Rm O (Rc O (Rm O (Sp 52 O ?_ ?_))))))))) <;> clear H vN
            ·intro aR a H
             try have p52:=dT aR
             first
             | (exfalso;omega)
             | (exact absurd aR Y)
             | (exfalso;omega)
             |skip
              refine kH H (YM aR O (YC aR O (Pt aR O (Rm O (Sp 56 O ?_ ?_))))) <;> clear H
              ·intro cZ a H
               try have p56:=dT cZ
               first
               | (exfalso;omega)
               | (exact absurd cZ Y)
               | (exfalso;omega)
               |skip
                refine kH H (YM cZ O ?_);clear H;intro a H;refine wD H (wg H O O cZ) O O ?_;clear H;intro a H;refine kH H (YF mQ cZ O (YO aC 0 cZ O ?_));clear H;intro a H;refine CY (m.qP.tmod 2) H (wg H O O cZ) O O Y O O ?_;clear H;intro a H;refine kH H (YC cZ O (Pt cZ O (av vP O (Cd O ?_ ?_)))) <;> clear H vP
                ·intro jI a H
                 try have p49:=dT jI
                 first
                 | (exfalso;omega)
                 | (exact absurd jI Y)
                 | (exfalso;omega)
                 |skip
                  refine kP H (SR fun _ Fh=>av Fh O ?_);clear H Fh;intro a H;refine lr H results108 O ?_
                  exact H.hp.dP ⟨O,O,by clear H;unfold iV;(repeat' split) <;> first|rfl|(exfalso;omega)|(exfalso;simp_all;done)⟩
                intro jI a H
                try have p49:=dF jI
                first
                | (exfalso;omega)
                | (exact absurd jI Y)
                | (exfalso;omega)
                |skip
                 refine kP H (Kc K3 (SR fun _ Fj=>av Fj O ?_));clear H K3 Fj;intro a H;refine lr H results108 O ?_
                 exact H.hp.dP ⟨O,O,by clear H;unfold iV;(repeat' split) <;> first|rfl|(exfalso;omega)|(exfalso;simp_all;done)⟩
              intro cZ a H
              try have p56:=dF cZ
              first
              | (exfalso;omega)
              | (exact absurd cZ Y)
              | (exfalso;omega)
              |skip
               refine kH H (aV cZ O (aV cZ O (Pf cZ O (av vP O (Cf O O (Kc K3 (SR fun _ Fp=>av Fp O ?_)))))));clear H vP K3 Fp;intro a H;refine lr H results108 O ?_
               exact H.hp.dP ⟨O,O,by clear H;unfold iV;(repeat' split) <;> first|rfl|(exfalso;omega)|(exfalso;simp_all;done)⟩
            intro aR a H
            try have p52:=dF aR
            first
            | (exfalso;omega)
            | (exact absurd aR Y)
            | (exfalso;omega)
            |skip
             refine kH H (aO aR O (Pf aR O (Rm O (aV O O (aV O O (Pf O O (av vP O (Cf O O (Kc K3 (SR fun _ Fq=>av Fq O ?_))))))))));clear H vP K3 Fq;intro a H;refine lr H results108 O ?_
             exact H.hp.dP ⟨O,O,by clear H;unfold iV;(repeat' split) <;> first|rfl|(exfalso;omega)|(exfalso;simp_all;done)⟩
         intro jB a H
         try have p39:=dF jB
         first
         | (exfalso;omega)
         | (exact absurd jB Y)
         | (exfalso;omega)
         |skip
          refine kH H (aO jB O (Pf jB O (Rm O (aO O O (aO O O (Pf O O (av vN O (Cf O O (SR fun _ zu=>Rm O (Rc O (Rm O (Sp 52 O ?_ ?_)))))))))))) <;> clear H vN
          ·intro aR a H
           try have p52:=dT aR
           first
           | (exfalso;omega)
           | (exact absurd aR Y)
           | (exfalso;omega)
           |skip
            refine kH H (YM aR O (YC aR O (Pt aR O (Rm O (Sp 56 O ?_ ?_))))) <;> clear H
            ·intro cZ a H
             try have p56:=dT cZ
             first
             | (exfalso;omega)
             | (exact absurd cZ Y)
             | (exfalso;omega)
             |skip
              refine kH H (YM cZ O ?_);clear H;intro a H;refine wD H (wg H O O cZ) O O ?_;clear H;intro a H;refine kH H (YF mQ cZ O (YO aC 0 cZ O ?_));clear H;intro a H;refine CY (m.qP.tmod 2) H (wg H O O cZ) O O Y O O ?_;clear H;intro a H;refine kH H (YC cZ O (Pt cZ O (av zu O (Cd O ?_ ?_)))) <;> clear H zu
              ·intro jI a H
               try have p49:=dT jI
               first
               | (exfalso;omega)
               | (exact absurd jI Y)
               | (exfalso;omega)
               |skip
                refine kP H (SR fun _ Fu=>av Fu O ?_);clear H Fu;intro a H;refine lr H results108 O ?_
                exact H.hp.dP ⟨O,O,by clear H;unfold iV;(repeat' split) <;> first|rfl|(exfalso;omega)|(exfalso;simp_all;done)⟩
              intro jI a H
              try have p49:=dF jI
              first
              | (exfalso;omega)
              | (exact absurd jI Y)
              | (exfalso;omega)
              |skip
               refine kP H (Kc K3 (SR fun _ uL=>av uL O ?_));clear H K3 uL;intro a H;refine lr H results108 O ?_
               exact H.hp.dP ⟨O,O,by clear H;unfold iV;(repeat' split) <;> first|rfl|(exfalso;omega)|(exfalso;simp_all;done)⟩
            intro cZ a H
            try have p56:=dF cZ
            first
            | (exfalso;omega)
            | (exact absurd cZ Y)
            | (exfalso;omega)
            |skip
             refine kH H (aV cZ O (aV cZ O (Pf cZ O (av zu O (Cf O O (Kc K3 (SR fun _ Fv=>av Fv O ?_)))))));clear H zu K3 Fv;intro a H;refine lr H results108 O ?_
             exact H.hp.dP ⟨O,O,by clear H;unfold iV;(repeat' split) <;> first|rfl|(exfalso;omega)|(exfalso;simp_all;done)⟩
          intro aR a H
          try have p52:=dF aR
          first
          | (exfalso;omega)
          | (exact absurd aR Y)
          | (exfalso;omega)
          |skip
           refine kH H (aO aR O (Pf aR O (Rm O (aV O O (aV O O (Pf O O (av zu O (Cf O O (Kc K3 (SR fun _ Fw=>av Fw O ?_))))))))));clear H zu K3 Fw;intro a H;refine lr H results108 O ?_
           exact H.hp.dP ⟨O,O,by clear H;unfold iV;(repeat' split) <;> first|rfl|(exfalso;omega)|(exfalso;simp_all;done)⟩
theorem EN {G:GH} {w0:World} {bm:Nat} (m:wX) (c:Int) (hO:jN G [bM bm m] w0) (hr:0<=m.qP∧m.qP<=4294967296) :
  Calls prog 109 #[(aJ bm 0),vi c] w0 (jO w0 G [bM bm m] fun u G' L'=>G=G'∧L'=[bM bm (mI m c)]):=by
 refine mP (N:=46) (T:=[(0,_),(1,_)]) func109 O ntmps109 O O hO ?_;intro a H;refine kP H (SR fun _ K1=>Rm O (Rm O (Rc O (Rm O (Sp 7 O ?_ ?_))))) <;> clear H
 ·intro h7 a H
  try have p7:=dT h7
  first
  | (exfalso;omega)
  | (exact absurd h7 Y)
  | (exfalso;omega)
  |skip
   refine kH H (YM h7 O ?_);clear H;intro a H;refine wD H (wg H O O h7) O O ?_;clear H;intro a H;refine kH H (YF zJ h7 O (YO kW 0 h7 O (Pt h7 O (Rk O (Rf Jf O ?_)))));clear H;intro a H;refine bg kW 0 (vs:=[_]) H wn O ?_;clear H;intro w H;refine K1 _ _ ?_;clear K1;refine kP H (SR fun _ K2=>Rm O (Rm O (Rc O (Rm O (Sp 18 O ?_ ?_))))) <;> clear H
   ·intro h18 a H
    try have nY:=dT h18
    first
    | (exfalso;omega)
    | (exact absurd h18 Y)
    | (exfalso;omega)
    |skip
     refine kH H (aV h18 O (Ku O (Ku O (Ku O (Ku O (Ks h18 O (Pt h18 O (Rk O (Rf zJ O ?_)))))))));clear H;intro a H;refine bg kW 0 (vs:=[_]) H wn O ?_;clear H;intro w H;refine K2 _ _ ?_;clear K2;refine kP H (SQ fun _ K3=>SR fun _ K4=>Rm O (Rc O (Kz K4 (Cd O ?_ ?_)))) <;> clear H K4
     ·intro h31 a H
      try have p31:=dT h31
      first
      | (exfalso;omega)
      | (exact absurd h31 Y)
      | (exfalso;omega)
      |skip
       refine kP H (SC (Rm O (Rk O (fG mQ aC 0 O O (Rd O (Rk O (Rf mQ O ?_)))))));clear H;intro a H;refine bg aC 0 (vs:=[_]) H wn O ?_;clear H;intro w H;refine kH H (Kn K3 (SC (Rm O (Rm O (Rk O (Rf uU O ?_))))));clear H K3;intro a H;refine bg aC 0 (vs:=[_]) H wn O ?_;clear H;intro w H;refine aj ?_;refine (leave0 H results109 ?_).2;exact H.hp.dP ⟨O,by simp [mI, *]⟩
     intro h31 a H
     try have p31:=dF h31
     first
     | (exfalso;omega)
     | (exact absurd h31 Y)
     | (exfalso;omega)
     |skip
      refine kP H (SC (Rm O (Rk O (Rf mQ O ?_))));clear H;intro a H;refine bg aC 0 (vs:=[_]) H wn O ?_;clear H;intro w H;refine kH H (Kn K3 (SC (Rm O (Rm O (Rk O (Rf uU O ?_))))));clear H K3;intro a H;refine bg aC 0 (vs:=[_]) H wn O ?_;clear H;intro w H;refine aj ?_;refine (leave0 H results109 ?_).2;exact H.hp.dP ⟨O,by simp [mI, *]⟩
   intro h18 a H
   try have nY:=dF h18
   first
   | (exfalso;omega)
   | (exact absurd h18 Y)
   | (exfalso;omega)
   |skip
    refine kH H (YM h18 O (YC h18 O (YM h18 O (Sp 21 O ?_ ?_)))) <;> clear H
    ·intro h21 a H
     try have mH:=dT h21
     first
     | (exfalso;omega)
     | (exact absurd h21 Y)
     | (exfalso;omega)
     |skip
      refine kH H (YM h21 O ?_);clear H;intro a H;refine wD H (wg H O O h21) O O ?_;clear H;intro a H;refine kH H (YF zJ h21 O (YO kW 0 h21 O (PT h18 h21 O (Pf h18 O (Rk O (Rf zJ O ?_))))));clear H;intro a H;refine bg kW 0 (vs:=[_]) H wn O ?_;clear H;intro w H;refine K2 _ _ ?_;clear K2;refine kP H (SQ fun _ K5=>SR fun _ K6=>Rm O (Rc O (Kz K6 (Cd O ?_ ?_)))) <;> clear H K6
      ·intro h31 a H
       try have p31:=dT h31
       first
       | (exfalso;omega)
       | (exact absurd h31 Y)
       | (exfalso;omega)
       |skip
        refine kP H (SC (Rm O (Rk O (fG mQ aC 0 O O (Rd O (Rk O (Rf mQ O ?_)))))));clear H;intro a H;refine bg aC 0 (vs:=[_]) H wn O ?_;clear H;intro w H;refine kH H (Kn K5 (SC (Rm O (Rm O (Rk O (Rf uU O ?_))))));clear H K5;intro a H;refine bg aC 0 (vs:=[_]) H wn O ?_;clear H;intro w H;refine aj ?_;refine (leave0 H results109 ?_).2;exact H.hp.dP ⟨O,by simp [mI, *]⟩
      intro h31 a H
      try have p31:=dF h31
      first
      | (exfalso;omega)
      | (exact absurd h31 Y)
      | (exfalso;omega)
      |skip
       refine kP H (SC (Rm O (Rk O (Rf mQ O ?_))));clear H;intro a H;refine bg aC 0 (vs:=[_]) H wn O ?_;clear H;intro w H;refine kH H (Kn K5 (SC (Rm O (Rm O (Rk O (Rf uU O ?_))))));clear H K5;intro a H;refine bg aC 0 (vs:=[_]) H wn O ?_;clear H;intro w H;refine aj ?_;refine (leave0 H results109 ?_).2;exact H.hp.dP ⟨O,by simp [mI, *]⟩
    intro h21 a H
    try have mH:=dF h21
    first
    | (exfalso;omega)
    | (exact absurd h21 Y)
    | (exfalso;omega)
    |skip
     refine kH H (aO h21 O (aO h21 O (PF h18 h21 O (Pf h18 O (Rk O (Rf zJ O ?_))))));clear H;intro a H;refine bg kW 0 (vs:=[_]) H wn O ?_;clear H;intro w H;refine K2 _ _ ?_;clear K2;refine kP H (SQ fun _ K7=>SR fun _ K8=>Rm O (Rc O (Kz K8 (Cd O ?_ ?_)))) <;> clear H K8
     ·intro h31 a H
      try have p31:=dT h31
      first
      | (exfalso;omega)
      | (exact absurd h31 Y)
      | (exfalso;omega)
      |skip
       refine kP H (SC (Rm O (Rk O (fG mQ aC 0 O O (Rd O (Rk O (Rf mQ O ?_)))))));clear H;intro a H;refine bg aC 0 (vs:=[_]) H wn O ?_;clear H;intro w H;refine kH H (Kn K7 (SC (Rm O (Rm O (Rk O (Rf uU O ?_))))));clear H K7;intro a H;refine bg aC 0 (vs:=[_]) H wn O ?_;clear H;intro w H;refine aj ?_;refine (leave0 H results109 ?_).2;exact H.hp.dP ⟨O,by simp [mI, *]⟩
     intro h31 a H
     try have p31:=dF h31
     first
     | (exfalso;omega)
     | (exact absurd h31 Y)
     | (exfalso;omega)
     |skip
      refine kP H (SC (Rm O (Rk O (Rf mQ O ?_))));clear H;intro a H;refine bg aC 0 (vs:=[_]) H wn O ?_;clear H;intro w H;refine kH H (Kn K7 (SC (Rm O (Rm O (Rk O (Rf uU O ?_))))));clear H K7;intro a H;refine bg aC 0 (vs:=[_]) H wn O ?_;clear H;intro w H;refine aj ?_;refine (leave0 H results109 ?_).2;exact H.hp.dP ⟨O,by simp [mI, *]⟩
 intro h7 a H
 try have p7:=dF h7
 first
 | (exfalso;omega)
 | (exact absurd h7 Y)
 | (exfalso;omega)
 |skip
  refine kH H (aO h7 O (aO h7 O (Pf h7 O (Rk O (Rf Jf O ?_)))));clear H;intro a H;refine bg kW 0 (vs:=[_]) H wn O ?_;clear H;intro w H;refine K1 _ _ ?_;clear K1;refine kP H (SR fun _ K9=>Rm O (Rm O (Rc O (Rm O (Sp 18 O ?_ ?_))))) <;> clear H
  ·intro h18 a H
   try have nY:=dT h18
   first
   | (exfalso;omega)
   | (exact absurd h18 Y)
   | (exfalso;omega)
   |skip
    refine kH H (aV h18 O (Ku O (Ku O (Ku O (Ku O (Ks h18 O (Pt h18 O (Rk O (Rf zJ O ?_)))))))));clear H;intro a H;refine bg kW 0 (vs:=[_]) H wn O ?_;clear H;intro w H;refine K9 _ _ ?_;clear K9;refine kP H (SQ fun _ aP=>SR fun _ aT=>Rm O (Rc O (Kz aT (Cd O ?_ ?_)))) <;> clear H aT
    ·intro h31 a H
     try have p31:=dT h31
     first
     | (exfalso;omega)
     | (exact absurd h31 Y)
     | (exfalso;omega)
     |skip
      refine kP H (SC (Rm O (Rk O (fG mQ aC 0 O O (Rd O (Rk O (Rf mQ O ?_)))))));clear H;intro a H;refine bg aC 0 (vs:=[_]) H wn O ?_;clear H;intro w H;refine kH H (Kn aP (SC (Rm O (Rm O (Rk O (Rf uU O ?_))))));clear H aP;intro a H;refine bg aC 0 (vs:=[_]) H wn O ?_;clear H;intro w H;refine aj ?_;refine (leave0 H results109 ?_).2;exact H.hp.dP ⟨O,by simp [mI, *]⟩
    intro h31 a H
    try have p31:=dF h31
    first
    | (exfalso;omega)
    | (exact absurd h31 Y)
    | (exfalso;omega)
    |skip
     refine kP H (SC (Rm O (Rk O (Rf mQ O ?_))));clear H;intro a H;refine bg aC 0 (vs:=[_]) H wn O ?_;clear H;intro w H;refine kH H (Kn aP (SC (Rm O (Rm O (Rk O (Rf uU O ?_))))));clear H aP;intro a H;refine bg aC 0 (vs:=[_]) H wn O ?_;clear H;intro w H;refine aj ?_;refine (leave0 H results109 ?_).2;exact H.hp.dP ⟨O,by simp [mI, *]⟩
  intro h18 a H
  try have nY:=dF h18
  first
  | (exfalso;omega)
  | (exact absurd h18 Y)
  | (exfalso;omega)
  |skip
   refine kH H (YM h18 O (YC h18 O (YM h18 O (Sp 21 O ?_ ?_)))) <;> clear H
   ·intro h21 a H
    try have mH:=dT h21
    first
    | (exfalso;omega)
    | (exact absurd h21 Y)
    | (exfalso;omega)
    |skip
     refine kH H (YM h21 O ?_);clear H;intro a H;refine wD H (wg H O O h21) O O ?_;clear H;intro a H;refine kH H (YF zJ h21 O (YO kW 0 h21 O (PT h18 h21 O (Pf h18 O (Rk O (Rf zJ O ?_))))));clear H;intro a H;refine bg kW 0 (vs:=[_]) H wn O ?_;clear H;intro w H;refine K9 _ _ ?_;clear K9;refine kP H (SQ fun _ bH=>SR fun _ bG=>Rm O (Rc O (Kz bG (Cd O ?_ ?_)))) <;> clear H bG
     ·intro h31 a H
      try have p31:=dT h31
      first
      | (exfalso;omega)
      | (exact absurd h31 Y)
      | (exfalso;omega)
      |skip
       refine kP H (SC (Rm O (Rk O (fG mQ aC 0 O O (Rd O (Rk O (Rf mQ O ?_)))))));clear H;intro a H;refine bg aC 0 (vs:=[_]) H wn O ?_;clear H;intro w H;refine kH H (Kn bH (SC (Rm O (Rm O (Rk O (Rf uU O ?_))))));clear H bH;intro a H;refine bg aC 0 (vs:=[_]) H wn O ?_;clear H;intro w H;refine aj ?_;refine (leave0 H results109 ?_).2;exact H.hp.dP ⟨O,by simp [mI, *]⟩
     intro h31 a H
     try have p31:=dF h31
     first
     | (exfalso;omega)
     | (exact absurd h31 Y)
     | (exfalso;omega)
     |skip
      refine kP H (SC (Rm O (Rk O (Rf mQ O ?_))));clear H;intro a H;refine bg aC 0 (vs:=[_]) H wn O ?_;clear H;intro w H;refine kH H (Kn bH (SC (Rm O (Rm O (Rk O (Rf uU O ?_))))));clear H bH;intro a H;refine bg aC 0 (vs:=[_]) H wn O ?_;clear H;intro w H;refine aj ?_;refine (leave0 H results109 ?_).2;exact H.hp.dP ⟨O,by simp [mI, *]⟩
   intro h21 a H
   try have mH:=dF h21
   first
   | (exfalso;omega)
   | (exact absurd h21 Y)
   | (exfalso;omega)
   |skip
    refine kH H (aO h21 O (aO h21 O (PF h18 h21 O (Pf h18 O (Rk O (Rf zJ O ?_))))));clear H;intro a H;refine bg kW 0 (vs:=[_]) H wn O ?_;clear H;intro w H;refine K9 _ _ ?_;clear K9;refine kP H (SQ fun _ bX=>SR fun _ dG=>Rm O (Rc O (Kz dG (Cd O ?_ ?_)))) <;> clear H dG
    ·intro h31 a H
     try have p31:=dT h31
     first
     | (exfalso;omega)
     | (exact absurd h31 Y)
     | (exfalso;omega)
     |skip
      refine kP H (SC (Rm O (Rk O (fG mQ aC 0 O O (Rd O (Rk O (Rf mQ O ?_)))))));clear H;intro a H;refine bg aC 0 (vs:=[_]) H wn O ?_;clear H;intro w H;refine kH H (Kn bX (SC (Rm O (Rm O (Rk O (Rf uU O ?_))))));clear H bX;intro a H;refine bg aC 0 (vs:=[_]) H wn O ?_;clear H;intro w H;refine aj ?_;refine (leave0 H results109 ?_).2;exact H.hp.dP ⟨O,by simp [mI, *]⟩
    intro h31 a H
    try have p31:=dF h31
    first
    | (exfalso;omega)
    | (exact absurd h31 Y)
    | (exfalso;omega)
    |skip
     refine kP H (SC (Rm O (Rk O (Rf mQ O ?_))));clear H;intro a H;refine bg aC 0 (vs:=[_]) H wn O ?_;clear H;intro w H;refine kH H (Kn bX (SC (Rm O (Rm O (Rk O (Rf uU O ?_))))));clear H bX;intro a H;refine bg aC 0 (vs:=[_]) H wn O ?_;clear H;intro w H;refine aj ?_;refine (leave0 H results109 ?_).2;exact H.hp.dP ⟨O,by simp [mI, *]⟩
theorem ext_size {s:ByteArray} {k:Nat}:(s.extract k s.size).size=s.size - k:=by simp
theorem acE {s:ByteArray} {k:Nat} (h:k < s.size) (h2:0 < (s.extract k s.size).size):(s.extract k s.size)[0]'h2=s[k]:=by
 rw [ByteArray.getElem_extract];rfl
theorem acF {s:ByteArray} {k:Nat} (h:k<=s.size):(s.extract k s.size).extract 1 (s.extract k s.size).size=s.extract (k+1) s.size:=by
 rw [ext_size,ByteArray.extract_extract]
 congr 1
 omega
theorem aiH (G:GH) (w0:World) (hG:Hold G w0) (s:ByteArray) (hs:s.size<=8) (ha:∀ i (h:i < s.size),s[i].toNat < 128):Calls prog 88 #[.string s] w0 (bQ w0 G fun u G'=>u=.bool true∧G=G'):=by
 refine eN [(0,_)] func88 O ntmps88 O O hG ?_;intro a H;refine kP H (SR fun _ K1=>Ra O ?_);clear H;intro a H;rw [show Value.string s=Value.string (s.extract 0 s.size) by rw [ByteArray.extract_zero_size]] at H;refine K1 _ _ ?_;clear K1;refine gy (fun _ K2=>?_);refine xk ?_;skip;refine dY (ι:=Nat) (Tc:=[]) (Lc:=[]) (fun gh=>[(0,.string (s.extract gh s.size))]) (fun gh=>[]) (fun gh=>G) (fun gh=>gh<=s.size) (fun gh=>s.size - gh) (0) (by exact H.sub ⟨O,aI⟩) ?_ ?_
 ·exact fC _
 clear H;intro k a w hI H;skip;dsimp only [lca,bW] at H;refine kP H (SQ fun _ K3=>SR fun _ K4=>Rm O (Rv kL O ?_));clear H;intro a H;rw [ext_size] at H;refine kH H (Rc O (Kz K4 (Cd O ?_ ?_))) <;> clear H K4
 ·intro h9 a H
  try have p9:=dT h9
  have hk:k < s.size:=by omega
  have hb:=acE (s:=s) (k:=k) hk (by rw [ext_size];omega);have hb2:=ha k hk;refine kP H (Kc K3 (SB (SR fun _ K5=>Rm O ?_)));clear H K3;intro a H;refine CW 0 kL H wn O O O (by rw [ext_size];omega) rfl ?_;clear H;intro a H;rw [hb] at H;refine kH H (av K5 O (SQ fun _ K6=>SR fun _ K7=>Rm O (Rc O (Kz K7 (Cd O ?_ ?_))))) <;> clear H K5 K7
  ·intro mR a H
   try have yS:=dT mR
   refine kP H (SR fun _ K8=>Rm O ?_);clear H;intro a H;refine WX 1 kL H wn O O O (by rw [ext_size];omega) rfl ?_;clear H;intro a H;rw [acF V] at H;refine kH H (av K8 O (SQ fun _ K9=>SR fun _ aP=>Rm O (Rv kL O ?_)));clear H K8;intro a H;rw [ext_size] at H;refine kH H (Rc O (Rm O (Sp 19 O ?_ ?_))) <;> clear H
   ·intro h19 a H
    try have Bo:=dT h19
    exact absurd Bo V
   intro h19 a H
   try have Bo:=dF h19
   refine kH H (aO h19 O (aO h19 O (Pf h19 O (Kz aP (Cf O O (Kc K9 ?_))))));clear H aP K9;intro a H;refine dJ ?_;refine bE ((k+1)) (by exact H.sub ⟨O,aI⟩) ?_
   omega
  intro mR a H
  try have yS:=dF mR
  exact absurd yS V
 intro h9 a H
 refine dJ ?_;refine K2 _ _ ?_;clear K2;exact kP H (SR fun _ aT=>av aT O (LR results88 O fun H=>H.rt ⟨O,O⟩))
def XL:Go.Shelf.Ren:=⟨fun|196=>88|259=>104|n=>n,fun|0=>0|3=>3|4=>4|5=>5|9=>9|12=>12|46=>151|53=>228|119=>200|138=>202|139=>203|n=>n,fun|3=>0|4=>1|n=>n⟩
theorem XK:Go.Proofs.Lays.n196 prog XL where
 mixed:=by kernel_rfl
 f196:=func88.trans (gZ some Z)
 f259:=func104.trans (gZ some Z)
 t0:=underlying0
 a0:=isAgg0
 z0:=sizeOf0
 v0:=zeroValue0
 t3:=underlying3
 a3:=isAgg3
 z3:=sizeOf3
 v3:=zeroValue3
 t4:=underlying4
 a4:=isAgg4
 z4:=sizeOf4
 v4:=zeroValue4
 t5:=underlying5
 a5:=isAgg5
 z5:=sizeOf5
 v5:=zeroValue5
 t9:=underlying9
 a9:=isAgg9
 z9:=sizeOf9
 v9:=zeroValue9
 t12:=underlying12
 a12:=isAgg12
 z12:=sizeOf12
 v12:=zeroValue12
 t46:=underlying151
 a46:=isAgg151
 z46:=sizeOf151
 v46:=zeroValue151
 t53:=underlying228
 a53:=isAgg228
 z53:=sizeOf228
 v53:=zeroValue228
 t119:=underlying200
 a119:=isAgg200
 z119:=sizeOf200
 t138:=underlying202
 a138:=isAgg202
 z138:=sizeOf202
 v138:=zeroValue202
 t139:=underlying203
 a139:=isAgg203
 z139:=sizeOf203
 v139:=zeroValue203
 g3:=by kernel_rfl
 g4:=by kernel_rfl
structure yC (G:GH):Prop where
 first:∀ c,c < 256->aS G 0 c=some (.int .u8 (Go.Lib.firstT c))
 acc:∀ i,i < 16->aS G 1 (2*i)=some (.int .u8 (Go.Lib.accLo i))∧aS G 1 (2*i+1)=some (.int .u8 (Go.Lib.accHi i))
theorem yC.at {G:GH} {w:World} (h:yC G) (hG:Hold G w):Go.Lib.Utf8Tabs 0 1 w:=by
 have hp:∀ b o v,aS G b o=some v->w.cell? ⟨b,o,none⟩=some v:=fun b o v hv=>by
  unfold aS at hv
  split at hv
  ·rename_i c e f he
   simp only [World.cell?,hG b _ he]
   exact hv
  cases hv
 exact ⟨fun c hc=>hp _ _ _ (h.first c hc),fun i hi=>⟨hp _ _ _ (h.acc i hi).1,hp _ _ _ (h.acc i hi).2⟩⟩
theorem aiL (G:GH) (w0:World) (hG:Hold G w0) (ht:yC G) (s:ByteArray) (hs:s.size<=1073741824):Calls prog 88 #[.string s] w0 (bQ w0 G fun u G'=>u=.bool (Go.Lib.validD s.data.toList)∧G=G'):=by
 have h:=Any.utf8_ValidString XK s w0 V (ht.at hG);refine Calls.mono h ?_;rintro e w' ⟨rfl,hb⟩;refine ⟨_,G,O,hb,⟨fun _ _ h=>h,fun _ _ h=>.inl h,fun k o hk=>?_⟩,O,O⟩;have h1:=hG k o hk;rw [hb.block k (Array.getElem?_eq_some_iff.1 h1).1];exact h1
theorem aaM:bL 106:=bN func106 O
theorem Qu:prog.underlying 21=some (.int .i32):=by kernel_rfl
theorem aaN:bL 107:=bN func107 O
theorem aaO:bL 108:=bN func108 O
theorem Qt:prog.underlying 186=some (.array 2 3):=by kernel_rfl
theorem DW:bL 109:=bN func109 O
theorem aiv:Ty prog 208 4 24 [.int .i64 0,.bool false,.bool false,.int .i64 0] true:=⟨Z,Z⟩
theorem abZ:bL 88:=bN func88 O
theorem acd:bL 89:=bN func89 O
theorem SY:bL 105:=bN func105 O
theorem XJ:Ty prog 186 2 16 [.int .i64 0,.int .i64 0] true:=⟨Z,Z⟩
theorem agi {s:ByteArray} {f p:Nat} (hf:s.size - p<=f) (h:p < s.size):kT s f p=(p,(Utf8.decode s p).1) :: kT s (f - 1) (p+(Utf8.decode s p).2):=by
 match f,hf with
 | 0,hf=>omega
 | f+1,_=>rw [kT,aN h];rfl
theorem agh {s:ByteArray} {f p:Nat} (h:¬ p < s.size):kT s f p=[]:=by
 match f with
 | 0=>rfl
 | f+1=>rw [kT,aL h]
theorem decode_le (s:ByteArray) (p:Nat):(Utf8.decode s p).1<=2097151:=by
 simp only [Utf8.decode,Utf8.runeError]
 repeat' split
 all_goals (dsimp only;omega)
theorem aaw (s:ByteArray) (p:Nat):(Utf8.decode s p).2<=4:=by
 simp only [Utf8.decode]
 repeat' split
 all_goals simp
theorem Qd {m:wX} {c:Int} {u:Nat} (h:0<=m.qP∧m.qP<=(u:Int)):0<=(mI m c).qP∧(mI m c).qP<=((u+1:Nat):Int):=by
 simp only [mI];split <;> omega
def rR (size:Nat):List (Nat × Nat)->Nat->Nat->Nat->wX->List (Nat × Nat × Nat × Nat)
 | [],unit,from_,start,_=>if 0 < unit then [(from_,unit,start,size)] else []
 | x :: l,unit,from_,start,m =>
  if 0 < unit∧iV m (qG xB x.2)=true then (from_,unit,start,x.1) :: rR size l (unit+1) unit x.1 (mI m (qG xB x.2))
  else rR size l (unit+1) from_ start (mI m (qG xB x.2))
def ow (s:ByteArray):List (Nat × Nat × Nat × Nat):=rR s.size (iD s) 0 0 0 ⟨0,false,false,0⟩
def FL (s:ByteArray) (x:Nat × Nat × Nat × Nat):AP:=fun args _=>args=[.agg #[vi x.1,vi x.2.1],.string (s.extract x.2.2.1 x.2.2.2)]
theorem Sk {s:ByteArray} {A:List (Nat × Nat × Nat × Nat)} {k:Nat} {args:List ak} {g:GH} (h:uJ (A.map (FL s)) k args g):∃ (hk:k < A.length),args=[.agg #[vi A[k].1,vi A[k].2.1],.string (s.extract A[k].2.2.1 A[k].2.2.2)]:=by
 obtain ⟨p,hp,hargs⟩:=h;rw [nM] at hp;obtain ⟨q,hq,rfl⟩:=mZ.1 hp;obtain ⟨hk,rfl⟩:=gN.1 hq;exact ⟨hk,hargs⟩
set_option maxHeartbeats 2000000 in
theorem aag {G:GH} {bd:Nat} {s:ByteArray} (hb:aS G bd 0=some (.string s)) (hz:s.size<=1073741824) :
    Iter prog G (.func (.func 105) #[] #[(aJ bd 0)]) ((ow s).map (FL s)):=by
  intro J Jx fv G1 L w0 JF hGi qH hJx hJ hO hcb;refine sI (caps:=[(aJ bd 0)]) SY ?_;replace hb:=aK hGi hb;refine mP (N:=54) (T:=[(0,_),(1,_)]) func105 O ntmps105 O O hO ?_;intro a H;refine gU (fun _ K1=>?_);refine s_call aaM H wn O (adl _ _ H.ro) O ?_;clear H;rintro v11 BI a w hgt sO H;replace hb:=aK sO hb;refine kH H (av K1 O (SR fun _ K2=>?_));clear H K1;intro a H;refine gX aiv H wn O ?_;clear H;intro b4 a w hb4 H;refine K2 _ _ ?_;clear K2;refine kP H (SR fun _ K3=>Ra O (Ra O (av K3 O (SQ fun _ K4=>SR fun _ K5=>Rg iW O hb ?_))));clear H K3;intro a H;refine agS kL H wn O O ?_;clear H;intro b13 a w adD H;refine K5 _ _ ?_;clear K5;refine xk ?_;skip;refine dY (ι:=Nat × Nat × Nat × Nat × Nat × wX × Nat × OL × GH) (Tc:=[(0,_),(1,_),(3,_),(4,_),(13,_)]) (Lc:=[]) (fun gh=>[(5,vi gh.2.2.1),(6,vi gh.2.2.2.1),(7,vi gh.2.2.2.2.1)]) (fun gh=>[(b13,.stringIter s gh.1),bM b4 gh.2.2.2.2.2.1]++gh.2.2.2.2.2.2.2.1) (fun gh=>gh.2.2.2.2.2.2.2.2) (fun gh=>s.size - gh.1<=gh.2.1∧gh.2.2.1<=gh.1∧gh.1<=s.size+8∧gh.2.2.2.1<=gh.2.2.1∧gh.2.2.2.2.1<=gh.1∧gh.2.2.2.2.1<=s.size∧(0<=gh.2.2.2.2.2.1.qP∧gh.2.2.2.2.2.1.qP<=gh.2.2.1)∧(∀ b o,BI b=some o->gh.2.2.2.2.2.2.2.2 b=some o)∧Now ((ow s).map (FL s)) (FL s) J (ow s).length gh.2.2.2.2.2.2.1 (rR s.size (kT s gh.2.1 gh.1) gh.2.2.1 gh.2.2.2.1 gh.2.2.2.2.1 gh.2.2.2.2.2.1) gh.2.2.2.2.2.2.2.2 gh.2.2.2.2.2.2.2.1) (fun gh=>s.size+8 - gh.1) ((0,s.size,0,0,0,⟨0,false,false,0⟩,0,L,BI)) (by exact H.sub ⟨O,O,O,O,O,O,O,O,aI⟩) ?_ ?_
  · exact ⟨by rw [Nat.sub_zero];exact bS _,bS _,fC _,bS _,bS _,fC _,⟨Int.le_refl _,Int.le_refl _⟩,fun _ _ h=>h,⟨qH _ _ _ _ sO hJ,fun i a h=>by rw [eH,nM];rw [show rR s.size (kT s s.size 0) 0 0 0 ⟨0,false,false,0⟩=ow s from rfl] at h;rw [h];rfl,by show 0+(ow s).length=_;omega⟩⟩
  clear H;rintro ⟨pos,f,unit,from_,start,m,j1,Lt,g⟩ a w hI H;dsimp only at hI H;obtain ⟨hf,hup,hpos,hfr,hst,GV,Oq,hgm,dL⟩:=hI;dsimp only [lca,bW] at H;refine gU (fun _ K6=>?_);refine agP (i:=0) H wn O O O ?_;clear H;intro a w H;dsimp only [List.set] at H;refine eZ H wn O afH O ?_;clear H;intro a H;refine K6 _ _ ?_;clear K6;refine kP H (SQ fun _ K7=>Cd O ?_ ?_) <;> clear H
  · intro lC a H
    try have oK:=dT lC
    rw [VO oK,VN oK] at H;rw [agi hf oK,rR] at dL;have hd1:=aav s pos;have hd2:=decode_le s pos;obtain ⟨r,hr⟩:∃ r,r=(Utf8.decode s pos).1:=⟨_,O⟩;obtain ⟨wd,hwd⟩:∃ wd,wd=(Utf8.decode s pos).2:=⟨_,O⟩;rw [<- hr] at hd2;rw [<- hr,<- hwd] at H dL;rw [<- hwd] at hd1;obtain ⟨c,hc⟩:∃ c,c=qG xB (r:Int):=⟨_,O⟩;dsimp only at dL;rw [<- hc] at dL
    have aki:wd<=4:=by rw [hwd];exact aaw s pos
    refine kP H (Kc K7 (SB (SR fun _ K8=>?_)));clear H K7;intro a H;(iterate 2 refine eZ H wn O O O ?_;clear H;intro a H);refine kH H (Ra O (av K8 O (SR fun _ K9=>Rm O (Rm O ?_))));clear H K8;intro a H;refine Bv ((r:Nat):Int) Am Qu H wn O (Aa V V) O ?_;clear H;intro a H;refine s_call aaN H wn O (Z6 _ _ H.ro xB r _ (hgt.mono hgm) Y ⟨V,V⟩) O ?_;clear H;rintro v21 Au a w rfl qL H;rw [<- hc] at H;refine kH H (av K9 O (SQ fun _ aP=>SR fun _ aT=>Rm O (Rc O (Rm O (Sp 24 O ?_ ?_))))) <;> clear H K9
    · intro aQ a H
      try have gP:=dT aQ
      refine kH H (YM aQ O ?_);clear H;intro a H;have H:=H.perm (oL [_] [] [_] Lt);refine jT aaO (Li:=[_]++([]++Lt)) (L:=[_]) H (wg H O O aQ) O (Zv m c (Hp.owns (Li:=[_]++([]++Lt)) H.hp)) O ?_;clear H;rintro v26 _ _ a w ⟨rfl,rfl,rfl⟩ - H;have H:=H.perm (oL [_] [] [_] Lt).symm;dsimp only [List.nil_append,List.cons_append] at H;refine kH H (Pt aQ O (Kz aT (Cd O ?_ ?_))) <;> clear H aT
      · intro h27 a H
        try have p27:=dT h27
        rw [aN ⟨V,h27⟩] at dL;refine kP H (SQ fun _ bH=>SR fun _ bG=>Rm O (Rm O (Rm O ?_)));clear H;intro a H;refine WJ (z:=[.int .i64 0,.int .i64 0]) Qt aC Z [_,_] H wn O O (fun i q h=>by match i,h with|0,h=>exact h|1,h=>exact h|n+2,h=>simp at h) O O ?_;clear H;intro a H;refine kH H (Rg iW O (aK qL (aK hgm hb)) (Rm O (Rm O ?_)));clear H;intro a H;refine WY start pos kL H wn O O O O O V V O ?_;clear H;intro a H;refine pF (Li:=[_,_]) (L:=Lt) H wn O O (hcb j1 _ _ _ _ ⟨_,dL.head,O⟩ (fun b o h=>qL b o (hgm b o (sO b o h))) (qH _ _ _ _ qL dL.now) (Hp.owns (Li:=[_,_]) H.hp)) O ?_;clear H;rintro v36 YA tK a w ⟨b36,rfl,hb1,hb2⟩ aef H;refine kH H (Rn O (Kz bG (Cd O ?_ ?_))) <;> clear H bG
        · intro h37 a H
          try have p37:=dT h37
          refine aU ?_;refine (leave0 H results105 ?_).1;exact H.hp.fK (L':=tK) (by repeat (first|exact fP _|apply List.Sublist.cons)) (.inr (hb2 (by simpa using h37)))
        intro h37 a H
        try have p37:=dF h37
        have xI:=dL.step (hb1 (by simpa using h37));refine kP H (Kc bH (SC (Rm O (Rm O (Ra O (bO aP O (SR fun _ bX=>Rm O ?_)))))));clear H bH aP;intro a H
        first
          | (have H:=H.perm (oL [_] [] [_] tK)
             refine jT DW (Li:=[_]++([]++tK)) (L:=[_]) H wn O (EN m c (Hp.owns (Li:=[_]++([]++tK)) H.hp) ⟨V,V⟩) O ?_;clear H;rintro v41 _ _ a w ⟨rfl,rfl⟩ - H
             have H:=H.perm (oL [_] [] [_] tK).symm)
          | (have H:=H.perm (oL [_] [] [_] Lt)
             refine jT DW (Li:=[_]++([]++Lt)) (L:=[_]) H wn O (EN m c (Hp.owns (Li:=[_]++([]++Lt)) H.hp) ⟨V,V⟩) O ?_;clear H;rintro v41 _ _ a w ⟨rfl,rfl⟩ - H
             have H:=H.perm (oL [_] [] [_] Lt).symm)
        dsimp only [List.nil_append,List.cons_append] at H;have GN:=Qd (m:=m) (c:=c) Oq;refine bX _ _ ?_;clear bX;refine kP H (SC (Rm O (Rd O (Ra O ?_))));clear H;intro a H;refine aj ?_;refine bE ((pos+wd,f - 1,unit+1,unit,pos,mI m c,j1+1,tK,YA)) (by exact H.sub ⟨O,O,O,O,O,O,O,O,aI⟩) ?_
        (try dsimp only);exact ⟨V,V,V,V,V,V,GN,fun b o h=>aef b o (qL b o (hgm b o h)),xI⟩
      intro h27 a H
      try have p27:=dF h27
      rw [aL (fun h=>absurd h.2 (by rw [h27];decide))] at dL;refine kP H (Kc aP (SR fun _ dG=>Rm O ?_));clear H aP;intro a H
      first
        | (have H:=H.perm (oL [_] [] [_] tK)
           refine jT DW (Li:=[_]++([]++tK)) (L:=[_]) H wn O (EN m c (Hp.owns (Li:=[_]++([]++tK)) H.hp) ⟨V,V⟩) O ?_;clear H;rintro v41 _ _ a w ⟨rfl,rfl⟩ - H
           have H:=H.perm (oL [_] [] [_] tK).symm)
        | (have H:=H.perm (oL [_] [] [_] Lt)
           refine jT DW (Li:=[_]++([]++Lt)) (L:=[_]) H wn O (EN m c (Hp.owns (Li:=[_]++([]++Lt)) H.hp) ⟨V,V⟩) O ?_;clear H;rintro v41 _ _ a w ⟨rfl,rfl⟩ - H
           have H:=H.perm (oL [_] [] [_] Lt).symm)
      dsimp only [List.nil_append,List.cons_append] at H;have GN:=Qd (m:=m) (c:=c) Oq;refine dG _ _ ?_;clear dG;refine kP H (SC (Rm O (Rd O (Ra O ?_))));clear H;intro a H;refine aj ?_;refine bE ((pos+wd,f - 1,unit+1,from_,start,mI m c,j1,Lt,Au)) (by exact H.sub ⟨O,O,O,O,O,O,O,O,aI⟩) ?_
      (try dsimp only);exact ⟨V,V,V,V,V,V,GN,fun b o h=>qL b o (hgm b o h),qH _ _ _ _ qL dL.now,dL.rem,dL.len⟩
    intro aQ a H
    try have gP:=dF aQ
    rw [aL (fun h=>gP V)] at dL;refine kH H (aO aQ O (Pf aQ O (Kz aT (Cf O O (Kc aP (SR fun _ dR=>Rm O ?_))))));clear H aT aP;intro a H
    first
      | (have H:=H.perm (oL [_] [] [_] tK)
         refine jT DW (Li:=[_]++([]++tK)) (L:=[_]) H wn O (EN m c (Hp.owns (Li:=[_]++([]++tK)) H.hp) ⟨V,V⟩) O ?_;clear H;rintro v41 _ _ a w ⟨rfl,rfl⟩ - H
         have H:=H.perm (oL [_] [] [_] tK).symm)
      | (have H:=H.perm (oL [_] [] [_] Lt)
         refine jT DW (Li:=[_]++([]++Lt)) (L:=[_]) H wn O (EN m c (Hp.owns (Li:=[_]++([]++Lt)) H.hp) ⟨V,V⟩) O ?_;clear H;rintro v41 _ _ a w ⟨rfl,rfl⟩ - H
         have H:=H.perm (oL [_] [] [_] Lt).symm)
    dsimp only [List.nil_append,List.cons_append] at H;have GN:=Qd (m:=m) (c:=c) Oq;refine dR _ _ ?_;clear dR;refine kP H (SC (Rm O (Rd O (Ra O ?_))));clear H;intro a H;refine aj ?_;refine bE ((pos+wd,f - 1,unit+1,from_,start,mI m c,j1,Lt,Au)) (by exact H.sub ⟨O,O,O,O,O,O,O,O,aI⟩) ?_
    (try dsimp only);exact ⟨V,V,V,V,V,V,GN,fun b o h=>qL b o (hgm b o h),qH _ _ _ _ qL dL.now,dL.rem,dL.len⟩
  intro lC a H
  try have oK:=dF lC
  rw [agh oK,rR] at dL;have H:=H.sub (T':=[(0,_),(1,_),(5,_),(6,_),(7,_)]) ⟨O,O,O,O,O,aI⟩;refine dJ ?_;refine K4 _ _ ?_;clear K4;refine kP H (SR fun _ fu=>Rm O (Rc O (Kz fu (Cd O ?_ ?_)))) <;> clear H fu
  · intro h45 a H
    try have p45:=dT h45
    rw [dS] at dL;refine kP H (SC (Rm O (Rm O (Rm O ?_))));clear H;intro a H;refine WJ (z:=[.int .i64 0,.int .i64 0]) Qt aC Z [_,_] H wn O O (fun i q h=>by match i,h with|0,h=>exact h|1,h=>exact h|n+2,h=>simp at h) O O ?_;clear H;intro a H;refine kH H (Rg iW O (aK hgm hb) (Rm O ?_));clear H;intro a H;refine WX start kL H wn O O O V O ?_;clear H;intro a H;refine pF (Li:=[_,_]) (L:=Lt) H wn O O (hcb j1 _ _ _ _ ⟨_,dL.head,O⟩ (fun b o h=>hgm b o (sO b o h)) dL.now (Hp.owns (Li:=[_,_]) H.hp)) O ?_;clear H;rintro v53 YG Q9 a w ⟨FD,rfl,hb1,hb2⟩ ajV H;refine aj ?_;refine (leave0 H results105 ?_).2
    first
      | (refine H.hp.fK (L':=Q9) (by repeat (first|exact fP _|apply List.Sublist.cons)) ?_
         cases FD
         · exact .inr (hb2 O)
         have xI:=dL.step (hb1 O);have h:=xI.len
         simp only [List.length_nil,qD] at h
         refine .inl ?_;rw [bJ,<- h]
         exact xI.now)
      | (refine H.hp.fK (L':=Lt) (by repeat (first|exact fP _|apply List.Sublist.cons)) (.inl ?_)
         have h:=dL.len
         simp only [List.length_nil,qD] at h
         rw [bJ,<- h]
         exact dL.now)
  intro h45 a H
  try have p45:=dF h45
  rw [aZ] at dL;refine lV ?_;refine (leave0 H results105 ?_).2
  first
    | (refine H.hp.fK (L':=Q9) (by repeat (first|exact fP _|apply List.Sublist.cons)) ?_
       cases FD
       · exact .inr (hb2 O)
       have xI:=dL.step (hb1 O);have h:=xI.len
       simp only [List.length_nil,qD] at h
       refine .inl ?_;rw [bJ,<- h]
       exact xI.now)
    | (refine H.hp.fK (L':=Lt) (by repeat (first|exact fP _|apply List.Sublist.cons)) (.inl ?_)
       have h:=dL.len
       simp only [List.length_nil,qD] at h
       rw [bJ,<- h]
       exact dL.now)
theorem ade (G:GH) (w0:World) (hG:Hold G w0) (s:ByteArray) (hz:s.size<=1073741824) :
  Calls prog 89 #[.string s] w0 (bQ w0 G fun u G'=>∃ bd,u=.func (.func 105) #[] #[(aJ bd 0)]∧Iter prog G' u ((ow s).map (FL s))):=by
 refine eN [(0,_)] func89 O ntmps89 O O hG ?_;intro a H;refine gU (fun _ K1=>?_);refine jQ (cs:=[_]) H wn O O O ?_;clear H;intro b1 a w hb1 H;refine kH H (av K1 O (SR fun _ K2=>?_));clear H K1;intro a H;refine Bw H wn O O ?_;clear H;intro a H;refine kH H (av K2 O ?_);clear H K2;intro a H;refine aU ?_;obtain ⟨G2,hm2,hb1,H⟩:=H.kE;refine lv H results89 O ?_;exact H.rt ⟨b1,O,aag (by unfold aS;rw [hb1];rfl) hz⟩
structure Dx (G0:GH) (s:ByteArray):Prop where
 h:∀ (G:GH) (w0:World),(∀ b o,G0 b=some o->G b=some o)->Hold G w0->Calls prog 88 #[.string s] w0 (bQ w0 G fun u G'=>u=.bool true∧G=G')
theorem Dx.ascii {G0:GH} {s:ByteArray} (hs:s.size<=8) (ha:∀ i (h:i < s.size),s[i].toNat < 128):Dx G0 s:=⟨fun G w0 _ hG=>aiH G w0 hG s hs ha⟩
def zD (s:ByteArray):List Int:=0 :: (ow s).map fun x=>(x.2.1:Int)
theorem MI (size:Nat):∀ (l:List (Nat × Nat)) (u f st:Nat) (m:wX),(rR size l u f st m).length<=l.length+1
 | [],u,f,st,m=>by rw [rR];split <;> simp
 | x :: l,u,f,st,m=>by
  have h1:=MI size l (u+1) u x.1 (mI m (qG xB x.2));have h2:=MI size l (u+1) f st (mI m (qG xB x.2))
  rw [rR];split <;> simp only [ko] at*<;> omega
theorem DL (s:ByteArray):(ow s).length<=s.size+1:=by
 have h1:=MI s.size (iD s) 0 0 0 ⟨0,false,false,0⟩;have h2:=Ew s s.size 0
 unfold ow;unfold iD at *;omega
theorem VQ (G:GH):∀ (B A:List Int),cO G 1 (A.map gJ) (A.map vi)->cO G 1 ((A++B).map gJ) ((A++B).map vi)
 | [],A,h=>by rw [lU];exact h
 | x :: B,A,h=>by
  have h2:=h.snoc (ny G x) O;have h3:=VQ G B (A++[x]) (by simpa using h2)
  simpa using h3
theorem yQ (G:GH) (A:List Int):cO G 1 (A.map gJ) (A.map vi):=VQ G A [] cO.nil
theorem Zw {G0:GH} (G:GH) (w0:World) (hG:Hold G w0) (h0:∀ b o,G0 b=some o->G b=some o) (s:ByteArray) (hz:s.size<=1073741824) (hv:Dx G0 s) :
  Calls prog 75 #[.string s] w0 (bQ w0 G fun u G'=>∃ x,u=.tuple #[x,vi 0]∧aF G' (.sl 1 ((zD s).map gJ)) x):=by
 have hcl:=DL s;have hml:maxLen=9223372036854775807:=rfl;refine eN [(0,_)] func75 O ntmps75 O O hG ?_;intro a H;refine kP H (SR fun _ K1=>Ra O (av K1 O (SQ fun _ K2=>SR fun _ K3=>Rm O ?_)));clear H K1;intro a H;refine s_call abZ H wn O (hv.h _ _ h0 H.ro) O ?_;clear H;rintro v7 _ a w ⟨rfl,rfl⟩ - H;refine kH H (Rn O (Kz K3 (Cd O ?_ ?_))) <;> clear H K3
 ·intro h8 a H
  exact absurd h8 Y
 intro h8 a H
 try have p8:=dF h8
 refine lV ?_;refine K2 _ _ ?_;clear K2;refine gU (fun _ K4=>?_);refine eU cB aC [_] [_] H wn O O O O O (by intro i q h;match i,h with|0,h=>exact h|n+1,h=>simp at h) O O ?_;clear H;intro b9 a w NR H;refine gX bP H wn O ?_;clear H;intro b4 a w hb4 H;refine bg bP 0 (vs:=[_]) H wn O ?_;clear H;intro w H;refine K4 _ _ ?_;clear K4;refine kP H (SQ fun _ K5=>SR fun _ K6=>Rm O ?_);clear H;intro a H;refine s_call acd H wn O (ade _ _ H.ro s hz) O ?_;clear H;rintro v11 BI a w ⟨bd,rfl,hit⟩ sO H;refine K6 _ _ ?_;clear K6;refine xk ?_;skip;refine IV (ι:=ak × List ak × OL) (κ:=Empty) (Lc:=[]) (fun (k:Nat) (gh:ak × List ak × OL)=>[(b4,.cells #[gh.1] 40 (0,0))]) (fun (k:Nat) (gh:ak × List ak × OL)=>gh.2.2) (fun (k:Nat) (gh:ak × List ak × OL) (g:GH)=>aW 3 1 gh.1 (k+1) gh.2.1 gh.2.2∧gh.2.1=((zD s).take (k+1)).map vi) (fun x=>x.elim) (fun x=>x.elim) (fun x=>x.elim) (fun x=>x.elim) ((.slice (some ⟨b9,0,none⟩) 1 1,[vi 0],[(b9,.cells #[vi 0] 3 (0,0))])) (by exact H) O SY (hit) (fun _ _ h=>h) O (fun k args g h=>by obtain ⟨_,rfl⟩:=Sk h;rfl) (fun k i G G' hm h=>h) (fun x=>x.elim) (⟨aW.all O Y,O⟩) ?_ ?_ ?_
 ·clear H;intro l5 yT vU bk k args gh G5 w5 F5 B5 a hk5 JL hI adP ael akg H;obtain ⟨v,xs,Lo⟩:=gh;dsimp only at hI H;obtain ⟨hk,rfl⟩:=Sk hk5;dsimp only [uQ,List.cons_append,List.nil_append] at H;obtain ⟨hrw,hxs⟩:=hI;refine rP ?_;refine gX XJ H wn O ?_;clear H;intro b5 a w hb5 H;refine bg XJ 0 (vs:=[_,_]) H wn O ?_;clear H;intro w H;refine aj ?_;refine adP _ _ _ _ _ _ (by exact H.dz (Pl:=[_,_,_]) (bZ:=[_,_,_]) [1,0,2] Y O) ?_;clear H;intro w H;refine kP H (SB (SC (Ro bP 2 O ?_)));clear H;intro a H;refine oN Qt aC 1 H wn O O O Y O ?_;clear H;intro a H;refine kH H (Ro aC 1 O ?_);clear H;intro a H;refine eU cB aC [_] [_] H wn O O O O O (by intro i q h;match i,h with|0,h=>exact h|n+1,h=>simp at h) O O ?_;clear H;intro b17 a w adG H;have H:=St.un (A:=[_,_,_,_]) H;refine dX (Li:=[_,_,_,_]++bk) (Lo:=Lo) (news:=[vi (ow s)[k].2.1]) cB aC O O H wn O O hrw O (H.hp.bR 0 O O) O V V O ?_;clear H;intro v18 LK a w JU H;have H:=H.assoc;dsimp only [lca,bW] at H;obtain ⟨aiF,aiJ,e18,-,-⟩:=JU.shape;subst e18;refine bg bP 3 (vs:=[_]) H wn O ?_;clear H;intro w H;refine aj ?_;refine ael ((.slice aiF (k+1+1) aiJ,xs++[vi (ow s)[k].2.1],LK)) _ _ _ _ _ (by exact H.dz (Pl:=[_,_,_,_]) (bZ:=[_,_]) [1,3] Y O) ?_;exact ⟨JU,by rw [hxs,jq (i:=k+1) (by simp [zD];omega),jw];simp [zD]⟩
 ·clear H;intro Dk5 gh Gd5 a w JL hI H;obtain ⟨v,xs,Lo⟩:=gh;dsimp only at hI H;dsimp only [lca,bW] at H;obtain ⟨hrw,hxs⟩:=hI;refine K5 _ _ ?_;clear K5;refine kP H (SR fun _ K7=>Ro bP 1 O (Ra O (av K7 O ?_)));clear H K7;intro a H;refine aU ?_;rw [bJ] at hrw hxs;obtain ⟨Gr,hmr,hrep,H⟩:=St.kF (Li:=[_,_]) (Lo:=Lo) H hrw (rows:=(zD s).map gJ) (by simp [zD]) (by rw [hxs,gG (by simp [zD])];exact yQ _ _);refine (Es H 0 O ?_).1;clear H;intro a w H;dsimp only [List.eraseIdx_cons_succ,List.eraseIdx_cons_zero] at H;refine (bK H results75 (.cons (aG H O) (.cons (aG H O) .nil)) ?_).1
  first
   | exact H.rt ⟨_,O,hrep⟩
 intro Dk x;exact x.elim
end Go.Proofs.YtomebajfpcjoeaaGreatDoor
