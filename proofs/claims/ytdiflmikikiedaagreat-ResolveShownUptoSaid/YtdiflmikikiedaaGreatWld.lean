/-
  What the claim stands on, part 4: Hea Frm Itc Vis Okd Chs Cl Rc Ct Is Dlf Pst Dc24 Rws Itm Its Rvs Chd Ck13 Nf Ubf Av16 Frs Hds Np13 Nq13.
-/
import Derived.Test.YtdiflmikikiedaaGreatWlc
import Derived.Lib.Overlaps
import Derived.Lib.AppendZerosOnto
namespace Go.Proofs.YtdiflmikikiedaaGreat
set_option linter.all false
open Go.Proofs.Tryz
open Go.RowKit
section
theorem MB:Ty prog 123 1 8 [.pointer none] false:=⟨V,V⟩
theorem aqG:aR 132:=aS func132 M
theorem EG:Ty prog 27 4 64 [.int .i64 0,.int .i64 0,.slice none 0 0,.slice none 0 0] true:=⟨V,V⟩
theorem Fg:dR prog 159 0 0:=⟨V⟩
theorem agq:dR prog 159 1 1:=⟨V⟩
theorem aqF:aR 131:=aS func131 M
variable {us:List Int}
theorem ayQ {G:GH} {st:List cK} {li:List fT} {rv:List cB} {b ms ml mr mb mu:Nat} {n:Int} (hck:xK us G st li rv ms ml mr mu) (hb:G b=some (iy b ms ml mr mb mu n).2)
  {x3 x4 Uh:Nat} {e:Int} {l:List bW} {v:ah} (h3:aI G x3 0=some (aH b 0)) (h4:aI G x4 0=some (vi e)) (h11:aI G Uh 3=some v) (hv:av G (.sl 4 (l.map bW.dat)) v) :
  vT (.func (.func 131) #[] #[(aH x3 0),(aH x4 0),(aH Uh 0)]) G l.length (yx (bG us st li rv) e l):=by
 intro k hk G1 w0 hm hG;refine kD (caps:=[(aH x3 0),(aH x4 0),(aH Uh 0)]) aqF ?_;replace h3:=aG hm h3;replace h4:=aG hm h4;replace h11:=aG hm h11;replace hv:=hv.mono hm;obtain ⟨vA,vn,vc,rfl⟩:=hv.form;refine eN [(0,_),(1,_),(2,_),(3,_)] func131 M ntmps131 M M hG ?_;intro a H;refine kP H (SR fun _ K1=>aj K1 M (SR fun _ K2=>Rg MB M (by assumption) ?_));clear H K1;intro a H;refine kH H (Rg aF M (by assumption) ?_);clear H;intro a H;refine kH H (Rf Bd M (Rg BQ M (by assumption) ?_));clear H;intro a H;refine kH H (Rm M ?_);clear H;intro a H;refine s_call aqG H wn M (ayS _ _ H.ro st li rv b ms ml mr mb mu n (hck.mono hm) (hm _ _ hb) e l _ hv k hk) M ?_;clear H;rintro v11 yM a w rfl CJ H;exact kH H (aj K2 M (LR results131 M fun H=>H.rt M))
def zG (C:aV) (l:List aN):Int:=eG (l.map fun p=>yF C.st C.nP p.key p.value)
def kI (C:aV) (m:zQ):Int:=if m.ins≠0∧m.ins∉C.lq then 22 else if ¬ (0<=m.move∧m.move<=1073741824)∨(m.move≠0∧m.ins=0) then 21 else if 16 < (m.bD.length:Int) then 9 else 0
def uZ (C:aV) (k:Nat) (x:gT) (pr:Int):Int:=if x.rev∉C.lq then 22 else if 0 < k∧x.rev<=pr then 6 else if ¬ (0<=x.move∧x.move<=1073741824) then 21 else 0
def uw (C:aV) (l:List gT) (k:Nat):Int:=match l[k]? with|some x=>uZ C k x ((l[k - 1]?.map gT.rev).getD 0)|none=>0
def iU (C:aV) (e:Int) (h:dD):Int:=eG [rW e h.props,zG C h.props,kI C h.marks,lF (uw C h.marks.bD) h.marks.bD.length,dH (decide (64 < (h.marks.layers.length:Int))) 9,lF (yx C e h.marks.layers) h.marks.layers.length]
theorem avZ {C:aV} {e:Int} {h:dD} (h1:rW e h.props≠0):iU C e h=rW e h.props:=by simp [iU,eG,h1]
theorem awc {C:aV} {e:Int} {h:dD} (h1:rW e h.props=0) (h2:zG C h.props≠0):iU C e h=zG C h.props:=by simp [iU,eG,h1,h2]
theorem Ee {C:aV} {e:Int} {h:dD} (h1:rW e h.props=0) (h2:zG C h.props=0) (h3:kI C h.marks≠0):iU C e h=kI C h.marks:=by simp [iU,eG,h1,h2,h3]
theorem awd {C:aV} {e:Int} {h:dD} (h1:rW e h.props=0) (h2:zG C h.props=0) (h3:kI C h.marks=0) (h4:lF (uw C h.marks.bD) h.marks.bD.length≠0):iU C e h=lF (uw C h.marks.bD) h.marks.bD.length:=by simp [iU,eG,h1,h2,h3,h4]
theorem awe {C:aV} {e:Int} {h:dD} (h1:rW e h.props=0) (h2:zG C h.props=0) (h3:kI C h.marks=0) (h4:lF (uw C h.marks.bD) h.marks.bD.length=0) (h5:64 < (h.marks.layers.length:Int)):iU C e h=9:=by simp [iU,eG,h1,h2,h3,h4,dH,h5]
theorem awf {C:aV} {e:Int} {h:dD} (h1:rW e h.props=0) (h2:zG C h.props=0) (h3:kI C h.marks=0) (h4:lF (uw C h.marks.bD) h.marks.bD.length=0) (h5:¬ 64 < (h.marks.layers.length:Int)):iU C e h=lF (yx C e h.marks.layers) h.marks.layers.length:=by simp [iU,eG,h1,h2,h3,h4,dH,h5];exact Eq.symm
theorem akq {C:aV} {l:List aN} {k:Nat} (h:k < l.length):eG ((l.map fun p=>yF C.st C.nP p.key p.value).drop k)=if yF C.st C.nP l[k].key l[k].value≠0 then yF C.st C.nP l[k].key l[k].value else eG ((l.map fun p=>yF C.st C.nP p.key p.value).drop (k+1)):=by
 rw [Ru (by simpa using h)];simp
theorem anO {p:Prop} (h:p:=by
 exact fin H iJ (by show _=_;first|rfl|exact iP decide_not.symm)):p:=h
theorem acn {p:Prop} (h:p:=by
 exact ⟨O,by rw [MV hk2,au (by rw [hde];simpa using ahA)] at heq;exact heq,hGk⟩):p:=h
theorem adJ {p:Prop} (h:p:=by
 refine zS 7 48 9 50 3 44 M M fun _ a w G1 hG HT H fin=>?_;refine Dh (zv:=.bool false) zK mX V H (wg H M M (aJ c0)) M M (H.ro _ _ (hG _ _ hck.rev)) M ?_;clear H;intro a H;rw [Jg] at H;exact Kg):p:=h
theorem aek {p:Prop} (h:p:=by
 refine eT 10 51 3 44 M M fun _ a w G1 hG HT H fin=>?_;refine kH H (YN (aJ c0) M ?_);clear H;intro a H;exact anO):p:=h
theorem Qq {p:Prop} (h:p:=by
 refine Dj _ H (wg H M M (aJ c3)) M M M O O M ?_;exact Nc):p:=h
theorem awg (G:GH) (w0:World) (hG:Hold G w0) (st:List cK) (li:List fT) (rv:List cB) (b ms ml mr mb mu:Nat) (n:Int) (hck:xK us G st li rv ms ml mr mu) (hb:G b=some (iy b ms ml mr mb mu n).2)
  (e:Int) (h:dD) (p d l:ah) (hh:jG G h p d l) (hz:nH h<=4294967296) :
  Calls prog 70 #[(aH b 0),vi e,sQ h p d l] w0 (bE w0 G fun u G'=>u=vi (iU (bG us st li rv) e h)):=by
 obtain ⟨pA,pc,rfl,-,-,-⟩:=hh.props.slice;obtain ⟨dA,dc,rfl,-,-,-⟩:=hh.bD.slice;obtain ⟨lA,lc,rfl,-,-,-⟩:=hh.layers.slice;have hml:maxLen=9223372036854775807:=rfl;have hzz:=GJ h;have hz1:=sG (h.props.map aN.dat);have hz2:=sG (h.marks.bD.map gT.dat);have hz3:=sG (h.marks.layers.map bW.dat)
 simp only [bK] at hh hz1 hz2 hz3 |-
 generalize nH h=zz at hz hzz
 refine eN [(0,_),(1,_),(2,_)] func70 M ntmps70 M M hG ?_;intro a H;refine cZ (fun _ K1=>?_);refine dZ (cs:=[_]) H wn M M M ?_;clear H;intro b3 a w hb3 H;refine dZ (cs:=[_]) H wn M M M ?_;clear H;intro b4 a w hb4 H;refine dZ (cs:=[_,_,_,_,_]) H wn M M M ?_;clear H;intro b5 a w hb5 H;refine kH H (aj K1 M (SQ fun _ K2=>SQ fun _ K3=>?_));clear H K1;intro a H;obtain ⟨Ga5,R5,Cz,H⟩:=H.fU;obtain ⟨Ga4,Lj,Bq,H⟩:=H.fU;obtain ⟨Ga,FK,zu,H⟩:=H.fU;replace Cz:=FK _ _ (Lj _ _ Cz);replace Bq:=FK _ _ Bq;have hma:∀ b o,G b=some o->Ga b=some o:=fun b o h=>FK _ _ (Lj _ _ (R5 _ _ h));clear FK Lj R5;replace hck:=hck.mono hma;replace hb:=hma _ _ hb;replace hh:=hh.mono hma
 have g3:aI Ga b3 0=some (aH b 0):=by unfold aI;rw [zu];rfl
 have g4:aI Ga b4 0=some (vi e):=by unfold aI;rw [Bq];rfl
 have g50:aI Ga b5 0=some (.slice pA h.props.length pc):=by unfold aI;rw [Cz];rfl
 have g51:∀ (j:Nat) (u:ah),[vi h.marks.ins,vi h.marks.move,.slice dA h.marks.bD.length dc,.slice lA h.marks.layers.length lc][j]?=some u->aI Ga b5 (1+j)=some u:=by
  intro j u hj
  unfold aI;rw [Cz]
  match j,hj with
  | 0,hj=>exact hj
  | 1,hj=>exact hj
  | 2,hj=>exact hj
  | 3,hj=>exact hj
  | n+4,hj=>simp at hj
 have hc2:aI Ga b 2=some (.map (some mr)):=by unfold aI;rw [hb];rfl
 refine kP H (SC (Rg aF M (by assumption) ?_));clear H;intro a H;refine kH H (Rf zk M (Rg vK M (by assumption) ?_));clear H;intro a H;refine s_call afw H wn M (abI (akg _ _ H.ro e h.props _ hh.props)) M ?_;clear H;rintro v17 _ a w ⟨⟨_,rfl⟩,rfl⟩ - H;refine kH H (bF K3 M (SR fun _ K4=>Rm M (Rc M (Kz K4 (Cd M ?_ ?_))))) <;> clear H K3 K4
 ·intro h19 a H
  try have tX:=dT h19
  refine bL (fun _ K5=>?_);have hE:=avZ (C:=bG us st li rv) (e:=e) (h:=h) tX;exact kP H (SC (Rm M (bF K5 M (LR results70 M fun H=>H.rt (by rw [hE])))))
 intro h19 a H
 try have tX:=dF h19
 have e1:rW e h.props=0:=by simpa using tX
 refine kP H (Kc K2 (SQ fun _ K6=>SR fun _ K7=>Rf zk M (Rg vK M (by assumption) ?_)));clear H K2;intro a H;refine kH H (Rl iw M (Rm M (Kz K7 (SB ?_))));clear H K7;intro a H;skip;refine fD (ι:=Nat) (Tc:=[(3,_),(4,_),(5,_),(22,_),(23,_)]) (Lc:=[]) (fun gh=>[(24,vi gh)]) (fun gh=>[]) (fun gh=>Ga) (fun gh=>gh<=h.props.length∧eG ((h.props.map fun p=>yF st (li.map fT.id) p.key p.value).drop gh)=zG (bG us st li rv) h.props) (fun gh=>h.props.length - gh) (0) (by exact H.sub ⟨M,M,M,M,M,M,aC⟩) ?_ ?_
 ·exact Ka
 clear H;intro k a w hI H;obtain ⟨hk,heq⟩:=hI;dsimp only [lca,bM] at H;refine kP H (SR fun _ K8=>Rc M (Kz K8 (SQ fun _ K9=>Cd M ?_ ?_))) <;> clear H K8
 ·intro iR a H
  try have p25:=dT iR
  have hk2:k < h.props.length:=by omega
  obtain ⟨xb,xo,rfl,hrow⟩:=Js hh.props hk2;refine kP H (Kc K9 (SQ fun _ aT=>SB (SR fun _ bR=>Ri iw iK M M ?_)));clear H K9;intro a H;refine bQ iK (cs:=[_,_]) H wn M M (fun j v hj=>H.hp.aI (hrow j v hj)) M ?_;clear H;intro a H;refine dW iK H wn M ?_;clear H;intro b9 a w CF H;refine bJ iK 0 (vs:=[_,_]) H wn M ?_;clear H;intro w H;refine bR _ _ ?_;clear bR;refine kP H (SR fun _ cu=>Rg MB M (by assumption) ?_);clear H;intro a H;refine kH H (bC xW aF 0 M M (bC Rb aF 0 M M ?_));clear H;intro a H;refine s_call afx H wn M (aeE _ _ H.ro st li rv b ms ml mr mb mu n h.props[k].key h.props[k].value hck hb) M ?_;clear H;rintro v33 _ a w ⟨rfl,rfl⟩ - H;refine kH H (aj cu M (SR fun _ dw=>Rm M (Rc M (Kz dw (Cd M ?_ ?_))))) <;> clear H cu dw
  ·intro iF a H
   try have p35:=dT iF
   refine bL (fun _ dB=>?_)
   have hr:zG (bG us st li rv) h.props=yF st (li.map fT.id) h.props[k].key h.props[k].value:=by rw [<- heq];exact (akq (C:=bG us st li rv) hk2).trans (ay p35)
   have hE:=(awc (C:=bG us st li rv) (e:=e) (h:=h) e1 (by rw [hr];exact p35)).trans hr;exact kP H (SC (Rm M (bF dB M (LR results70 M fun H=>H.rt (by rw [hE])))))
  intro iF a H
  try have p35:=dF iF
  refine kP H (Kc aT (SC (Rd M (Rm M ?_))));clear H aT;intro a H;refine aD ?_;refine dQ ((k+1)) (by exact (H.eD (Pl:=[_]) (dK:=[]) [] Z M).sub ⟨M,M,M,M,M,M,aC⟩) ?_
  exact ⟨O,by rw [akq (C:=bG us st li rv) hk2,au (by simpa using p35)] at heq;exact heq⟩
 intro iR a H
 try have p25:=dF iR
 refine dY ?_;refine K6 _ _ ?_;clear K6;refine bL (fun _ dX=>?_)
 have e2:zG (bG us st li rv) h.props=0:=by rw [<- heq,rU (by rw [bK];omega)];rfl
 refine kP H (SC (Rf oh M ?_));clear H;intro a H;refine bQ EG (cs:=[vi h.marks.ins,vi h.marks.move,.slice dA h.marks.bD.length dc,.slice lA h.marks.layers.length lc]) H wn M M (fun j v hj=>H.hp.aI (g51 j v hj)) M ?_;clear H;intro a H;refine dW EG H wn M ?_;clear H;intro b11 a w KV H;refine bJ EG 0 (vs:=[_,_,_,_]) H wn M ?_;clear H;intro w H;obtain ⟨Gb,hmb,FD,H⟩:=H.fU;replace hck:=hck.mono hmb;replace hb:=hmb _ _ hb;replace hh:=hh.mono hmb;replace g3:=aG hmb g3;replace g4:=aG hmb g4;replace hc2:=aG hmb hc2
 have q0:aI Gb b11 0=some (vi h.marks.ins):=by unfold aI;rw [FD];rfl
 have q1:aI Gb b11 1=some (vi h.marks.move):=by unfold aI;rw [FD];rfl
 have q2:aI Gb b11 2=some (.slice dA h.marks.bD.length dc):=by unfold aI;rw [FD];rfl
 have q3:aI Gb b11 3=some (.slice lA h.marks.layers.length lc):=by unfold aI;rw [FD];rfl
 have hcb:=ayQ hck hb g3 g4 q3 hh.layers;refine aD ?_;refine dX _ _ ?_;clear dX;refine uo (ι:=GH) (Tc:=[(3,_),(4,_),(11,_)]) (Lc:=[]) (fun gh=>[]) (fun gh=>[]) (fun gh=>gh) (fun gh=>kI (bG us st li rv) h.marks=0∧(∀ b o,Gb b=some o->gh b=some o)) (by exact H.sub ⟨M,M,M,aC⟩) ?_ ?_
 ·skip;refine AY ?_;refine bL (fun _ eu=>?_)
  by_cases c0:h.marks.ins≠0
  ·skip
   by_cases c1:h.marks.ins∉rv.map cB.id
   ·skip;refine dI hmx [[],[0],[0,1],[0,1,2],ra 0 4,ra 0 5,ra 0 6,ra 0 7,ra 0 4,[0,1,2,3,8],ra 0 10,ra 0 11,ra 0 12,ra 0 13] [13] V [_,_,_,_,_,(aH b 0),_,_,_,_,.bool (decide (h.marks.ins∈rv.map cB.id)),.bool (decide (h.marks.ins∉rv.map cB.id)),_] H (aB (Z0 M (Rf tL M)) (X1 0 41 M fun hG=>Rg aF M (aG hG q0)) (Z1 1 42 M (Rc M)) (Z1 2 43 M (Rm M)) (aB (X1 3 44 M fun hG=>YR MB (aJ c0) M (aG hG g3)) ?_ (Z2 5 46 3 44 M (YF NG (aJ c0) M)) (X2 6 47 3 44 M fun hG=>YR vJ (aJ c0) M (aG hG hc2)) (aB (Z1 3 44 M (YF tL (aJ c0) M)) (X2 8 49 3 44 M fun hG=>YR aF (aJ c0) M (aG hG q0)) ?_ ?_ (bN (Z2 3 44 11 52 M (Pt (aJ c0) M)) (bN (bS M) dz))))) ?_
    ·refine eT 4 45 3 44 M M fun _ a w G1 hG HT H fin=>?_;exact Qr
    ·exact adJ
    ·exact aek
    clear H;intro a w G oH H hv;have H:=H.aM (hv 12 53 M M) M;clear hv;refine kH H (Ra M ?_);clear H;intro a H;refine aD ⟨M,?_⟩;refine eu _ _ ?_;clear eu;refine Cq H M (aJ c1) ?_;refine bL (fun _ dN=>?_);have e3:kI (bG us st li rv) h.marks=22:=ay ⟨c0,c1⟩;have hE:=(Ee (C:=bG us st li rv) (e:=e) (h:=h) e1 e2 (by rw [e3];decide)).trans e3;exact kP H (SC (bF dN M (LR results70 M fun H=>H.rt (by rw [hE]))))
   skip;refine dI hmx [[],[0],[0,1],[0,1,2],ra 0 4,ra 0 5,ra 0 6,ra 0 7,ra 0 4,[0,1,2,3,8],ra 0 10,ra 0 11,ra 0 12,ra 0 13] [13] V [_,_,_,_,_,(aH b 0),_,_,_,_,.bool (decide (h.marks.ins∈rv.map cB.id)),.bool (decide (h.marks.ins∉rv.map cB.id)),_] H (aB (Z0 M (Rf tL M)) (X1 0 41 M fun hG=>Rg aF M (aG hG q0)) (Z1 1 42 M (Rc M)) (Z1 2 43 M (Rm M)) (aB (X1 3 44 M fun hG=>YR MB (aJ c0) M (aG hG g3)) ?_ (Z2 5 46 3 44 M (YF NG (aJ c0) M)) (X2 6 47 3 44 M fun hG=>YR vJ (aJ c0) M (aG hG hc2)) (aB (Z1 3 44 M (YF tL (aJ c0) M)) (X2 8 49 3 44 M fun hG=>YR aF (aJ c0) M (aG hG q0)) ?_ ?_ (bN (Z2 3 44 11 52 M (Pt (aJ c0) M)) (bN (bS M) dz))))) ?_
   ·refine eT 4 45 3 44 M M fun _ a w G1 hG HT H fin=>?_;exact Qr
   ·exact adJ
   ·exact aek
   clear H;intro a w G oH H hv;have H:=H.aM (hv 12 53 M M) M;clear hv;refine kH H (Ra M ?_);clear H;intro a H;refine aD ⟨M,?_⟩;refine eu _ _ ?_;clear eu;refine sM H M (aY c1) ?_;refine bL (fun _ eO=>?_)
   have hno:¬ (h.marks.ins≠0∧h.marks.ins∉(bG us st li rv).lq):=by first|exact fun h=>c1 h.2|exact fun h=>c0 h.1
   replace q0:=aG oH q0;replace q1:=aG oH q1;replace q2:=aG oH q2;refine kP H (SC (Rf Cu M (Rg aF M (by assumption) ?_)));clear H;intro a H;refine s_call za H wn M (zy _ _ H.ro h.marks.move 0 1073741824) M ?_;clear H;rintro v57 _ a w ⟨rfl,rfl⟩ - H;refine kH H (Rn M (Rm M (Sp 59 M ?_ ?_))) <;> clear H
   ·intro jv a H
    try have p59:=dT jv
    refine kH H (aU jv M (aU jv M (Ku M (Ku M (Ku M (Ks jv M (Pt jv M (bF eO M (Ct M M (SQ fun _ gD=>?_))))))))));clear H eO;intro a H
    have e3:kI (bG us st li rv) h.marks=21:=by unfold kI;rw [au hno,ay (by first|(simp_all;done)|(simp_all;omega))]
    have hE:=(Ee (C:=bG us st li rv) (e:=e) (h:=h) e1 e2 (by rw [e3];decide)).trans e3;exact kP H (SC (bF gD M (LR results70 M fun H=>H.rt (by rw [hE]))))
   intro jv a H
   try have p59:=dF jv
   refine kH H (YF Cu jv M (YR aF jv M (by assumption) ?_));clear H;intro a H;refine kH H (YC jv M (YM jv M (Sp 63 M ?_ ?_))) <;> clear H
   ·intro h63 a H
    try have p63:=dT h63
    refine kH H (YF tL h63 M (YR aF h63 M (by assumption) ?_));clear H;intro a H;refine kH H (YC h63 M (PT jv h63 M (Pf jv M (bF eO M (Cd M ?_ ?_))))) <;> clear H eO
    ·intro iT a H
     try have p54:=dT iT
     refine bL (fun _ fF=>?_)
     have e3:kI (bG us st li rv) h.marks=21:=by unfold kI;rw [au hno,ay (by first|(simp_all;done)|(simp_all;omega))]
     have hE:=(Ee (C:=bG us st li rv) (e:=e) (h:=h) e1 e2 (by rw [e3];decide)).trans e3;exact kP H (SC (bF fF M (LR results70 M fun H=>H.rt (by rw [hE]))))
    intro iT a H
    try have p54:=dF iT
    refine bL (fun _ gK=>?_)
    have hn2:¬ (¬ (0<=h.marks.move∧h.marks.move<=1073741824)∨(h.marks.move≠0∧h.marks.ins=0)):=by first|(simp_all;done)|(simp_all;omega)
    refine kP H (SC (Rf qH M (Rg qO M (by assumption) ?_)));clear H;intro a H;refine kH H (Rl mQ M (Rc M (bF gK M (Cd M ?_ ?_)))) <;> clear H gK
    ·intro wZ a H
     refine bL (fun _ jg=>?_)
     have e3:kI (bG us st li rv) h.marks=9:=by unfold kI;rw [au hno,au hn2,ay (by simpa using wZ)]
     have hE:=(Ee (C:=bG us st li rv) (e:=e) (h:=h) e1 e2 (by rw [e3];decide)).trans e3;exact kP H (SC (bF jg M (LR results70 M fun H=>H.rt (by rw [hE]))))
    intro wZ a H
    have e3:kI (bG us st li rv) h.marks=0:=by unfold kI;rw [au hno,au hn2,au (by simpa using wZ)]
    refine iD ?_;refine ⟨_,by exact H.sub ⟨M,M,M,aC⟩,?_⟩;exact ⟨e3,oH⟩
   intro h63 a H
   try have p63:=dF h63
   refine kH H (bH h63 M (PF jv h63 M (Pf jv M (bF eO M (Cf M M (SQ fun _ kX=>?_))))));clear H eO;intro a H
   have hn2:¬ (¬ (0<=h.marks.move∧h.marks.move<=1073741824)∨(h.marks.move≠0∧h.marks.ins=0)):=by first|(simp_all;done)|(simp_all;omega)
   refine kP H (SC (Rf qH M (Rg qO M (by assumption) ?_)));clear H;intro a H;refine kH H (Rl mQ M (Rc M (bF kX M (Cd M ?_ ?_)))) <;> clear H kX
   ·intro wZ a H
    refine bL (fun _ kQ=>?_)
    have e3:kI (bG us st li rv) h.marks=9:=by unfold kI;rw [au hno,au hn2,ay (by simpa using wZ)]
    have hE:=(Ee (C:=bG us st li rv) (e:=e) (h:=h) e1 e2 (by rw [e3];decide)).trans e3;exact kP H (SC (bF kQ M (LR results70 M fun H=>H.rt (by rw [hE]))))
   intro wZ a H
   have e3:kI (bG us st li rv) h.marks=0:=by unfold kI;rw [au hno,au hn2,au (by simpa using wZ)]
   refine iD ?_;refine ⟨_,by exact H.sub ⟨M,M,M,aC⟩,?_⟩;exact ⟨e3,oH⟩
  skip;refine dI hmx [[],[0],[0,1],[0,1,2],ra 0 4,ra 0 5,ra 0 6,ra 0 7,ra 0 4,[0,1,2,3,8],ra 0 10,ra 0 11,ra 0 12,ra 0 13] [13] V [_,_,_,_,undef,undef,undef,undef,undef,undef,undef,undef,_] H (aB (Z0 M (Rf tL M)) (X1 0 41 M fun hG=>Rg aF M (aG hG q0)) (Z1 1 42 M (Rc M)) (Z1 2 43 M (Rm M)) (aB (aZ 3 (aY c0) M M) (aZ 3 (aY c0) M M) (aZ 3 (aY c0) M M) (aZ 3 (aY c0) M M) (aB (aZ 3 (aY c0) M M) (aZ 3 (aY c0) M M) (aZ 3 (aY c0) M M) (aZ 3 (aY c0) M M) (bN (Z2 3 44 11 52 M (Pf (aY c0) M)) (bN (bS M) dz))))) ?_
  clear H;intro a w G oH H hv;have H:=H.aM (hv 12 53 M M) M;clear hv;refine kH H (Ra M ?_);clear H;intro a H;refine aD ⟨M,?_⟩;refine eu _ _ ?_;clear eu;refine sM H M M ?_;refine bL (fun _ jP=>?_)
  have hno:¬ (h.marks.ins≠0∧h.marks.ins∉(bG us st li rv).lq):=by first|exact fun h=>c1 h.2|exact fun h=>c0 h.1
  replace q0:=aG oH q0;replace q1:=aG oH q1;replace q2:=aG oH q2;refine kP H (SC (Rf Cu M (Rg aF M (by assumption) ?_)));clear H;intro a H;refine s_call za H wn M (zy _ _ H.ro h.marks.move 0 1073741824) M ?_;clear H;rintro v57 _ a w ⟨rfl,rfl⟩ - H;refine kH H (Rn M (Rm M (Sp 59 M ?_ ?_))) <;> clear H
  ·intro jv a H
   try have p59:=dT jv
   refine kH H (aU jv M (aU jv M (Ku M (Ku M (Ku M (Ks jv M (Pt jv M (bF jP M (Ct M M (SQ fun _ mE=>?_))))))))));clear H jP;intro a H
   have e3:kI (bG us st li rv) h.marks=21:=by unfold kI;rw [au hno,ay (by first|(simp_all;done)|(simp_all;omega))]
   have hE:=(Ee (C:=bG us st li rv) (e:=e) (h:=h) e1 e2 (by rw [e3];decide)).trans e3;exact kP H (SC (bF mE M (LR results70 M fun H=>H.rt (by rw [hE]))))
  intro jv a H
  try have p59:=dF jv
  refine kH H (YF Cu jv M (YR aF jv M (by assumption) ?_));clear H;intro a H;refine kH H (YC jv M (YM jv M (Sp 63 M ?_ ?_))) <;> clear H
  ·intro h63 a H
   try have p63:=dT h63
   refine kH H (YF tL h63 M (YR aF h63 M (by assumption) ?_));clear H;intro a H;refine kH H (YC h63 M (PT jv h63 M (Pf jv M (bF jP M (Cd M ?_ ?_))))) <;> clear H jP
   ·intro iT a H
    try have p54:=dT iT
    refine bL (fun _ mF=>?_)
    have e3:kI (bG us st li rv) h.marks=21:=by unfold kI;rw [au hno,ay (by first|(simp_all;done)|(simp_all;omega))]
    have hE:=(Ee (C:=bG us st li rv) (e:=e) (h:=h) e1 e2 (by rw [e3];decide)).trans e3;exact kP H (SC (bF mF M (LR results70 M fun H=>H.rt (by rw [hE]))))
   intro iT a H
   try have p54:=dF iT
   refine bL (fun _ jQ=>?_)
   have hn2:¬ (¬ (0<=h.marks.move∧h.marks.move<=1073741824)∨(h.marks.move≠0∧h.marks.ins=0)):=by first|(simp_all;done)|(simp_all;omega)
   refine kP H (SC (Rf qH M (Rg qO M (by assumption) ?_)));clear H;intro a H;refine kH H (Rl mQ M (Rc M (bF jQ M (Cd M ?_ ?_)))) <;> clear H jQ
   ·intro wZ a H
    refine bL (fun _ oM=>?_)
    have e3:kI (bG us st li rv) h.marks=9:=by unfold kI;rw [au hno,au hn2,ay (by simpa using wZ)]
    have hE:=(Ee (C:=bG us st li rv) (e:=e) (h:=h) e1 e2 (by rw [e3];decide)).trans e3;exact kP H (SC (bF oM M (LR results70 M fun H=>H.rt (by rw [hE]))))
   intro wZ a H
   have e3:kI (bG us st li rv) h.marks=0:=by unfold kI;rw [au hno,au hn2,au (by simpa using wZ)]
   refine iD ?_;refine ⟨_,by exact H.sub ⟨M,M,M,aC⟩,?_⟩;exact ⟨e3,oH⟩
  intro h63 a H
  try have p63:=dF h63
  refine kH H (bH h63 M (PF jv h63 M (Pf jv M (bF jP M (Cf M M (SQ fun _ pQ=>?_))))));clear H jP;intro a H
  have hn2:¬ (¬ (0<=h.marks.move∧h.marks.move<=1073741824)∨(h.marks.move≠0∧h.marks.ins=0)):=by first|(simp_all;done)|(simp_all;omega)
  refine kP H (SC (Rf qH M (Rg qO M (by assumption) ?_)));clear H;intro a H;refine kH H (Rl mQ M (Rc M (bF pQ M (Cd M ?_ ?_)))) <;> clear H pQ
  ·intro wZ a H
   refine bL (fun _ oN=>?_)
   have e3:kI (bG us st li rv) h.marks=9:=by unfold kI;rw [au hno,au hn2,ay (by simpa using wZ)]
   have hE:=(Ee (C:=bG us st li rv) (e:=e) (h:=h) e1 e2 (by rw [e3];decide)).trans e3;exact kP H (SC (bF oN M (LR results70 M fun H=>H.rt (by rw [hE]))))
  intro wZ a H
  have e3:kI (bG us st li rv) h.marks=0:=by unfold kI;rw [au hno,au hn2,au (by simpa using wZ)]
  refine iD ?_;refine ⟨_,by exact H.sub ⟨M,M,M,aC⟩,?_⟩;exact ⟨e3,oH⟩
 clear H;intro g a w hI H;obtain ⟨e3,yu⟩:=hI;replace hck:=hck.mono yu;replace hb:=yu _ _ hb;replace hh:=hh.mono yu;replace g3:=aG yu g3;replace q2:=aG yu q2;replace q3:=aG yu q3;replace hc2:=aG yu hc2;replace hcb:=hcb.mono yu;dsimp only [lca,bM] at H;refine kP H (SQ fun _ qz=>SR fun _ pW=>Rf qH M (Rg qO M (by assumption) ?_));clear H;intro a H;refine kH H (Rl mQ M (Rm M (Kz pW (SB ?_))));clear H pW;intro a H;skip;refine fD (ι:=Nat × GH) (Tc:=[(3,_),(4,_),(11,_),(75,_),(76,_)]) (Lc:=[]) (fun gh=>[(77,vi gh.1)]) (fun gh=>[]) (fun gh=>gh.2) (fun gh=>gh.1<=h.marks.bD.length∧eG (((List.range h.marks.bD.length).map (uw (bG us st li rv) h.marks.bD)).drop gh.1)=lF (uw (bG us st li rv) h.marks.bD) h.marks.bD.length∧(∀ b o,g b=some o->gh.2 b=some o)) (fun gh=>h.marks.bD.length - gh.1) ((0,g)) (by exact H.sub ⟨M,M,M,M,M,M,aC⟩) ?_ ?_
 ·exact Fa
 clear H;rintro ⟨k,g2⟩ a w hI H;dsimp only at hI H;obtain ⟨hk,heq,hgm⟩:=hI;dsimp only [lca,bM] at H;refine kP H (SR fun _ qR=>Rc M (Kz qR (SQ fun _ vU=>Cd M ?_ ?_))) <;> clear H qR
 ·intro XL a H
  try have p78:=dT XL
  have hk2:k < h.marks.bD.length:=by omega
  have hd2:=hh.bD.mono hgm;obtain ⟨xb,xo,rfl,hrow⟩:=QW hd2 hk2
  have hk1:k - 1 < h.marks.bD.length:=by omega
  obtain ⟨b',o',he',hrow'⟩:=QW hd2 hk1
  injection he' with he'
  injection he' with e1 e2
  subst e1;subst e2
  have hde:uw (bG us st li rv) h.marks.bD k=uZ (bG us st li rv) k h.marks.bD[k] h.marks.bD[k - 1].rev:=by unfold uw;rw [eB hk2,eB hk1];rfl
  have hX:∀ v,uZ (bG us st li rv) k h.marks.bD[k] h.marks.bD[k - 1].rev=v->v≠0->iU (bG us st li rv) e h=v:=fun v h1 h2=>by
   have h4:lF (uw (bG us st li rv) h.marks.bD) h.marks.bD.length=v:=by rw [<- heq,MV hk2,hde,h1,ay h2]
   exact (awd e1 e2 e3 (by rw [h4];exact h2)).trans h4
  have hp:=hrow' 0 _ M;have g3':=aG hgm g3;have hc2':=aG hgm hc2;have q2':=aG hgm q2;refine kP H (Kc vU (SQ fun _ tC=>SB (SR fun _ xL=>Rm M (Ri mQ oJ M M ?_))));clear H vU;intro a H;refine bQ oJ (cs:=h.marks.bD[k].cells) H wn M M (fun j v hj=>H.hp.aI (hrow j v hj)) M ?_;clear H;intro a H;refine dW oJ H wn M ?_;clear H;intro b13 a w RJ H;refine kH H (Ra M ?_);clear H;intro a H;refine bJ oJ 0 (vs:=[_,_]) H wn M ?_;clear H;intro w H;refine xL _ _ ?_;clear xL;refine AY ?_;refine bL (fun _ BX=>?_);refine dI hmx [[],[0],[0,1],[0,1,2],[],[4],ra 0 6,ra 0 7,ra 0 8] [8] V [_,_,_,_,_,vi h.marks.bD[k].rev,.bool (decide (h.marks.bD[k].rev∈rv.map cB.id)),_] H (aB (X0 M fun hG=>Rg MB M (aG hG g3')) (Z1 0 83 M (Rk M)) (Z1 1 84 M (Rf NG M)) (X1 2 85 M fun hG=>Rg vJ M (aG hG hc2')) (aB (Z0 M (Rf Fg M)) (Z1 4 87 M (Ro aF 0 M)) ?_ (Z1 6 89 M (Rn M)) (bN (bS M) dz))) ?_
  ·refine eT 3 86 5 88 M M fun _ a w G1 hG HT H fin=>?_;refine Dh (zv:=.bool false) zK mX V H wn M M (H.ro _ _ (hG _ _ (hgm _ _ hck.rev))) M ?_;clear H;intro a H;rw [Jg] at H;exact Kg
  clear H;intro a w G KQ H hv;have H:=H.aM (hv 7 90 M M) M;clear hv;refine kH H (Ra M ?_);clear H;intro a H;refine aD ⟨M,?_⟩;refine BX _ _ ?_;clear BX;refine jL H M ?_ ?_
  ·intro xY
   refine bL (fun _ BZ=>?_);have hE:=hX 22 (by unfold uZ;rw [ay (by simpa using xY)]) Z;exact kP H (SC (bF BZ M (LR results70 M fun H=>H.rt (by rw [hE]))))
  intro xY
  try have p82:=dF xY
  have Oe:¬ (h.marks.bD[k].rev∉(bG us st li rv).lq):=by simpa using xY
  refine bL (fun _ qU=>?_);replace hp:=aG KQ hp;replace q2':=aG KQ q2'
  by_cases c3:0 < (k:Int)
  ·skip
   by_cases c4:h.marks.bD[k].rev<=h.marks.bD[k - 1].rev
   ·skip;refine dI hmx [[],[0],[0,1],[0,1,2],ra 0 4,[0,1,2],[0,1,2,5],[0,1,2],[0,1,2,7],[0,1,2,5,6,7,8],[0,1,2,5,6,7,8,9],([0,1,2]++ra 5 6),ra 0 12,ra 0 13,ra 0 14] [14] V [_,_,_,_,vi h.marks.bD[k].rev,_,_,_,vi ((k - 1:Nat):Int),_,_,_,_,_] H (aB (Z0 M (Rm M)) (Z1 0 92 M (Rc M)) (Z1 1 93 M (Rm M)) (Z1 2 94 M (YF Fg (aJ c3) M)) (aB (Z2 3 95 2 94 M (YO aF 0 (aJ c3) M)) (Z1 2 94 M (YF qH (aJ c3) M)) (X2 5 97 2 94 M fun hG=>YR qO (aJ c3) M (aG hG q2')) (Z1 2 94 M (YM (aJ c3) M)) (aB ?_ (Z3 6 98 8 100 2 94 M (YI mQ oJ (aJ c3) M M)) (Z2 9 101 2 94 M (YF Fg (aJ c3) M)) (X2 10 102 2 94 M fun hG=>YR aF (aJ c3) M (aG hG hp)) (bN (Z3 4 96 11 103 2 94 M (YC (aJ c3) M)) (bN (Z2 2 94 12 104 M (Pt (aJ c3) M)) (bN (bS M) dz)))))) ?_
    ·refine eT 7 99 2 94 M M fun _ a w G1 hG HT H fin=>?_;exact Qq
    clear H;intro a w G RF H hv;have H:=H.aM (hv 13 105 M M) M;clear hv;refine kH H (Ra M ?_);clear H;intro a H;refine aD ⟨M,?_⟩;refine qU _ _ ?_;clear qU;refine Cq H M (aJ c4) ?_;refine bL (fun _ DC=>?_);have hz:0 < k∧h.marks.bD[k].rev<=h.marks.bD[k - 1].rev:=⟨O,c4⟩;have hE:=hX 6 (by unfold uZ;rw [au Oe,ay hz]) Z;exact kP H (SC (bF DC M (LR results70 M fun H=>H.rt (by rw [hE]))))
   skip;refine dI hmx [[],[0],[0,1],[0,1,2],ra 0 4,[0,1,2],[0,1,2,5],[0,1,2],[0,1,2,7],[0,1,2,5,6,7,8],[0,1,2,5,6,7,8,9],([0,1,2]++ra 5 6),ra 0 12,ra 0 13,ra 0 14] [14] V [_,_,_,_,vi h.marks.bD[k].rev,_,_,_,vi ((k - 1:Nat):Int),_,_,_,_,_] H (aB (Z0 M (Rm M)) (Z1 0 92 M (Rc M)) (Z1 1 93 M (Rm M)) (Z1 2 94 M (YF Fg (aJ c3) M)) (aB (Z2 3 95 2 94 M (YO aF 0 (aJ c3) M)) (Z1 2 94 M (YF qH (aJ c3) M)) (X2 5 97 2 94 M fun hG=>YR qO (aJ c3) M (aG hG q2')) (Z1 2 94 M (YM (aJ c3) M)) (aB ?_ (Z3 6 98 8 100 2 94 M (YI mQ oJ (aJ c3) M M)) (Z2 9 101 2 94 M (YF Fg (aJ c3) M)) (X2 10 102 2 94 M fun hG=>YR aF (aJ c3) M (aG hG hp)) (bN (Z3 4 96 11 103 2 94 M (YC (aJ c3) M)) (bN (Z2 2 94 12 104 M (Pt (aJ c3) M)) (bN (bS M) dz)))))) ?_
   ·refine eT 7 99 2 94 M M fun _ a w G1 hG HT H fin=>?_;exact Qq
   clear H;intro a w G RF H hv;have H:=H.aM (hv 13 105 M M) M;clear hv;refine kH H (Ra M ?_);clear H;intro a H;refine aD ⟨M,?_⟩;refine qU _ _ ?_;clear qU;refine sM H M (aY c4) ?_;refine bL (fun _ Ca=>?_)
   have hz:¬ (0 < k∧h.marks.bD[k].rev<=h.marks.bD[k - 1].rev):=by first|exact fun h=>c4 h.2|exact fun h=>c3 O
   refine kP H (SC (bC agq aF 0 M M ?_));clear H;intro a H;refine s_call za H wn M (zy _ _ H.ro h.marks.bD[k].move 0 1073741824) M ?_;clear H;rintro v109 _ a w ⟨rfl,rfl⟩ - H;refine kH H (Rn M (bF Ca M (Cd M ?_ ?_))) <;> clear H Ca
   ·intro Bh a H
    try have ZV:=dT Bh
    refine bL (fun _ GV=>?_);have hE:=hX 21 (by unfold uZ;rw [au Oe,au hz,ay (by have h0:=Bh;simp at h0;omega)]) Z;exact kP H (SC (bF GV M (LR results70 M fun H=>H.rt (by rw [hE]))))
   intro Bh a H
   try have ZV:=dF Bh
   have ahA:uZ (bG us st li rv) k h.marks.bD[k] h.marks.bD[k - 1].rev=0:=by unfold uZ;rw [au Oe,au hz,au (by have h0:=Bh;simp at h0;omega)]
   have hGk:=fun b o h=>RF b o (KQ b o (hgm b o h));refine kP H (Kc tC (SC (Rd M (Rm M ?_))));clear H tC;intro a H;refine aD ?_;refine dQ ((k+1,G)) (by exact (H.eD (Pl:=[_]) (dK:=[]) [] Z M).sub ⟨M,M,M,M,M,M,aC⟩) ?_
   (try dsimp only);exact acn
  skip;refine dI hmx [[],[0],[0,1],[0,1,2],ra 0 4,[0,1,2],[0,1,2,5],[0,1,2],[0,1,2,7],[0,1,2,5,6,7,8],[0,1,2,5,6,7,8,9],([0,1,2]++ra 5 6),ra 0 12,ra 0 13,ra 0 14] [14] V [_,_,_,undef,undef,undef,undef,undef,undef,undef,undef,undef,undef,_] H (aB (Z0 M (Rm M)) (Z1 0 92 M (Rc M)) (Z1 1 93 M (Rm M)) (aZ 2 (aY c3) M M) (aB (aZ 2 (aY c3) M M) (aZ 2 (aY c3) M M) (aZ 2 (aY c3) M M) (aZ 2 (aY c3) M M) (aB (aZ 2 (aY c3) M M) (aZ 2 (aY c3) M M) (aZ 2 (aY c3) M M) (aZ 2 (aY c3) M M) (bN (aZ 2 (aY c3) M M) (bN (Z2 2 94 12 104 M (Pf (aY c3) M)) (bN (bS M) dz)))))) ?_
  clear H;intro a w G RF H hv;have H:=H.aM (hv 13 105 M M) M;clear hv;refine kH H (Ra M ?_);clear H;intro a H;refine aD ⟨M,?_⟩;refine qU _ _ ?_;clear qU;refine sM H M M ?_;refine bL (fun _ EU=>?_)
  have hz:¬ (0 < k∧h.marks.bD[k].rev<=h.marks.bD[k - 1].rev):=by first|exact fun h=>c4 h.2|exact fun h=>c3 O
  refine kP H (SC (bC agq aF 0 M M ?_));clear H;intro a H;refine s_call za H wn M (zy _ _ H.ro h.marks.bD[k].move 0 1073741824) M ?_;clear H;rintro v109 _ a w ⟨rfl,rfl⟩ - H;refine kH H (Rn M (bF EU M (Cd M ?_ ?_))) <;> clear H EU
  ·intro Bh a H
   try have ZV:=dT Bh
   refine bL (fun _ GX=>?_);have hE:=hX 21 (by unfold uZ;rw [au Oe,au hz,ay (by have h0:=Bh;simp at h0;omega)]) Z;exact kP H (SC (bF GX M (LR results70 M fun H=>H.rt (by rw [hE]))))
  intro Bh a H
  try have ZV:=dF Bh
  have ahA:uZ (bG us st li rv) k h.marks.bD[k] h.marks.bD[k - 1].rev=0:=by unfold uZ;rw [au Oe,au hz,au (by have h0:=Bh;simp at h0;omega)]
  have hGk:=fun b o h=>RF b o (KQ b o (hgm b o h));refine kP H (Kc tC (SC (Rd M (Rm M ?_))));clear H tC;intro a H;refine aD ?_;refine dQ ((k+1,G)) (by exact (H.eD (Pl:=[_]) (dK:=[]) [] Z M).sub ⟨M,M,M,M,M,M,aC⟩) ?_
  (try dsimp only);exact acn
 intro XL a H
 try have p78:=dF XL
 refine dY ?_;refine qz _ _ ?_;clear qz;refine bL (fun _ EW=>?_);refine bL (fun _ MN=>?_)
 have e4:lF (uw (bG us st li rv) h.marks.bD) h.marks.bD.length=0:=by rw [<- heq,rU (by simp;omega)];rfl
 replace q3:=aG hgm q3;refine kP H (SC (Rf Bd M (Rg BQ M (by assumption) ?_)));clear H;intro a H;refine kH H (Rl mq M (Rc M (Kn MN (Cd M ?_ ?_)))) <;> clear H MN
 ·intro XE a H
  try have ZW:=dT XE
  refine bL (fun _ PW=>?_);have hE:=awe (C:=bG us st li rv) (e:=e) (h:=h) e1 e2 e3 e4 ZW;exact kP H (SC (bF PW M (LR results70 M fun H=>H.rt (by rw [hE]))))
 intro XE a H
 try have ZW:=dF XE
 refine iD ?_;refine EW _ _ ?_;clear EW;refine bL (fun _ PX=>?_);have hE:=awf (C:=bG us st li rv) (e:=e) (h:=h) e1 e2 e3 e4 ZW;refine kP H (SC (Rf Bd M (Rg BQ M (by assumption) ?_)));clear H;intro a H;refine kH H (Rl mq M ?_);clear H;intro a H;refine vG H wn M M ?_;clear H;intro a H;refine s_call KF H wn M (MX _ _ H.ro h.marks.layers.length (yx (bG us st li rv) e h.marks.layers) _ O (hcb.mono hgm)) M ?_;clear H;rintro aFR aEq a w rfl aEJ H;exact kH H (bF PX M (LR results70 M fun H=>H.rt (by rw [hE])))
end
theorem KL:dR prog 68 1 1:=⟨V⟩
def codeOk (x:ak):Bool:=if x.kind=4 then decide (1<=x.code∧x.code<=3) else if x.kind=6 then decide (1<=x.code∧x.code<=2) else if x.kind=8 then decide (1<=x.code∧x.code<=4) else true
def Ap (x:ak):Bool:=decide (x.kind=8∧x.code=1)
def Aw (x:ak):Bool:=decide (x.kind=1∨x.kind=5) || Ap x
def yC (x:ak):Bool:=decide (x.kind=6∨x.kind=7∨x.kind=8)
def xU (x:ak):Bool:=decide (x.kind=4∨x.kind=6∨x.kind=8)
def vk (s:ByteArray):Bool:=s.toList == (⟨#[]⟩:ByteArray).toList
def wW (x:ak):Bool:=!xU x && decide (x.code≠0) || !yC x && decide (x.id≠0) || !Aw x && !vk x.text || decide (x.kind≠6) && decide (0 < (x.flow.length:Int)) || decide (x.kind≠7) && decide (0 < (x.rows.length:Int))
def kZ (x:ak):Int :=
 if (!decide (1<=x.kind∧x.kind<=8) || !codeOk x)=true then 3 else if wW x=true then 15 else if lX x.text=false then 12 else if (decide (x.kind=1∨x.kind=5) && vk x.text)=true then 11
 else if (decide (x.kind=5) && decide (1024 < (x.text.size:Int)))=true then 10 else if (Ap x && !xV x.text)=true then 13 else 0
theorem yS {p:Prop} (h:p:=by
 first|(simp_all;done)):p:=h
theorem HZ {p:Prop} (h:p:=by
 clear hst hwd hnm hck hcd;(try clear hq1);(try clear hq2);(try clear hq3);(try clear hq0);(try clear hq4);(try clear LK);(try clear LM);(try clear LP);simp_all):p:=h
theorem aod {p:Prop} (h:p:=by
 (try clear hq1);(try clear hq2);(try clear hq3);(try clear hq0);(try clear hq4);(try clear LK);(try clear LM);(try clear LP);simp_all):p:=h
theorem acU {p:Prop} (h:p:=by
 clear hst hwd hnm hck hcd;(try clear hq1);(try clear hq2);(try clear hq3);(try clear hq0);(try clear hq4);(try clear LK);(try clear LM);(try clear LP);simp_all [vk]):p:=h
theorem adz {p:Prop} (h:p:=by
 (try clear hq1);(try clear hq2);(try clear hq3);(try clear hq0);(try clear hq4);(try clear LK);(try clear LM);(try clear LP);simp_all [vk]):p:=h
theorem VK {p:Prop} (h:p:=by
 refine kH H (Ra M ?_);clear H;intro a H;refine aD ?_;refine ⟨_,by exact H.sub ⟨M,M,M,M,M,aC⟩,?_⟩
 unfold codeOk;exact yS):p:=h
theorem HV {p:Prop} (h:p:=by
 clear hst hwd hnm hck hcd;exact aod):p:=h
theorem adn {p:Prop} (h:p:=by
 clear H;intro a H;refine ahi (_) _ _ ?_ (by exact H.sub ⟨M,M,M,aC⟩);rw [<- hwd];clear hst hwd hnm hck hcd;exact adz):p:=h
theorem adp {p:Prop} (h:p:=by
 clear H;intro a H;refine ahm (_) _ _ ?_ (by exact H.sub ⟨M,M,M,aC⟩);clear hst hwd hnm hck hcd;exact adz):p:=h
theorem adv {p:Prop} (h:p:=by
 clear H;intro a H;refine ahk (_) _ _ ?_ (by exact H.sub ⟨M,M,M,aC⟩);rw [show wW x=(q4 || decide (x.kind≠7) && decide (0 < (x.rows.length:Int))) by rw [hq4,hq3,hq2,hq1];rfl];clear hq4;exact HV):p:=h
theorem adx {p:Prop} (h:p:=by
 clear H;intro a H;refine ahl (_) _ _ ?_ (by exact H.sub ⟨M,M,M,M,aC⟩);rw [<- hnm];exact HV):p:=h
theorem ady {p:Prop} (h:p:=by
 clear H;intro a H;refine ahj (_) _ _ ?_ (by exact H.sub ⟨M,M,M,aC⟩);exact HV):p:=h
theorem aui (G:GH) (w0:World) (hG:Hold G w0) (x:ak) (p d l:ah) (fA rA:Option Addr) (fc rc:Nat) (hs:x.text.size < 4611686018427387904) :
  Calls prog 196 #[.agg #[vi x.kind,vi x.code,vi x.id,.string x.text,p,vi x.head.marks.ins,vi x.head.marks.move,d,l,.slice fA x.flow.length fc,.slice rA x.rows.length rc]] w0 (bE w0 G fun u G'=>u=vi (kZ x)∧G=G'):=by
 refine eN [(0,_)] func196 M ntmps196 M M hG ?_;intro a H;refine cZ (fun _ K1=>?_);refine dZ (cs:=[_,_,_,_,_,_,_,_,_,_,_]) H wn M M M ?_;clear H;intro b1 a w hb1 H;refine kH H (aj K1 M ?_);clear H K1;intro a H;refine uo (ι:=Bool) (Tc:=[(1,_)]) (Lc:=[(_,_)]) (fun gh=>[(3,.bool gh)]) (fun gh=>[]) (fun gh=>G) (fun gh=>gh=Ap x) (by exact H.sub ⟨M,aC⟩) ?_ ?_
 ·skip;refine kP H (SC (bC kF aF 0 M M (Rc M (Rm M (Sp 11 M ?_ ?_))))) <;> clear H
  ·intro h11 a H
   try have rJ:=dT h11
   refine kH H (YF KL h11 M (YO aF 0 h11 M (YC h11 M (Pt h11 M (Ra M ?_)))));clear H;intro a H;refine aD ?_;refine ⟨_,by exact H.sub ⟨M,M,aC⟩,?_⟩
   unfold Ap;exact yS
  intro h11 a H
  try have rJ:=dF h11
  refine kH H (bH h11 M (Pf h11 M (Ra M ?_)));clear H;intro a H;refine aD ?_;refine ⟨_,by exact H.sub ⟨M,M,aC⟩,?_⟩
  unfold Ap;exact yS
 clear H;intro st a w hI H;have hst:=hI;dsimp only [lca,bM] at H;refine uo (ι:=Bool) (Tc:=[(1,_),(3,_)]) (Lc:=[(_,_)]) (fun gh=>[(4,.bool gh)]) (fun gh=>[]) (fun gh=>G) (fun gh=>gh=Aw x) (by exact H.sub ⟨M,M,aC⟩) ?_ ?_
 ·skip;refine kP H (SC (bC kF aF 0 M M (Rc M (Rm M (Sp 19 M ?_ ?_))))) <;> clear H
  ·intro h19 a H
   try have tX:=dT h19
   refine kH H (bH h19 M (Pt h19 M (Rm M (Ks M M (Pt M M (Ra M ?_))))));clear H;intro a H;refine aD ?_;refine ⟨_,by exact H.sub ⟨M,M,M,aC⟩,?_⟩
   unfold Aw;exact yS
  intro h19 a H
  try have tX:=dF h19
  refine kH H (YF kF h19 M (YO aF 0 h19 M (YC h19 M (Pf h19 M (Rm M (Sp 24 M ?_ ?_)))))) <;> clear H
  ·intro fV a H
   try have pJ:=dT fV
   refine kH H (Ks fV M (Pt fV M (Ra M ?_)));clear H;intro a H;refine aD ?_;refine ⟨_,by exact H.sub ⟨M,M,M,aC⟩,?_⟩
   unfold Aw;exact yS
  intro fV a H
  try have pJ:=dF fV
  refine kH H (YM fV M (Pf fV M (Ra M ?_)));clear H;intro a H;refine aD ?_;refine ⟨_,by exact H.sub ⟨M,M,M,aC⟩,?_⟩
  unfold Aw;exact yS
 clear H;intro wd a w hI H;have hwd:=hI;dsimp only [lca,bM] at H;refine uo (ι:=Bool) (Tc:=[(1,_),(3,_),(4,_)]) (Lc:=[(_,_)]) (fun gh=>[(5,.bool gh)]) (fun gh=>[]) (fun gh=>G) (fun gh=>gh=yC x) (by exact H.sub ⟨M,M,M,aC⟩) ?_ ?_
 ·skip;refine kP H (SC (bC kF aF 0 M M (Rc M (Rm M (Sp 30 M ?_ ?_))))) <;> clear H
  ·intro qJ a H
   try have p30:=dT qJ
   refine kH H (bH qJ M (Pt qJ M (Rm M (bH M M (Pt M M (Ra M ?_))))));clear H;intro a H;refine aD ?_;refine ⟨_,by exact H.sub ⟨M,M,M,M,aC⟩,?_⟩
   unfold yC;exact yS
  intro qJ a H
  try have p30:=dF qJ
  refine kH H (YF kF qJ M (YO aF 0 qJ M (YC qJ M (Pf qJ M (Rm M (Sp 35 M ?_ ?_)))))) <;> clear H
  ·intro iF a H
   try have p35:=dT iF
   refine kH H (bH iF M (Pt iF M (Ra M ?_)));clear H;intro a H;refine aD ?_;refine ⟨_,by exact H.sub ⟨M,M,M,M,aC⟩,?_⟩
   unfold yC;exact yS
  intro iF a H
  try have p35:=dF iF
  refine kH H (YF kF iF M (YO aF 0 iF M (YC iF M (Pf iF M (Ra M ?_)))));clear H;intro a H;refine aD ?_;refine ⟨_,by exact H.sub ⟨M,M,M,M,aC⟩,?_⟩
  unfold yC;exact yS
 clear H;intro nm a w hI H;have hnm:=hI;dsimp only [lca,bM] at H;refine kP H (SR fun _ K2=>aj K2 M ?_);clear H K2;intro a H;refine uo (ι:=Bool) (Tc:=[(1,_),(3,_),(4,_),(5,_)]) (Lc:=[(_,_)]) (fun gh=>[(6,.bool gh)]) (fun gh=>[]) (fun gh=>G) (fun gh=>gh=codeOk x) (by exact H.sub ⟨M,M,M,M,aC⟩) ?_ ?_
 ·skip;refine kP H (SR fun _ K3=>bC kF aF 0 M M (Kz K3 (SB (SR fun _ K4=>Rc M (aj K4 M (Cd M ?_ ?_)))))) <;> clear H K3 K4
  ·intro jV a H
   try have p42:=dT jV
   refine kP H (SC (bC KL aF 0 M M ?_));clear H;intro a H;refine s_call za H wn M (zy _ _ H.ro x.code 1 3) M ?_;clear H;rintro v46 _ a w ⟨rfl,rfl⟩ - H;exact VK
  intro jV a H
  try have p42:=dF jV
  refine kP H (SR fun _ K5=>Rc M (aj K5 M (Cd M ?_ ?_))) <;> clear H K5
  ·intro h47 a H
   try have p47:=dT h47
   refine kP H (SC (bC KL aF 0 M M ?_));clear H;intro a H;refine s_call za H wn M (zy _ _ H.ro x.code 1 2) M ?_;clear H;rintro v51 _ a w ⟨rfl,rfl⟩ - H;exact VK
  intro h47 a H
  try have p47:=dF h47
  refine kP H (SR fun _ K6=>Rc M (aj K6 M (Cd M ?_ ?_))) <;> clear H K6
  ·intro qK a H
   try have p52:=dT qK
   refine kP H (SC (bC KL aF 0 M M ?_));clear H;intro a H;refine s_call za H wn M (zy _ _ H.ro x.code 1 4) M ?_;clear H;rintro v56 _ a w ⟨rfl,rfl⟩ - H;exact VK
  intro qK a H
  try have p52:=dF qK
  refine iD ?_;refine ⟨_,by exact H.sub ⟨M,M,M,M,M,aC⟩,?_⟩
  unfold codeOk;exact yS
 clear H;intro ck a w hI H;have hck:=hI;dsimp only [lca,bM] at H;refine uo (ι:=Bool) (Tc:=[(1,_),(3,_),(4,_),(5,_),(6,_)]) (Lc:=[(_,_)]) (fun gh=>[(7,.bool gh)]) (fun gh=>[]) (fun gh=>G) (fun gh=>gh=xU x) (by exact H.sub ⟨M,M,M,M,M,aC⟩) ?_ ?_
 ·skip;refine kP H (SC (bC kF aF 0 M M (Rc M (Rm M (Sp 60 M ?_ ?_))))) <;> clear H
  ·intro mP a H
   try have p60:=dT mP
   refine kH H (bH mP M (Pt mP M (Rm M (bH M M (Pt M M (Ra M ?_))))));clear H;intro a H;refine aD ?_;refine ⟨_,by exact H.sub ⟨M,M,M,M,M,M,aC⟩,?_⟩
   unfold xU;exact yS
  intro mP a H
  try have p60:=dF mP
  refine kH H (YF kF mP M (YO aF 0 mP M (YC mP M (Pf mP M (Rm M (Sp 65 M ?_ ?_)))))) <;> clear H
  ·intro vo a H
   try have p65:=dT vo
   refine kH H (bH vo M (Pt vo M (Ra M ?_)));clear H;intro a H;refine aD ?_;refine ⟨_,by exact H.sub ⟨M,M,M,M,M,M,aC⟩,?_⟩
   unfold xU;exact yS
  intro vo a H
  try have p65:=dF vo
  refine kH H (YF kF vo M (YO aF 0 vo M (YC vo M (Pf vo M (Ra M ?_)))));clear H;intro a H;refine aD ?_;refine ⟨_,by exact H.sub ⟨M,M,M,M,M,M,aC⟩,?_⟩
  unfold xU;exact yS
 clear H;intro cd a w hI H;have hcd:=hI;dsimp only [lca,bM] at H;refine kP H (SQ fun _ K7=>SB (SR fun _ K8=>?_));clear H;intro a H;refine EI (ι:=Bool) (Tc:=[(1,_),(3,_),(4,_),(5,_),(7,_)]) 8 (fun (q0:Bool)=>[(78,.bool q0)]) (fun (q0:Bool)=>q0=(!decide (1<=x.kind∧x.kind<=8) || !codeOk x)) (by exact H.sub ⟨M,M,M,M,M,aC⟩) ?_ ?_
 ·intro ahg;refine kH H (bC kF aF 0 M M ?_);clear H;intro a H;refine s_call za H wn M (zy _ _ H.ro x.kind 1 8) M ?_;clear H;rintro v73 _ a w ⟨rfl,rfl⟩ - H;refine kH H (Rn M (Rm M (Sp 75 M ?_ ?_))) <;> clear H
  ·intro Ag a H
   try have p75:=dT Ag
   refine kH H (aU Ag M (Pt Ag M ?_));clear H;intro a H;refine ahg (_) _ _ ?_ (by exact H.sub ⟨M,M,M,M,M,M,aC⟩);rw [<- hck];exact HV
  intro Ag a H
  try have p75:=dF Ag
  refine kH H (YM Ag M (YN Ag M (Pf Ag M ?_)));clear H;intro a H;refine ahg (_) _ _ ?_ (by exact H.sub ⟨M,M,M,M,M,M,aC⟩);rw [<- hck];exact HZ
 clear H;intro q0 a w hI H;dsimp only [lca,bM] at H;simp only [xQ,uX];have hq0:=hI;refine kH H (aj K8 M (Cd M ?_ ?_)) <;> clear H K8
 ·intro Cy a H
  refine bL (fun _ K9=>?_)
  have e:kZ x=3:=by unfold kZ;rw [ay (by rw [<- hq0];exact Cy)]
  exact kP H (SC (bF K9 M (LR results196 M fun H=>H.rt ⟨by rw [e],M⟩)))
 intro Cy a H
 try have p70:=dF Cy
 have f0:¬ (!decide (1<=x.kind∧x.kind<=8) || !codeOk x)=true:=by rw [<- hq0,Cy];decide
 refine cZ (fun _ aT=>?_);refine EI (ι:=Bool) (Tc:=[(1,_),(3,_),(4,_),(5,_)]) 7 (fun (q1:Bool)=>[(86,.bool q1)]) (fun (q1:Bool)=>q1=(!xU x && decide (x.code≠0))) (by exact H.sub ⟨M,M,M,M,aC⟩) ?_ ?_
 ·intro ahh;refine kH H (Rm M (Rn M (Rm M (Sp 82 M ?_ ?_)))) <;> clear H
  ·intro xY a H
   try have p82:=dT xY
   refine kH H (YF KL xY M (YO aF 0 xY M (YC xY M (Pt xY M ?_))));clear H;intro a H;refine ahh (_) _ _ ?_ (by exact H.sub ⟨M,M,M,M,M,aC⟩);rw [<- hcd];exact HV
  intro xY a H
  try have p82:=dF xY
  refine kH H (bH xY M (Pf xY M ?_));clear H;intro a H;refine ahh (_) _ _ ?_ (by exact H.sub ⟨M,M,M,M,M,aC⟩);rw [<- hcd];exact HZ
 clear H;intro q1 a w hI H;dsimp only [lca,bM] at H;simp only [xQ,uX];have hq1:=hI;refine EI (ι:=Bool) (Tc:=[(1,_),(3,_),(4,_)]) 9 (fun (q2:Bool)=>[(95,.bool q2)]) (fun (q2:Bool)=>q2=(q1 || !yC x && decide (x.id≠0))) (by exact H.sub ⟨M,M,M,aC⟩) ?_ ?_
 ·intro ahl;refine kH H (Rm M (Sp 87 M ?_ ?_)) <;> clear H
  ·intro h87 a H
   try have Z4:=dT h87
   refine kH H (bH h87 M (Ku M (Ku M (Ku M (Ks h87 M (Pt h87 M ?_))))));exact adx
  intro h87 a H
  try have Z4:=dF h87
  refine kH H (YM h87 M (YN h87 M (YM h87 M (Sp 90 M ?_ ?_)))) <;> clear H
  ·intro D8 a H
   try have p90:=dT D8
   refine kH H (YF KM D8 M (YO aF 0 D8 M (YC D8 M (PT h87 D8 M (Pf h87 M ?_)))));exact adx
  intro D8 a H
  try have p90:=dF D8
  refine kH H (bH D8 M (PF h87 D8 M (Pf h87 M ?_)));clear H;intro a H;refine ahl (_) _ _ ?_ (by exact H.sub ⟨M,M,M,M,aC⟩);rw [<- hnm];exact HZ
 clear H;intro q2 a w hI H;dsimp only [lca,bM] at H;simp only [xQ,uX];have hq2:=hI;refine EI (ι:=Bool) (Tc:=[(1,_),(3,_)]) 9 (fun (q3:Bool)=>[(104,.bool q3)]) (fun (q3:Bool)=>q3=(q2 || !Aw x && !vk x.text)) (by exact H.sub ⟨M,M,aC⟩) ?_ ?_
 ·intro ahi;refine kH H (Rm M (Sp 96 M ?_ ?_)) <;> clear H
  ·intro vw a H
   try have OU:=dT vw
   refine kH H (bH vw M (Ku M (Ku M (Ku M (Ks vw M (Pt vw M ?_))))));exact adn
  intro vw a H
  try have OU:=dF vw
  refine kH H (YM vw M (YN vw M (YM vw M (Sp 99 M ?_ ?_)))) <;> clear H
  ·intro D9 a H
   try have p99:=dT D9
   refine kH H (YF wh D9 M (YO jf 0 D9 M ?_));clear H;intro a H;refine akV H (wg H M M D9) M M M ?_;clear H;intro a H;refine kH H (PT vw D9 M (Pf vw M ?_));exact adn
  intro D9 a H
  try have p99:=dF D9
  refine kH H (bH D9 M (PF vw D9 M (Pf vw M ?_)));clear H;intro a H;refine ahi (_) _ _ ?_ (by exact H.sub ⟨M,M,M,aC⟩);rw [<- hwd];exact acU
 clear H;intro q3 a w hI H;dsimp only [lca,bM] at H;simp only [xQ,uX];have hq3:=hI;refine EI (ι:=Bool) (Tc:=[(1,_),(3,_)]) 11 (fun (q4:Bool)=>[(115,.bool q4)]) (fun (q4:Bool)=>q4=(q3 || decide (x.kind≠6) && decide (0 < (x.flow.length:Int)))) (by exact H.sub ⟨M,M,aC⟩) ?_ ?_
 ·intro ahj;refine kH H (Rm M (Sp 105 M ?_ ?_)) <;> clear H
  ·intro oW a H
   try have Jq:=dT oW
   refine kH H (aU oW M (aU oW M (Ku M (Ku M (Ku M (Ku M (Ks oW M (Pt oW M ?_))))))));exact ady
  intro oW a H
  try have Jq:=dF oW
  refine kH H (YF kF oW M (YO aF 0 oW M (YC oW M (YM oW M (Sp 109 M ?_ ?_))))) <;> clear H
  ·intro uy a H
   try have akc:=dT uy
   refine kH H (YF Af uy M (YO jy 0 uy M (YL iB uy M (YC uy M (PT oW uy M (Pf oW M ?_))))));exact ady
  intro uy a H
  try have akc:=dF uy
  refine kH H (aU uy M (aU uy M (PF oW uy M (Pf oW M ?_))));clear H;intro a H;refine ahj (_) _ _ ?_ (by exact H.sub ⟨M,M,M,aC⟩);exact HZ
 clear H;intro q4 a w hI H;dsimp only [lca,bM] at H;simp only [xQ,uX];have hq4:=hI;refine EI (ι:=Bool) (Tc:=[(1,_),(3,_)]) 11 (fun (q5:Bool)=>[(126,.bool q5)]) (fun (q5:Bool)=>q5=wW x) (by exact H.sub ⟨M,M,aC⟩) ?_ ?_
 ·intro ahk;refine kH H (Rm M (Sp 116 M ?_ ?_)) <;> clear H
  ·intro h116 a H
   try have aAl:=dT h116
   refine kH H (aU h116 M (aU h116 M (Ku M (Ku M (Ku M (Ku M (Ks h116 M (Pt h116 M ?_))))))));exact adv
  intro h116 a H
  try have aAl:=dF h116
  refine kH H (YF kF h116 M (YO aF 0 h116 M (YC h116 M (YM h116 M (Sp 120 M ?_ ?_))))) <;> clear H
  ·intro Bj a H
   try have aAm:=dT Bj
   refine kH H (YF qd Bj M (YO qw 0 Bj M (YL mR Bj M (YC Bj M (PT h116 Bj M (Pf h116 M ?_))))));exact adv
  intro Bj a H
  try have aAm:=dF Bj
  refine kH H (aU Bj M (aU Bj M (PF h116 Bj M (Pf h116 M ?_))));clear H;intro a H;refine ahk (_) _ _ ?_ (by exact H.sub ⟨M,M,M,aC⟩);rw [show wW x=(q4 || decide (x.kind≠7) && decide (0 < (x.rows.length:Int))) by rw [hq4,hq3,hq2,hq1];rfl];clear hq4;exact HZ
 clear H;intro q5 a w hI H;dsimp only [lca,bM] at H;simp only [xQ,uX];have LK:=hI;refine kH H (aj aT M (Cd M ?_ ?_)) <;> clear H aT
 ·intro Fy a H
  refine bL (fun _ bR=>?_)
  have e:kZ x=15:=by unfold kZ;rw [au f0,ay (by rw [<- LK];exact Fy)]
  exact kP H (SC (bF bR M (LR results196 M fun H=>H.rt ⟨by rw [e],M⟩)))
 intro Fy a H
 try have ZY:=dF Fy
 have f1:¬ wW x=true:=by rw [<- LK,Fy];decide
 refine kP H (SR fun _ cu=>bC wh jf 0 M M ?_);clear H;intro a H;refine s_call Nz H wn M (Pw _ _ H.ro x.text hs) M ?_;clear H;rintro v130 _ a w ⟨rfl,rfl⟩ - H;refine kH H (Rn M (aj cu M (Cd M ?_ ?_))) <;> clear H cu
 ·intro h127 a H
  refine bL (fun _ dw=>?_)
  have e:kZ x=12:=by unfold kZ;rw [au f0,au f1,ay (by simpa using h127)]
  exact kP H (SC (bF dw M (LR results196 M fun H=>H.rt ⟨by rw [e],M⟩)))
 intro h127 a H
 try have aFE:=dF h127
 have f2:¬ lX x.text=false:=by simpa using h127
 refine cZ (fun _ dB=>?_);refine EI (ι:=Bool) (Tc:=[(1,_),(3,_)]) 13 (fun (q6:Bool)=>[(145,.bool q6)]) (fun (q6:Bool)=>q6=(decide (x.kind=1∨x.kind=5) && vk x.text)) (by exact H.sub ⟨M,M,aC⟩) ?_ ?_
 ·intro ahm;refine kH H (bC kF aF 0 M M (Rc M (Rm M (Sp 136 M ?_ ?_)))) <;> clear H
  ·intro DY a H
   try have aAq:=dT DY
   refine kH H (bH DY M (Pt DY M (Rm M ?_)));clear H;intro a H;refine Ms wh H (wg H M M M) M M ?_;clear H;intro a H;refine sF jf H (wg H M M M) M (H.hp.uN 0 M M) M ?_;clear H;intro a H;refine Gp H (wg H M M M) M M M ?_;clear H;intro a H;refine kH H (Pt M M ?_);exact adp
  intro DY a H
  try have aAq:=dF DY
  refine kH H (YF kF DY M (YO aF 0 DY M (YC DY M (Pf DY M (Rm M (Sp 141 M ?_ ?_)))))) <;> clear H
  ·intro DZ a H
   try have aAs:=dT DZ
   refine kH H (YF wh DZ M (YO jf 0 DZ M ?_));clear H;intro a H;refine Gp H (wg H M M DZ) M M M ?_;clear H;intro a H;refine kH H (Pt DZ M ?_);exact adp
  intro DZ a H
  try have aAs:=dF DZ
  refine kH H (bH DZ M (Pf DZ M ?_));clear H;intro a H;refine ahm (_) _ _ ?_ (by exact H.sub ⟨M,M,M,aC⟩);exact acU
 clear H;intro q6 a w hI H;dsimp only [lca,bM] at H;simp only [xQ,uX];have LM:=hI;refine kH H (aj dB M (Cd M ?_ ?_)) <;> clear H dB
 ·intro Fv a H
  refine bL (fun _ dX=>?_)
  have e:kZ x=11:=by unfold kZ;rw [au f0,au f1,au f2,ay (by rw [<- LM];exact Fv)]
  exact kP H (SC (bF dX M (LR results196 M fun H=>H.rt ⟨by rw [e],M⟩)))
 intro Fv a H
 try have akd:=dF Fv
 have f3:¬ (decide (x.kind=1∨x.kind=5) && vk x.text)=true:=by rw [<- LM,Fv];decide
 refine cZ (fun _ eu=>?_);refine EI (ι:=Bool) (Tc:=[(1,_),(3,_)]) 9 (fun (q7:Bool)=>[(155,.bool q7)]) (fun (q7:Bool)=>q7=(decide (x.kind=5) && decide (1024 < (x.text.size:Int)))) (by exact H.sub ⟨M,M,aC⟩) ?_ ?_
 ·intro ahn;refine kH H (bC kF aF 0 M M (Rc M (Rm M (Sp 150 M ?_ ?_)))) <;> clear H
  ·intro Bl a H
   try have aAt:=dT Bl
   refine kH H (YF wh Bl M (YO jf 0 Bl M ?_));clear H;intro a H;refine Gq iW H (wg H M M Bl) M M ?_;clear H;intro a H;refine kH H (YC Bl M (Pt Bl M ?_));clear H;intro a H;refine ahn (_) _ _ ?_ (by exact H.sub ⟨M,M,M,aC⟩);exact HV
  intro Bl a H
  try have aAt:=dF Bl
  refine kH H (aU Bl M (aU Bl M (Pf Bl M ?_)));clear H;intro a H;refine ahn (_) _ _ ?_ (by exact H.sub ⟨M,M,M,aC⟩);exact HZ
 clear H;intro q7 a w hI H;dsimp only [lca,bM] at H;simp only [xQ,uX];have LP:=hI;refine kH H (aj eu M (Cd M ?_ ?_)) <;> clear H eu
 ·intro RD a H
  refine bL (fun _ dN=>?_)
  have e:kZ x=10:=by unfold kZ;rw [au f0,au f1,au f2,au f3,ay (by rw [<- LP];exact RD)]
  exact kP H (SC (bF dN M (LR results196 M fun H=>H.rt ⟨by rw [e],M⟩)))
 intro RD a H
 try have aFH:=dF RD
 have f4:¬ (decide (x.kind=5) && decide (1024 < (x.text.size:Int)))=true:=by rw [<- LP,RD];decide
 refine cZ (fun _ eO=>?_);refine EI (ι:=Bool) (Tc:=[]) 7 (fun (q8:Bool)=>[(163,.bool q8)]) (fun (q8:Bool)=>q8=(Ap x && !xV x.text)) (by exact H.sub trivial) ?_ ?_
 ·intro aho;refine kH H (Rm M (Rm M (Sp 158 M ?_ ?_))) <;> clear H
  ·intro Bn a H
   try have aAu:=dT Bn
   refine kH H (YF wh Bn M (YO jf 0 Bn M ?_));clear H;intro a H;refine s_call afF H (wg H M M Bn) M (aeW _ _ H.ro x.text hs) M ?_;clear H;rintro aFV _ a w ⟨rfl,rfl⟩ - H;refine kH H (YN Bn M (Pt Bn M ?_));clear H;intro a H;refine aho (_) _ _ ?_ (by exact H.sub ⟨M,aC⟩);rw [<- hst];exact HV
  intro Bn a H
  try have aAu:=dF Bn
  refine kH H (aU Bn M (aU Bn M (Pf Bn M ?_)));clear H;intro a H;refine aho (_) _ _ ?_ (by exact H.sub ⟨M,aC⟩);rw [<- hst];exact HZ
 clear H;intro q8 a w hI H;dsimp only [lca,bM] at H;simp only [xQ,uX];have hq8:=hI;refine kH H (aj eO M (Cd M ?_ ?_)) <;> clear H eO
 ·intro XI a H
  refine bL (fun _ gD=>?_)
  have e:kZ x=13:=by unfold kZ;rw [au f0,au f1,au f2,au f3,au f4,ay (by rw [<- hq8];exact XI)]
  exact kP H (SC (bF gD M (LR results196 M fun H=>H.rt ⟨by rw [e],M⟩)))
 intro XI a H
 refine iD ?_;refine K7 _ _ ?_;clear K7;refine bL (fun _ fF=>?_)
 have e:kZ x=0:=by unfold kZ;rw [au f0,au f1,au f2,au f3,au f4,au (by rw [<- hq8,XI];decide)]
 exact kP H (SC (bF fF M (LR results196 M fun H=>H.rt ⟨by rw [e],M⟩)))
structure CS where
 n:Int
 bO:List Int
abbrev CR:=Int × CS
def iZ (r:CR) (f:CS->CR):CR:=if r.1≠0 then r else f r.2
theorem J7 {r:CR} {f:CS->CR} (h:r.1=0):iZ r f=f r.2:=by rw [iZ,au (fun h'=>h' h)]
theorem Qf {r:CR} {f:CS->CR} (h:r.1≠0):iZ r f=r:=by rw [iZ,ay h]
def pq (C:aV) (s:CS) (x:Int):CR:=(sj C.us s.bO x,⟨s.n,oq C.us s.bO x⟩)
def tq (C:aV) (body note:Bool) (t k i:Int) (s:CS):CR :=
 if k=3 then (dH (!body) 19,s) else if k=6 then iZ (dH note 19,s) fun s=>pq C s i else if k=7 then iZ (dH (decide (4<=t)) 17,s) fun s=>pq C s i else if k=8 then (dH (!decide (1<=i∧i<=1073741824)) 18,s) else (0,s)
def Ez (C:aV) (h:dD) (n:Nat):Int:=eG [iU C 9 h,dH (decide ((n:Int)=0)) 11,dH (decide (32 < (n:Int))) 9]
def nQ (n:Nat) (f:CS->CR) (s:CS):CR:=if n=0 then (11,s) else if 256 < n then (9,s) else f s
mutual
def fO (C:aV) (body note:Bool) (t:Int):ak->CS->CR
 | .mk k c i tx h f r,s =>
  iZ (kZ (.mk k c i tx h f r),s) fun s=>iZ (tq C body note t k i ⟨s.n+(if k=1 then oU tx else 1:Nat),s.bO⟩) fun s=>iZ (iU C k h,s) fun s =>
   if k=6 then kr C false true t f s else if k=7 then nQ r.length (fun s=>jm C note (t+1) r s) s else (0,s)
def Al (C:aV) (note:Bool) (t:Int):aO->CS->CR
 | .mk h cs,s=>iZ (Ez C h cs.length,s) fun s=>rV C note t cs s
def cellC (C:aV) (note:Bool) (t:Int):aQ->CS->CR
 | .mk i h f,s=>iZ (pq C s i) fun s=>iZ (iU C 10 h,s) fun s=>kr C false note t f s
def kr (C:aV) (body note:Bool) (t:Int):List ak->CS->CR
 | [],s=>(0,s)
 | x :: r,s=>iZ (fO C body note t x s) fun s=>kr C body note t r s
def jm (C:aV) (note:Bool) (t:Int):List aO->CS->CR
 | [],s=>(0,s)
 | x :: r,s=>iZ (Al C note t x s) fun s=>jm C note t r s
def rV (C:aV) (note:Bool) (t:Int):List aQ->CS->CR
 | [],s=>(0,s)
 | x :: r,s=>iZ (cellC C note t x s) fun s=>rV C note t r s
end
theorem aiV (C:aV) (body note:Bool) (t:Int) (x:ak) (s:CS):fO C body note t x s=iZ (kZ x,s) fun s=>iZ (tq C body note t x.kind x.id ⟨s.n+(jo x:Nat),s.bO⟩) fun s=>iZ (iU C x.kind x.head,s) fun s =>
  if x.kind=6 then kr C false true t x.flow s else if x.kind=7 then nQ x.rows.length (fun s=>jm C note (t+1) x.rows s) s else (0,s):=by cases x;rw [fO];rfl
theorem Tx (C:aV) (note:Bool) (t:Int) (x:aO) (s:CS):Al C note t x s=iZ (Ez C x.head x.cells.length,s) fun s=>rV C note t x.cells s:=by cases x;rw [Al];rfl
theorem QF (C:aV) (note:Bool) (t:Int) (x:aQ) (s:CS):cellC C note t x s=iZ (pq C s x.id) fun s=>iZ (iU C 10 x.head,s) fun s=>kr C false note t x.flow s:=by cases x;rw [cellC];rfl
def Up (s:CS) (z:Nat) (r:CR):Prop:=s.n<=r.2.n∧r.2.n<=s.n+z
theorem Up.and {s:CS} {z y q:Nat} {r:CR} {f:CS->CR} (h:Up s z r) (hq:z+y<=q) (hf:∀ s,Up s y (f s)):Up s q (iZ r f):=by
 obtain ⟨h1,h2⟩:=h
 unfold iZ
 split
 ·exact ⟨h1,O⟩
 obtain ⟨h3,h4⟩:=hf r.2;exact ⟨O,O⟩
theorem Up.zero (s:CS) (e:Int) (q:Nat):Up s q (e,s):=⟨Int.le_refl _,by dsimp only;omega⟩
theorem Up.le {s:CS} {z y:Nat} {r:CR} (h:Up s z r) (hq:z<=y):Up s y r:=⟨h.1,by have:=h.2;omega⟩
theorem alW (C:aV) (s:CS) (x:Int) (q:Nat):Up s q (pq C s x):=⟨Int.le_refl _,by dsimp only [pq];omega⟩
theorem aDz (C:aV) (body note:Bool) (t k i:Int) (s:CS) (q:Nat):Up s q (tq C body note t k i s):=by
 unfold tq
 (repeat' split) <;> first|exact Up.zero _ _ _|exact (Up.zero _ _ 0).and (y:=0) O fun s=>alW _ _ _ _
mutual
theorem alX (C:aV) (body note:Bool) (t:Int):∀ (x:ak) (s:CS),Up s (bX x.dat) (fO C body note t x s)
 | .mk k c i tx h f r,s=>by
  have hz:=uP (.mk k c i tx h f r);have hf:=Ub C false true t f;have hr:=alY C note (t+1) r;rw [fO];obtain ⟨u,hu'⟩:∃ u,u=(if k=1 then oU tx else 1:Nat):=⟨_,M⟩
  have hu:u<=tx.size+1:=by
   have:=QL tx
   rw [hu'];split <;> omega
  rw [<- hu'];dsimp only [ak.text,ak.flow,ak.rows,ak.head] at hz;refine (Up.zero s _ 0).and (Nat.le_of_eq (gZ _)) fun s=>?_
  have h2:Up s (u) (tq C body note t k i ⟨s.n+(u:Nat),s.bO⟩):=by
   obtain ⟨h3,h4⟩:=aDz C body note t k i ⟨s.n+(u:Nat),s.bO⟩ 0;dsimp only at h3 h4;exact ⟨O,O⟩
  refine h2.and (y:=bq f+fQ r) O fun s=>(Up.zero s _ 0).and (Nat.le_of_eq (gZ _)) fun s=>?_
  by_cases h6:k=6
  ·rw [ay h6];exact (hf s).le O
  rw [au h6]
  by_cases h7:k=7
  ·rw [ay h7]
   unfold nQ
   by_cases c1:r.length=0
   ·rw [ay c1];exact Up.zero _ _ _
   rw [au c1]
   by_cases c2:256 < r.length
   ·rw [ay c2];exact Up.zero _ _ _
   rw [au c2];exact (hr s).le O
  rw [au h7];exact Up.zero _ _ _
theorem aDA (C:aV) (note:Bool) (t:Int):∀ (x:aO) (s:CS),Up s (bX x.dat) (Al C note t x s)
 | .mk h cs,s=>by
  have hz:=zP (.mk h cs);have hc:=alV C note t cs;rw [Tx];dsimp only [aO.cells,aO.head] at hz |-;exact (Up.zero s _ 0).and (y:=gH cs) O fun s=>hc s
theorem aDy (C:aV) (note:Bool) (t:Int):∀ (x:aQ) (s:CS),Up s (bX x.dat) (cellC C note t x s)
 | .mk i h f,s=>by
  have hz:=zO (.mk i h f);have hf:=Ub C false note t f;rw [QF];dsimp only [aQ.flow,aQ.head,aQ.id] at hz |-;exact (alW C s _ 0).and (y:=bq f) O fun s=>(Up.zero s _ 0).and (Nat.le_of_eq (gZ _)) fun s=>hf s
theorem Ub (C:aV) (body note:Bool) (t:Int):∀ (l:List ak) (s:CS),Up s (bq l) (kr C body note t l s)
 | [],s=>by rw [kr];exact Up.zero _ _ _
 | x :: r,s=>by
  rw [kr];exact (alX C body note t x s).and (y:=bq r) (by simp only [bq,dO,dM];omega) fun s=>Ub C body note t r s
theorem alY (C:aV) (note:Bool) (t:Int):∀ (l:List aO) (s:CS),Up s (fQ l) (jm C note t l s)
 | [],s=>by rw [jm];exact Up.zero _ _ _
 | x :: r,s=>by
  rw [jm];exact (aDA C note t x s).and (y:=fQ r) (by simp only [fQ,dO,dM];omega) fun s=>alY C note t r s
theorem alV (C:aV) (note:Bool) (t:Int):∀ (l:List aQ) (s:CS),Up s (gH l) (rV C note t l s)
 | [],s=>by rw [rV];exact Up.zero _ _ _
 | x :: r,s=>by
  rw [rV];exact (aDy C note t x s).and (y:=gH r) (by simp only [gH,dO,dM];omega) fun s=>alV C note t r s
end
def tu {α:Type} (f:α->CS->CR) (l:List α) (s:CS):Nat->CS
 | 0=>s
 | i+1=>match l[i]? with|some x=>(f x (tu f l s i)).2|none=>tu f l s i
def DR {α:Type} (f:α->CS->CR) (l:List α) (s:CS) (i:Nat):Int:=match l[i]? with|some x=>(f x (tu f l s i)).1|none=>0
theorem aaC {α:Type} (f:α->CS->CR) (x:α) (l:List α) (s:CS):∀ i,tu f (x :: l) s (i+1)=tu f l (f x s).2 i
 | 0=>rfl
 | i+1=>by
  have ih:=aaC f x l s i
  simp only [tu,List.getElem?_cons_succ] at ih |-
  rw [ih]
theorem atj {α:Type} (f:α->CS->CR) (x:α) (l:List α) (s:CS) (i:Nat):DR f (x :: l) s (i+1)=DR f l (f x s).2 i:=by
 unfold DR
 simp only [List.getElem?_cons_succ,aaC]
theorem anq (E:Nat->Int) (n:Nat):lF E (n+1)=if E 0≠0 then E 0 else lF (fun i=>E (i+1)) n:=by
 unfold lF
 rw [List.range_succ_eq_map,dO,eG,List.map_map]
 rfl
theorem aiW (C:aV) (body note:Bool) (t:Int):∀ (l:List ak) (s:CS),(kr C body note t l s).1=lF (DR (fO C body note t) l s) l.length∧((kr C body note t l s).1=0->(kr C body note t l s).2=tu (fO C body note t) l s l.length)
 | [],s=>by rw [kr];exact ⟨M,fun _=>rfl⟩
 | x :: r,s=>by
  obtain ⟨h1,h2⟩:=aiW C body note t r (fO C body note t x s).2;have e0:DR (fO C body note t) (x :: r) s 0=(fO C body note t x s).1:=rfl;rw [kr,kR,anq,e0,aaC]
  simp only [atj]
  unfold iZ
  split
  ·next h=>exact ⟨M,fun h0=>absurd h0 h⟩
  exact ⟨h1,h2⟩
theorem alZ (C:aV) (body note:Bool) (t:Int) (l:List ak) (s:CS):∀ i,i<=l.length->s.n<=(tu (fO C body note t) l s i).n∧(tu (fO C body note t) l s i).n+(bq (l.drop i):Nat)<=s.n+(bq l:Nat)
 | 0,_=>⟨Int.le_refl _,Int.le_refl _⟩
 | i+1,hi=>by
  have hi':i < l.length:=hi;obtain ⟨h1,h2⟩:=alZ C body note t l s i O
  have hs:tu (fO C body note t) l s (i+1)=(fO C body note t l[i] (tu (fO C body note t) l s i)).2:=by rw [tu,eB hi']
  have hd:bq (l.drop i)=1+bX l[i].dat+bq (l.drop (i+1)):=by
   simp only [bq];rw [nK hi',dO,dM]
  obtain ⟨h3,h4⟩:=alX C body note t l[i] (tu (fO C body note t) l s i);rw [hs];exact ⟨O,O⟩
mutual
/-- The ids in items, in document order. -/
def rZ:ak->List Int
 | .mk k _ i _ _ f r=>(if k=6∨k=7 then [i] else [])++((if k=6 then jI f else [])++(if k=7 then om r else []))
def jI:List ak->List Int
 | []=>[]
 | x :: r=>rZ x++jI r
def wE:aO->List Int
 | .mk _ c=>oZ c
def om:List aO->List Int
 | []=>[]
 | x :: r=>wE x++om r
def xw:aQ->List Int
 | .mk i _ f=>i :: jI f
def oZ:List aQ->List Int
 | []=>[]
 | x :: r=>xw x++oZ r
end
theorem og {r:CR} {f:CS->CR} {s':CS} (h:iZ r f=(0,s')):r.1=0∧f r.2=(0,s'):=by
 unfold iZ at h
 split at h
 ·rename_i h1;rw [h] at h1;exact absurd M h1
 rename_i h1;exact ⟨oD.1 h1,h⟩
theorem QM {r:CR} (h:r.1=0):r=(0,r.2):=Prod.ext h M
structure nW (a b c:List Int):Prop where
 eq:c=a++b
 nd:a.Nodup->c.Nodup
 pos:∀ i∈b,1<=i∧i<=1073741824
theorem nW.nil (a:List Int):nW a [] a:=⟨by simp,fun h=>h,fun i h=>by cases h⟩
theorem nW.trans {a b c d e:List Int} (h:nW a b c) (g:nW c d e):nW a (b++d) e:=⟨by rw [g.eq,h.eq,iL],fun h1=>g.nd (h.nd h1),fun i hi=>(kC.1 hi).elim (h.pos i) (g.pos i)⟩
theorem nW.id {us a:List Int} {x:Int} (h:sj us a x=0):nW a [x] (oq us a x):=by
 unfold oq
 rw [ay h]
 unfold sj at h
 by_cases h0:¬ (1<=x∧x<=1073741824)∨x∈us
 ·rw [ay h0] at h;cases h
 rw [au h0] at h;have h1:1<=x∧x<=1073741824:=oD.1 fun h'=>h0 (.inl h')
 by_cases h2:x∈a
 ·rw [ay h2] at h;cases h
 exact ⟨M,fun h3=>List.nodup_append.2 ⟨h3,by simp,fun u hu v hv=>by rw [qY.1 hv];exact fun e=>h2 (e ▸ hu)⟩,fun i hi=>by rw [qY.1 hi];exact h1⟩
theorem nW.pq {C:aV} {s s':CS} {x:Int} (h:pq C s x=(0,s')):nW s.bO [x] s'.bO:=by
 unfold Go.Proofs.YtdiflmikikiedaaGreat.pq at h
 injection h with h1 h2
 rw [<- h2];exact nW.id h1
theorem aAz {C:aV} {body note:Bool} {t k i:Int} {s s':CS} (h:tq C body note t k i s=(0,s')):nW s.bO (if k=6∨k=7 then [i] else []) s'.bO:=by
 unfold tq at h
 by_cases h3:k=3
 ·rw [ay h3] at h;injection h with _ h2;rw [bU,<- h2];exact nW.nil _
 rw [au h3] at h
 by_cases h6:k=6
 ·rw [ay h6] at h;rw [ay (.inl h6)];exact nW.pq (og h).2
 rw [au h6] at h
 by_cases h7:k=7
 ·rw [ay h7] at h;rw [ay (.inr h7)];exact nW.pq (og h).2
 rw [au h7] at h;rw [bU]
 by_cases h8:k=8
 ·rw [ay h8] at h;injection h with _ h2;rw [<- h2];exact nW.nil _
 rw [au h8] at h;injection h with _ h2;rw [<- h2];exact nW.nil _
theorem aac {n:Nat} {f:CS->CR} {s s':CS} (h:nQ n f s=(0,s')):n≠0∧f s=(0,s'):=by
 unfold nQ at h
 split at h
 ·cases h
 rename_i h1
 split at h
 ·cases h
 exact ⟨h1,h⟩
theorem acV {p:Prop} (h:p:=by
 rw [ay h6] at e |-;rw [au (show ¬ k=7 by omega),fG];exact hf _ _ e):p:=h
mutual
theorem ato (C:aV) (body note:Bool) (t:Int):∀ (x:ak) (s s':CS),fO C body note t x s=(0,s')->nW s.bO (rZ x) s'.bO
 | .mk k c i tx h f r,s,s',e=>by
  have hf:=Q7 C false true t f;have hr:=agj C note (t+1) r;rw [fO] at e;obtain ⟨-,e⟩:=og e;obtain ⟨e1,e⟩:=og e;obtain ⟨-,e⟩:=og e;have h1:=aAz (QM e1);rw [rZ];refine h1.trans ?_
  by_cases h6:k=6
  ·exact acV
  rw [au h6] at e |-;rw [jA]
  by_cases h7:k=7
  ·rw [ay h7] at e |-;exact hr _ _ (aac e).2
  rw [au h7] at e |-
  injection e with _ e
  rw [<- e];exact nW.nil _
theorem atp (C:aV) (note:Bool) (t:Int):∀ (x:aO) (s s':CS),Al C note t x s=(0,s')->nW s.bO (wE x) s'.bO
 | .mk h cs,s,s',e=>by
  have hc:=agi C note t cs;rw [Tx] at e;rw [wE];exact hc _ _ (og e).2
theorem atn (C:aV) (note:Bool) (t:Int):∀ (x:aQ) (s s':CS),cellC C note t x s=(0,s')->nW s.bO (xw x) s'.bO
 | .mk i h f,s,s',e=>by
  have hf:=Q7 C false note t f;rw [QF] at e;dsimp only [aQ.id,aQ.head,aQ.flow] at e;obtain ⟨e1,e⟩:=og e;have h1:=nW.pq (s':=(pq C s i).2) (Prod.ext e1 M);rw [xw];exact h1.trans (hf _ _ (og e).2)
theorem Q7 (C:aV) (body note:Bool) (t:Int):∀ (l:List ak) (s s':CS),kr C body note t l s=(0,s')->nW s.bO (jI l) s'.bO
 | [],s,s',e=>by rw [kr] at e;injection e with _ e;rw [<- e];exact nW.nil _
 | x :: r,s,s',e=>by
  rw [kr] at e;obtain ⟨e1,e⟩:=og e;rw [jI];exact (ato C body note t x s _ (Prod.ext e1 M)).trans (Q7 C body note t r _ _ e)
theorem agj (C:aV) (note:Bool) (t:Int):∀ (l:List aO) (s s':CS),jm C note t l s=(0,s')->nW s.bO (om l) s'.bO
 | [],s,s',e=>by rw [jm] at e;injection e with _ e;rw [<- e];exact nW.nil _
 | x :: r,s,s',e=>by
  rw [jm] at e;obtain ⟨e1,e⟩:=og e;rw [om];exact (atp C note t x s _ (Prod.ext e1 M)).trans (agj C note t r _ _ e)
theorem agi (C:aV) (note:Bool) (t:Int):∀ (l:List aQ) (s s':CS),rV C note t l s=(0,s')->nW s.bO (oZ l) s'.bO
 | [],s,s',e=>by rw [rV] at e;injection e with _ e;rw [<- e];exact nW.nil _
 | x :: r,s,s',e=>by
  rw [rV] at e;obtain ⟨e1,e⟩:=og e;rw [oZ];exact (atn C note t x s _ (Prod.ext e1 M)).trans (agi C note t r _ _ e)
end
def tH (l:List ak):Prop:=∃ (C:aV) (body note:Bool) (t:Int) (s s':CS),kr C body note t l s=(0,s')
structure JX (x:ak):Prop where
 txt:lX x.text=true
 kd:1<=x.kind∧x.kind<=8
 rw0:x.kind≠7->x.rows=[]
 fl0:x.kind≠6->x.flow=[]
 fl:tH x.flow
 rw:∀ r∈x.rows,∀ c∈r.cells,tH c.flow
theorem azZ:tH []:=⟨⟨[],[],[],[]⟩,false,false,0,⟨0,[]⟩,⟨0,[]⟩,by rw [kr]⟩
theorem DW {x:ak} (h:kZ x=0):lX x.text=true∧(1<=x.kind∧x.kind<=8)∧(x.kind≠7->x.rows=[])∧(x.kind≠6->x.flow=[]):=by
 unfold kZ at h
 split at h
 ·cases h
 rename_i h1
 split at h
 ·cases h
 rename_i h2
 split at h
 ·cases h
 rename_i h3
 have hk:decide (1<=x.kind∧x.kind<=8)=true:=by
  cases hd:decide (1<=x.kind∧x.kind<=8)
  ·rw [hd] at h1;exact absurd M h1
  rfl
 refine ⟨by simpa using h3,rT hk,fun h7=>?_,fun h6=>?_⟩
 ·rw [Bool.not_eq_true] at h2
  unfold wW at h2
  simp only [Bool.or_eq_false_iff] at h2
  have h4:=h2.2;rw [mY h7,E9,uW] at h4;exact List.length_eq_zero_iff.1 O
 rw [Bool.not_eq_true] at h2
 unfold wW at h2
 simp only [Bool.or_eq_false_iff] at h2
 have h4:=h2.1.2;rw [mY h6,E9,uW] at h4;exact List.length_eq_zero_iff.1 O
theorem cells_ok {C:aV} {note:Bool} {t:Int}:∀ {l:List aQ} {s s':CS},rV C note t l s=(0,s')->∀ c∈l,tH c.flow
 | [],_,_,_,_,h=>by cases h
 | x :: r,s,s',e,c,h=>by
  rw [rV] at e;obtain ⟨e1,e⟩:=og e
  rcases gu.1 h with rfl|h
  ·have e2:cellC C note t c s=(0,(cellC C note t c s).2):=Prod.ext e1 M
   generalize (cellC C note t c s).2=s2 at e2
   rw [QF] at e2;exact ⟨C,false,note,t,_,_,(og (og e2).2).2⟩
  exact cells_ok e c h
theorem aky {C:aV} {note:Bool} {t:Int}:∀ {l:List aO} {s s':CS},jm C note t l s=(0,s')->∀ r∈l,∀ c∈r.cells,tH c.flow
 | [],_,_,_,_,h=>by cases h
 | x :: r,s,s',e,q,h=>by
  rw [jm] at e;obtain ⟨e1,e⟩:=og e
  rcases gu.1 h with rfl|h
  ·have e2:Al C note t q s=(0,(Al C note t q s).2):=Prod.ext e1 M
   generalize (Al C note t q s).2=s2 at e2
   rw [Tx] at e2;exact cells_ok (og e2).2
  exact aky e q h
theorem tH.head {x:ak} {l:List ak} (h:tH (x :: l)):JX x∧tH l:=by
 obtain ⟨C,body,note,t,s,s',e⟩:=h;rw [kr] at e;obtain ⟨e1,e⟩:=og e;have e2:fO C body note t x s=(0,(fO C body note t x s).2):=Prod.ext e1 M
 generalize (fO C body note t x s).2=s2 at e2
 refine ⟨?_,⟨C,body,note,t,_,_,e⟩⟩;rw [aiV] at e2;obtain ⟨f1,e2⟩:=og e2;(iterate 2 obtain ⟨-,e2⟩:=og e2);obtain ⟨h1,h2,h3,h4⟩:=DW f1;refine ⟨h1,h2,h3,h4,?_,?_⟩
 ·by_cases h6:x.kind=6
  ·rw [ay h6] at e2;exact ⟨_,_,_,_,_,_,e2⟩
  rw [h4 h6];exact azZ
 by_cases h7:x.kind=7
 ·rw [bU,ay h7] at e2;exact aky (aac e2).2
 rw [h3 h7];exact fun _ h=>by cases h
theorem tH.tail {x:ak} {l:List ak} (h:tH (x :: l)):tH l:=h.head.2
theorem tH.mem:∀ {l:List ak} {x:ak},tH l->x∈l->JX x
 | y :: l,x,h,hx=>by
  rcases gu.1 hx with rfl|hx
  ·exact h.head.1
  exact tH.mem h.head.2 hx
theorem JX.e {x:ak} (h:JX x):Av x=0:=by unfold Av JF;rw [ay h.txt];split <;> rfl
theorem JX.n1 {x:ak} (h:JX x):n1 x=jo x:=by unfold Go.Proofs.YtdiflmikikiedaaGreat.n1;rw [ay h.e]
theorem tH.div {l:List ak} (h:tH l):yZ l=true:=by
 unfold yZ
 rw [jR];exact fun x hx=>mY (h.mem hx).e
theorem tH.len {l:List ak} (h:tH l):zB l=tY l:=by unfold zB;rw [ay h.div]
mutual
theorem aD3 (note:Bool) (t:Int):∀ x:ak,((zM note t x).map jF.id).Sublist (rZ x)
 | .mk k c i tx h f r=>by
  have hf:=Ug true t f;have hr:=amr note t r;rw [zM,rZ]
  by_cases h6:k=6
  ·rw [ay h6,ay (.inl h6),ay h6,bU,fG];exact List.Sublist.cons_cons _ hf
  rw [au h6,au h6,jA]
  by_cases h7:k=7
  ·rw [ay h7,ay h7,ay (.inr h7)];exact List.Sublist.cons _ hr
  rw [au h7];exact List.nil_sublist _
theorem Ug (note:Bool) (t:Int):∀ l:List ak,((lu note t l).map jF.id).Sublist (jI l)
 | []=>by rw [lu];exact List.nil_sublist _
 | x :: l=>by
  rw [lu,jI,ji];exact (aD3 note t x).append (Ug note t l)
theorem aD4 (note:Bool) (t:Int):∀ x:aO,((zN note t x).map jF.id).Sublist (wE x)
 | .mk h cs=>by rw [zN,wE];exact amq note t cs
theorem amr (note:Bool) (t:Int):∀ l:List aO,((rQ note t l).map jF.id).Sublist (om l)
 | []=>by rw [rQ];exact List.nil_sublist _
 | x :: l=>by
  rw [rQ,om,ji];exact (aD4 note t x).append (amr note t l)
theorem aD2 (note:Bool) (t:Int):∀ x:aQ,((zL note t x).map jF.id).Sublist (xw x)
 | .mk i h f=>by rw [zL,xw];exact List.Sublist.cons_cons _ (Ug note (t+1) f)
theorem amq (note:Bool) (t:Int):∀ l:List aQ,((sI note t l).map jF.id).Sublist (oZ l)
 | []=>by rw [sI];exact List.nil_sublist _
 | x :: l=>by
  rw [sI,oZ,ji];exact (aD2 note t x).append (amq note t l)
end
structure Hg (l:List ak):Prop where
 ok:tH l
 nd:(jI l).Nodup
 pos:∀ i∈jI l,1<=i∧i<=1073741824
theorem Hg.of {C:aV} {body note:Bool} {t n:Int} {l:List ak} {s':CS} (h:kr C body note t l ⟨n,[]⟩=(0,s')):Hg l:=by
 have he:=Q7 C body note t l _ _ h;have hn:=he.nd List.nodup_nil;rw [he.eq] at hn;exact ⟨⟨C,body,note,t,_,_,h⟩,by simpa using hn,he.pos⟩
theorem Hg.ids {l:List ak} (h:Hg l):((qg l).map jF.id).Nodup:=by
 have hs:=Ug false 0 l;rw [qg,dO,List.nodup_cons];exact ⟨fun hm=>by have:=h.pos _ (hs.subset hm);dsimp only at this;omega,hs.nodup h.nd⟩
theorem atO {L:List jF} (hn:(L.map jF.id).Nodup) {F:jF} (hF:F∈L):L.find? (fun f=>decide (f.id=F.id))=some F:=by
 induction L with
 | nil=>cases hF
 | cons E L ih =>
  rw [dO,List.nodup_cons] at hn;rw [List.find?_cons]
  rcases gu.1 hF with rfl|hF
  ·simp
  have:E.id≠F.id:=fun e=>hn.1 (e ▸ List.mem_map_of_mem hF);rw [qE this];exact ih hn.2 hF
def AZ (x:ak):ByteArray :=
 if x.kind=2 then ⟨#[10]⟩ else if x.kind=3 then ⟨#[29]⟩ else if x.kind=5∨x.kind=6∨x.kind=7∨x.kind=8 then ⟨#[239,191,188]⟩
 else if x.kind=4∧x.code=1 then ⟨#[11]⟩ else if x.kind=4∧x.code=2 then ⟨#[12]⟩ else if x.kind=4∧x.code=3 then ⟨#[9]⟩ else ⟨#[239,191,189]⟩
def jB (x:ak):ByteArray:=if x.kind=1 then x.text else AZ x
theorem ZR {s:ByteArray} {c:Int} {n:Nat} (hz:s.size=n) (hn:0 < n) (hd:gM s 0=(c,n,true)) (hc:¬ tJ .and .u8 (fC s 0) 192=128) (hr:∀ j,0 < j->j < n->tJ .and .u8 (fC s j) 192=128):lX s=true∧oU s=1:=by
 have hv:lX s=true:=by
  unfold lX
  rw [nL,dif_pos O,dif_pos (by rw [hd]),hd,nL,dif_neg (by dsimp only;omega)]
  rfl
 refine ⟨hv,?_⟩
 have h0:∀ m j,n - j=m->0 < j->kE s j=0:=by
  intro m
  induction m with
  | zero=>intro j h1 h2;rw [kE,bU]
  | succ m ih =>
   intro j h1 h2;have h3:=ih (j+1) O O;rw [kE.eq_def,ay (show j < s.size by omega),ay (hr j h2 O),h3]
 unfold oU
 rw [ay hv,kE.eq_def,ay (show 0 < s.size by omega),au hc,h0 _ 1 rfl Z]
theorem alE {P:Nat->Prop} (h1:P 1) (h2:P 2):∀ j,0 < j->j < 3->P j
 | 1,_,_=>h1
 | 2,_,_=>h2
 | 0,h,_=>absurd h Z
 | _+3,_,h=>by omega
theorem aqn:lX ⟨#[]⟩=true∧oU ⟨#[]⟩=0:=by
 have hv:lX ⟨#[]⟩=true:=by unfold lX;rw [nL,dif_neg Z];rfl
 exact ⟨hv,by unfold oU;rw [ay hv,kE,au Z]⟩
theorem Wi (x:ak):(lX (AZ x)=true∧oU (AZ x)=1)∧(AZ x).size<=3∧(AZ x).size≠0:=by
 have o1:∀ b:UInt8,gM ⟨#[b]⟩ 0=((b.toNat:Int),1,true)->¬ tJ .and .u8 (fC ⟨#[b]⟩ 0) 192=128->(lX ⟨#[b]⟩=true∧oU ⟨#[b]⟩=1)∧(⟨#[b]⟩:ByteArray).size<=3∧(⟨#[b]⟩:ByteArray).size≠0:=fun b h1 h2=>⟨ZR (n:=1) M Z h1 h2 fun j h3 h4=>by omega,by show 1<=3;decide,by show 1≠0;decide⟩
 unfold AZ
 split
 ·exact o1 10 Z Z
 split
 ·exact o1 29 Z Z
 split
 ·exact ⟨ZR (c:=65532) (n:=3) M Z Z Z (alE Z Z),Z,Z⟩
 split
 ·exact o1 11 Z Z
 split
 ·exact o1 12 Z Z
 split
 ·exact o1 9 Z Z
 exact ⟨ZR (c:=65533) (n:=3) M Z Z Z (alE Z Z),Z,Z⟩
def jD (l:List ak):List UInt8:=l.flatMap fun x=>(jB x).data.toList
theorem alI (x:ak) (l:List ak):(⟨(jD (x :: l)).toArray⟩:ByteArray)=jB x++⟨(jD l).toArray⟩:=by
 apply ByteArray.ext
 simp [jD]
theorem aDj {l:List ak} {k:Nat} (hk:k < l.length):jD (l.take (k+1))=jD (l.take k)++(jB l[k]).data.toList:=by
 rw [jK hk];simp only [jD,List.flatMap_append,List.flatMap_cons,List.flatMap_nil,fG]
theorem aoK (x:ak):(jB x).data.toList.length<=bX x.dat:=by
 have h2:=uP x;have h3:(jB x).data.toList.length=(jB x).size:=pY;have h4:=(Wi x).2.1;rw [h3]
 unfold jB
 split <;> omega
theorem aaI:∀ l:List ak,(jD l).length<=bq l
 | []=>dS _
 | x :: l=>by
  have:=aaI l;have h2:=aoK x
  simp only [jD,List.flatMap_cons,gF,bq,dO,dM] at *;omega
section
section
variable {N:Nat} {D:List Deferred} {w0:World} {F:Nat->Prop} {G0 G:GH} {L Lo:OL} {T:List (Nat × ah)}
variable {r:Option Nat} {P:Program} {ops:Array Oper} {Q:Exit->Act->World->Prop} {rest:List Oper} {a:Act} {w:World}
variable {d:Nat} {ty:TypeId} {pos:String} {aL:Array Edge} {g:Option (Nat × Bool)}
theorem aEg (z:Array ah) (n:Nat):(Builtin.zeroCells z n).toList.length=n*z.size:=by simp [Builtin.zeroCells]
theorem aEh {z:Array ah} {n:Nat} (h:z.toList.all Value.oneCell'=true):∀ u∈(Builtin.zeroCells z n).toList,u.oneCell'=true:=by
 intro u hu
 simp only [Builtin.zeroCells,Array.toList_map,List.mem_map] at hu
 obtain ⟨i,hi,rfl⟩:=hu
 have hi2:i < n*z.size:=by simpa using hi
 have hz:0 < z.size:=by
  rcases Nat.eq_zero_or_pos z.size with e|e
  ·rw [e,Nat.mul_zero] at hi2;omega
  ·exact e
 have hlt:i % z.size < z.size:=Nat.mod_lt _ hz
 rw [getElem!_pos z (i % z.size) hlt]
 exact jR.1 h _ (by simp)
theorem akQ {t e:TypeId} {sz bytes:Nat} {zero:List ah} {agg:Bool} (hs:P.underlying t=some (.slice e)) (ht:Ty P e sz bytes zero agg) (hz:Nat.beq zero.length sz=true) (hz1:zero.all Value.oneCell'=true) {x:Operand} (i:Nat) {b o n cp:Nat} {c:List ah} (H:St N D w0 F G0 G L T a w)
  (hw:Region.wanted ⟨none,.call { callee:=.builtin .clear,args:=#[x],argTypes:=#[t] },ty,pos,aL,g⟩ (yielded ops a.tmps)=true) (hx:ev T x=some (.slice (some ⟨b,o,none⟩) n cp)) (hi:L[i]?=some (b,.cells c.toArray e (0,0))) (hn:0 < n) (hle:o+n*sz<=c.length)
  (k:∀ (c':List ah) w',c'.length=c.length->c'.take o=c.take o->St N D w0 F G0 G (L.set i (b,.cells c'.toArray e (0,0))) T a w'->WL r P ops Q rest a w') :
  WL r P ops Q (⟨none,.call { callee:=.builtin .clear,args:=#[x],argTypes:=#[t] },ty,pos,aL,g⟩ :: rest) a w:=by
 obtain ⟨inf,z,hi0,hi1,hi2,hi3,hi4⟩:=ht.parts
 have hb:=H.hp.own _ (lZ hi)
 have hzs:z.cells.size=sz:=by rw [hi4];simpa using Ci hz
 have hlen:(Builtin.zeroCells z.cells n).toList.length=n*sz:=by rw [aEg,hzs]
 obtain ⟨w2,h2,u2⟩:=aal (P:=P) b e o (Builtin.zeroCells z.cells n).toList 0 c w hb (by rw [hlen];omega) (aEh (by rw [hi4];simpa using hz1))
 simp only [sJ] at u2
 refine fI (v:=.tuple #[]) (w':=w2) hw M ?_ (k _ w2 ?_ ?_ (H.move (H.hp.upd hi u2)))
 ·obtain ⟨m,rfl⟩:∃ m,n=m+1:=⟨n - 1,O⟩
  simp [execOp,resolve,invoke,builtin,Builtin.clear_,dP,H.ev hx,nu hs,zeroValue,Gm hi0,hi3,h2]
 ·rw [aax]
 ·rw [TR _ _ _ (by rw [hlen];exact hle),iL,List.take_append_of_le_length (by rw [List.length_take];omega),nZ (by rw [List.length_take];omega)]
end
end
theorem bY.ptr {e sz n c:Nat} {A:Option Addr} {xs:List ah} {Lo:OL} (h:bY e sz (.slice A n c) n xs Lo) (hn:0 < n):∃ b,A=some ⟨b,0,none⟩:=by
 rcases h.2 with ⟨_,h0,_⟩|⟨b,cap,cur,he,_⟩
 ·omega
 ·injection he with e1;exact ⟨b,e1⟩
theorem bY.at {w0 w:World} {F:Nat->Prop} {G0 G:GH} {L Lo:OL} {e sz n c b o:Nat} {xs:List ah} (h:bY e sz (.slice (some ⟨b,o,none⟩) n c) n xs Lo) (H:Hp w0 F G0 G L w) (hsub:∀ x∈Lo,x∈L) {i:Nat} {u:ah} (hi:xs[i]?=some u):w.cell? ⟨b,i,none⟩=some u:=by
 rcases h.2 with ⟨h1,_⟩|⟨b2,cap,cur,he,hl,h1,h2,h3,h4⟩
 ·cases h1
 ·injection he with e1
  injection e1 with e1
  injection e1 with e1
  subst e1
  refine H.BF (c:=cur) (e:=e) (fz:=(0,0)) (hsub _ (by rw [hl];exact List.mem_singleton_self _)) ?_
  have hx:i < xs.length:=(jZ.1 hi).1
  rw [h.1] at hx
  rw [<- h4,uS,ay hx,Array.getElem?_toList] at hi
  exact hi
theorem flat_get {sz:Nat}:∀ {css:List (List ah)} {k:Nat} (hk:k < css.length) (h:∀ cs∈css,cs.length=sz) (j:Nat),j < sz->css.flatten[k*sz+j]?=css[k][j]?
 | c :: css,0,_,h,j,hj=>by
  rw [List.flatten_cons,Nat.zero_mul,gZ,List.getElem_cons_zero,yO (by rw [h c dV];exact hj)]
 | c :: css,k+1,hk,h,j,hj=>by
  have ih:=flat_get (css:=css) (k:=k) (by simpa using hk) (fun cs hc=>h cs (gI _ hc)) j hj
  rw [List.flatten_cons,List.getElem_cons_succ,um (by rw [h c dV,Nat.succ_mul];omega),h c dV,show (k+1)*sz+j - sz=k*sz+j by rw [Nat.succ_mul];omega]
  exact ih
theorem dx.at {G:GH} {sz:Nat} {rows:List (List Dat)} {xs:List ah} (h:dx G sz rows xs) {k:Nat} {r:List Dat} (hk:rows[k]?=some r):∃ cs,cs.length=sz∧(∀ j u,cs[j]?=some u->xs[k*sz+j]?=some u)∧aX G r cs:=by
 obtain ⟨css,rfl,h2,h3⟩:=h
 have hkl:k < css.length:=by rw [h2];exact (jZ.1 hk).1
 obtain ⟨hr,hl⟩:=h3 k r css[k] hk (eB hkl)
 refine ⟨css[k],hl,fun j u hj=>?_,hr⟩
 rw [flat_get hkl (fun cs hc=>?_) j (by rw [<- hl];exact (jZ.1 hj).1)]
 ·exact hj
 ·obtain ⟨i,hi,rfl⟩:=List.getElem_of_mem hc
  exact (h3 i rows[i] css[i] (eB O) (eB hi)).2
section
section
variable {N:Nat} {D:List Deferred} {w0:World} {F:Nat->Prop} {G0 G:GH} {L:OL} {T:List (Nat × ah)}
variable {r:Option Nat} {P:Program} {ops:Array Oper} {Q:Exit->Act->World->Prop} {rest:List Oper} {a:Act} {w:World}
variable {d:Nat} {ty:TypeId} {pos:String} {aL:Array Edge} {g:Option (Nat × Bool)}
theorem akP {t yt:TypeId} {x y:Operand} {p q:ByteArray} (H:St N D w0 F G0 G L T a w) (hw:Region.wanted ⟨some d,.binOp .add t x y yt,ty,pos,aL,g⟩ (yielded ops a.tmps)=true) (hx:ev T x=some (.string p)) (hy:ev T y=some (.string q)) (hs:p.size+q.size<=4611686018427387904) (hd:Nat.blt d N=true)
  (k:∀ a',St N D w0 F G0 G L ((d,.string (p++q)) :: T) a' w->WL r P ops Q rest a' w):WL r P ops Q (⟨some d,.binOp .add t x y yt,ty,pos,aL,g⟩ :: rest) a w:=by
 refine fI (v:=.string (p++q)) (w':=w) hw M ?_ (k _ (H.put hd _ H.hp))
 have h:¬ ((p.size+q.size:Nat):Int) > IntKind.i64.max:=by
  rw [show IntKind.i64.max=9223372036854775807 by decide];omega
 simp only [execOp,H.ev hx,H.ev hy,dP,eqGuard,binOp,Op.stringOp,au h]
 rfl
end
theorem bY.set1 {e sz n cap b o:Nat} {xs:List ah} {Lo:OL} (h:bY e sz (.slice (some ⟨b,o,none⟩) n cap) n xs Lo) :
  ∃ cur:List ah,o=0∧Lo=[(b,.cells cur.toArray e (0,0))]∧n*sz<=cur.length∧∀ j v,bY e sz (.slice (some ⟨b,0,none⟩) n cap) n (xs.set j v) [(b,.cells (cur.set j v).toArray e (0,0))]:=by
 rcases h.2 with ⟨h1,_⟩|⟨b',cap',cur',h1,h2,h3,h4,h5,h6⟩
 ·cases h1
 ·cases h1
  refine ⟨cur'.toList,M,h2,?_,fun j v=>⟨by rw [List.length_set];exact h.1,.inr ⟨b,cap,_,M,M,h3,h4,by simpa using h5,?_⟩⟩⟩
  ·rw [pY,h5];exact Nat.mul_le_mul_right _ h3
  ·rw [List.toList_toArray,<- h6,List.take_set]
theorem dx.aCT {G:GH} {sz:Nat} {rows:List (List Dat)} {q:List Dat} {xs:List ah} (h:dx G sz (rows++[q]) xs):∃ x0 cs,xs=x0++cs∧dx G sz rows x0∧aX G q cs∧cs.length=sz∧x0.length=rows.length*sz:=by
 obtain ⟨css,rfl,h2,h3⟩:=h
 rw [gF,List.length_singleton] at h2
 have hne:css≠[]:=fun e=>by rw [e] at h2;simp at h2
 have e:css=css.dropLast++[css.getLast hne]:=(List.dropLast_concat_getLast hne).symm
 have hdl:css.dropLast.length=rows.length:=by rw [List.length_dropLast];omega
 generalize css.dropLast=c0 at e hdl
 generalize css.getLast hne=cl at e
 subst e
 have h4:∀ (j:Nat) (r:List Dat) (cs:List ah),rows[j]?=some r->c0[j]?=some cs->aX G r cs∧cs.length=sz:=fun j r cs hr hc=>h3 j r cs (by rw [yO (jZ.1 hr).1];exact hr) (by rw [yO (jZ.1 hc).1];exact hc)
 have h5:=h3 rows.length q cl (by rw [um (dS _),Nat.sub_self];rfl) (by rw [um O,hdl,Nat.sub_self];rfl)
 refine ⟨c0.flatten,cl,by simp,⟨c0,M,hdl,h4⟩,h5.1,h5.2,?_⟩
 have h6:∀ (c:List (List ah)) (rs:List (List Dat)),c.length=rs.length->(∀ (j:Nat) (r:List Dat) (cs:List ah),rs[j]?=some r->c[j]?=some cs->aX G r cs∧cs.length=sz)->c.flatten.length=rs.length*sz:=by
  intro c
  induction c with
  | nil=>intro rs h _;cases rs with
   | nil=>simp
   | cons r rs=>simp at h
  | cons x c ih =>
   intro rs h hh
   cases rs with
   | nil=>simp at h
   | cons r rs =>
    have e1:=(hh 0 r x M M).2
    have e2:=ih rs (by simpa using h) fun j r' cs hr hc=>hh (j+1) r' cs (by simpa using hr) (by simpa using hc)
    rw [List.flatten_cons,gF,e1,e2,kR,Nat.succ_mul,Nat.add_comm]
 exact h6 c0 rows hdl h4
theorem ayj (A B:OL) (x:Nat × Obj):(A++(B++[x]))[A.length+B.length]?=some x:=by
 rw [um O,Ho,um (dS _),Nat.sub_self];rfl
theorem aCn (A B:OL) (x y:Nat × Obj):(A++(B++[x])).set (A.length+B.length) y=A++(B++[y]):=by
 rw [List.set_append_right _ _ O,Ho,List.set_append_right _ _ (dS _),Nat.sub_self];rfl
end
section
def seg (cur:List ah) (o:Nat) (cs:List ah):List ah:=cur.take o++cs++cur.drop (o+cs.length)
theorem Gw {cur cs:List ah} {o:Nat} (h:o+cs.length<=cur.length):(seg cur o cs).length=cur.length:=by simp only [seg,gF,List.length_take,List.length_drop];omega
theorem ama {w:World} {b:Nat} {old cs:Array ah} {e:TypeId} (h:w.heap[b]?=some (.cells old e (0,0))):vV b (.cells cs e (0,0)) w (w.setRow b cs) :=
 ⟨rfl,rfl,rfl,setRow_size _ _ _,setRow_heap _ _ _ _ _ _ h,fun k hk=>setRow_other _ _ _ _ hk⟩
section
variable {P:Program} {w:World}
theorem aBE (dT sT ty elem:TypeId) (i:TypeInfo) (g o dLen dCap:Nat) (a:Addr) (sLen sCap:Nat) (cur:Array ah) (t:TypeId) (cs:List ah) (hu:P.underlying dT=some (.slice elem)) (hi:P.info? elem=some i)
  (hg:w.heap[g]?=some (.cells cur t (0,0))) (hn:cs.length=min sLen dLen*i.size) (hsrc:∀ j v,cs[j]?=some v->w.cell? (a.add j)=some v) (hfit:o+cs.length<=cur.size) (h1:∀ v∈cs,v.oneCell'=true) :
  (Builtin.copy_ #[dT,sT] ty #[.slice (some ⟨g,o,none⟩) dLen dCap,.slice (some a) sLen sCap]).run P w=.ok (goInt (min sLen dLen:Nat)) (w.setRow g (seg cur.toList o cs).toArray):=by
 have hl:=run_loadCells_list (P:=P) w a cs hsrc
 have hst:=run_storeCells_at P g o t cs 0 cur w hg (by simpa using hfit) h1
 simp only [sJ] at hst
 simp [Builtin.copy_,run_underlying hu,Builtin.lenOf,Builtin.firstCells,sizeOf,typeInfo,hi,<- hn,hl,hst,seg]
end
section
variable {N:Nat} {D:List Deferred} {w0:World} {F:Nat->Prop} {G0 G:GH} {L Li Lo:OL} {T:List (Nat × ah)}
variable {r:Option Nat} {P:Program} {ops:Array Oper} {Q:Exit->Act->World->Prop} {rest:List Oper} {a:Act} {w:World}
variable {d:Nat} {ty:TypeId} {pos:String} {aL:Array Edge} {g:Option (Nat × Bool)}
theorem TL {t t' e:TypeId} {sz bytes:Nat} {zero:List ah} {agg:Bool} (hs:P.underlying t=some (.slice e)) (ht:Ty P e sz bytes zero agg) {x y:Operand} {b o dl dc b2 o2 sl sc:Nat} {cur:List ah} {u:TypeId} (i m:Nat) (cs:List ah) (H:St N D w0 F G0 G L T a w)
  (hw:Region.wanted ⟨some d,.call { callee:=.builtin .copy,args:=#[x,y],argTypes:=#[t,t'] },ty,pos,aL,g⟩ (yielded ops a.tmps)=true) (hx:ev T x=some (.slice (some ⟨b,o,none⟩) dl dc)) (hy:ev T y=some (.slice (some ⟨b2,o2,none⟩) sl sc)) (hi:L[i]?=some (b,.cells cur.toArray u (0,0)))
  (hm:min sl dl=m) (hn:cs.length=m*sz) (hc:∀ j v,cs[j]?=some v->w.cell? ⟨b2,o2+j,none⟩=some v) (hfit:o+cs.length<=cur.length) (h1:cs.all Value.oneCell'=true) (hd:Nat.blt d N=true)
  (k:∀ a' w',St N D w0 F G0 G (L.set i (b,.cells (seg cur o cs).toArray u (0,0))) ((d,goInt (m:Nat)) :: T) a' w'->WL r P ops Q rest a' w') :
  WL r P ops Q (⟨some d,.call { callee:=.builtin .copy,args:=#[x,y],argTypes:=#[t,t'] },ty,pos,aL,g⟩ :: rest) a w:=by
 obtain ⟨ti,z,hti,hi1,hi2,hi3,hi4⟩:=ht.parts
 have hb:=H.hp.own _ (lZ hi)
 subst hm
 have hr:=aBE (P:=P) (w:=w) t t' ty e ti b o dl dc ⟨b2,o2,none⟩ sl sc cur.toArray u cs hs hti hb (by rw [hi1];exact hn) (fun j v hj=>by rw [add_lit];exact hc j v hj) (by simpa using hfit) (fun v hv=>jR.1 h1 v hv)
 refine fI (v:=goInt (min sl dl:Nat)) (w':=w.setRow b (seg cur o cs).toArray) hw M ?_ (k _ _ (H.put hd _ (H.hp.upd hi (ama hb))))
 simp [execOp,resolve,invoke,builtin,H.ev hx,H.ev hy,dP,hr]
theorem aBM {t e:TypeId} {sz bytes:Nat} {zero:List ah} {agg:Bool} (hs:P.underlying t=some (.slice e)) (ht:Ty P e sz bytes zero agg) {x y:Operand} {b n c b2 o2 m c2:Nat} {cur:List ah} (i:Nat) (news:List ah) (H:St N D w0 F G0 G L T a w)
  (hw:Region.wanted ⟨some d,.call { callee:=.builtin .append,args:=#[x,y],argTypes:=#[t,t] },ty,pos,aL,g⟩ (yielded ops a.tmps)=true) (hx:ev T x=some (.slice (some ⟨b,0,none⟩) n c)) (hy:ev T y=some (.slice (some ⟨b2,o2,none⟩) m c2)) (hi:L[i]?=some (b,.cells cur.toArray e (0,0)))
  (hn:news.length=m*sz) (hc:∀ j v,news[j]?=some v->w.cell? ⟨b2,o2+j,none⟩=some v) (h1:news.all Value.oneCell'=true) (hroom:n+m<=c) (hfit:n*sz+news.length<=cur.length) (hd:Nat.blt d N=true)
  (k:∀ a' w',St N D w0 F G0 G (L.set i (b,.cells (seg cur (n*sz) news).toArray e (0,0))) ((d,.slice (some ⟨b,0,none⟩) (n+m) c) :: T) a' w'->WL r P ops Q rest a' w') :
  WL r P ops Q (⟨some d,.call { callee:=.builtin .append,args:=#[x,y],argTypes:=#[t,t] },ty,pos,aL,g⟩ :: rest) a w:=by
 obtain ⟨ti,z,hti,hi1,hi2,hi3,hi4⟩:=ht.parts
 have hb:=H.hp.own _ (lZ hi)
 subst hi1
 have hr:=run_append_room (P:=P) w t ty e ti hs hti b n c cur.toArray hb ⟨b2,o2,none⟩ m c2 news hn (fun j v hj=>by rw [add_lit];exact hc j v hj) (fun v hv=>jR.1 h1 v hv) hroom (by simpa using hfit)
 refine fI (v:=.slice (some ⟨b,0,none⟩) (n+m) c) (w':=w.setRow b (seg cur (n*ti.size) news).toArray) hw M ?_ (k _ _ (H.put hd _ (H.hp.upd hi (ama hb))))
 simp [execOp,resolve,invoke,builtin,H.ev hx,H.ev hy,dP,hr,seg]
theorem aBO {t u e:TypeId} {sz bytes:Nat} {zero:List ah} {agg:Bool} (hs:P.underlying t=some (.slice e)) (hu:P.underlying u=some (.int .i64)) (ht:Ty P e sz bytes zero agg) (hzl:Nat.beq zero.length sz=true) (hsz:Nat.blt 0 sz=true) {x y:Operand} {b n c m:Nat} {p:Int} (olds:List ah) (H:St N D w0 F G0 G L T a w)
  (hw:Region.wanted ⟨some d,.call { callee:=.builtin .append,args:=#[x,y],argTypes:=#[t,u] },ty,pos,aL,g⟩ (yielded ops a.tmps)=true) (hx:ev T x=some (.slice (some ⟨b,0,none⟩) n c)) (hy:ev T y=some (.int .i64 p)) (hp:p=(m:Int)) (hol:olds.length=n*sz) (hold:∀ j v,olds[j]?=some v->w.cell? ⟨b,0+j,none⟩=some v)
  (hm:0 < m) (hg:c < n+m) (h63:n+m<=4611686018427387904) (h48:2*(n+m)*bytes<=281474976710656) (hd:Nat.blt d N=true)
  (k:∀ b' cap cur a' w',n+m<=cap->cap<=maxLen->(cur:List ah).length=cap*sz->cur.take (n*sz)=olds->St N D w0 F G0 G ((b',.cells cur.toArray e (0,0)) :: L) ((d,.slice (some ⟨b',0,none⟩) (n+m) cap) :: T) a' w'->WL r P ops Q rest a' w') :
  WL r P ops Q (⟨some d,.call { callee:=.builtin .append,args:=#[x,y],argTypes:=#[t,u] },ty,pos,aL,g⟩ :: rest) a w:=by
 obtain ⟨i,z,hi,hi1,hi2,hi3,hi4⟩:=ht.parts
 have hsz0:0 < sz:=Eq.mp Nat.blt_eq hsz
 have hzc:z.cells.size=sz:=by rw [hi4];simpa using Ci hzl
 subst hp
 subst hi1
 have hml:maxLen=9223372036854775807:=rfl
 have hnc:Builtin.nextslicecap (n+m) c<=2*(n+m):=nextslicecap_le hg
 have hfc:(Builtin.firstCells i.size n (.slice (some ⟨b,0,none⟩) n c)).run P w.drew=.ok olds.toArray w.drew:=by
  have:=run_firstCells_some (P:=P) w.drew i.size n ⟨b,0,none⟩ n c olds hol (fun j v hj=>by rw [add_lit];exact hold j v hj)
  exact this
 have hr:=Lib.run_append_grow_zeros (P:=P) w t u ty e i z .i64 .i64 hs hu hi hi3 (some ⟨b,0,none⟩) n c olds hfc m hm hsz0 hg O (Nat.le_trans (Nat.mul_le_mul_right i.bytes (show m<=2*(n+m) by omega)) (by rw [hi2];exact h48)) (Nat.le_trans (Nat.mul_le_mul_right _ hnc) (by rw [hi2];exact h48))
 have hge:=grownCap_ge w (n+m) c e
 refine fI (v:=.slice (some ⟨w.heap.size,0,none⟩) (n+m) (grownCap w (n+m) c e)) (w':=w.drew.alloc (.cells (olds.toArray++Builtin.zeroCells z.cells m++Builtin.zeroCells z.cells (grownCap w (n+m) c e - (n+m))) e)) hw M ?_
  (k _ _ (olds.toArray++Builtin.zeroCells z.cells m++Builtin.zeroCells z.cells (grownCap w (n+m) c e - (n+m))).toList _ _ hge (grownCap_le_maxLen w (n+m) c e O) ?_ ?_ (H.put hd _ (by rw [Array.toArray_toList];exact H.hp.drew.alloc _)))
 ·simp only [execOp,resolve,invoke,builtin,H.ev hx,H.ev hy,dP,List.map_toArray,dO,qZ,rR,nY,hr]
 ·simp only [pY,Array.size_append,size_zeroCells,hzc,List.size_toArray,hol]
  rw [<- Nat.add_mul,<- Nat.add_mul];congr 1;omega
 ·simp [hol,List.take_append]
theorem aB3 {t e:TypeId} {sz bytes:Nat} {zero:List ah} {agg:Bool} (hs:P.underlying t=some (.slice e)) (ht:Ty P e sz bytes zero agg) {x y z m:Operand} {A:Option Addr} {n c:Nat} (lo hi mx:Nat) {p q s:Int} (H:St N D w0 F G0 G L T a w)
  (hw:Region.wanted ⟨some d,.slice t x (some y) (some z) (some m),ty,pos,aL,g⟩ (yielded ops a.tmps)=true) (hx:ev T x=some (.slice A n c)) (hy:ev T y=some (.int .i64 p)) (hz:ev T z=some (.int .i64 q)) (hm:ev T m=some (.int .i64 s)) (hp:p=(lo:Int)) (hq:q=(hi:Int)) (hms:s=(mx:Int)) (h1:lo<=hi) (h2:hi<=mx) (h3:mx<=c) (hd:Nat.blt d N=true)
  (k:∀ v a',St N D w0 F G0 G L ((d,v) :: T) a' w->WL r P ops Q rest a' w):WL r P ops Q (⟨some d,.slice t x (some y) (some z) (some m),ty,pos,aL,g⟩ :: rest) a w:=by
 subst hp;subst hq;subst hms
 refine fI (v:=.slice (if mx=lo then A else A.map (·.add (lo*sz))) (hi - lo) (mx - lo)) (w':=w) hw M ?_ (k _ _ (H.put hd _ H.hp))
 simp [execOp,H.ev hx,H.ev hy,H.ev hz,H.ev hm,Instr.sliceAt,Instr.slice,Instr.sliceBounds,Instr.sliceBound,dP,nu hs,ht.Am,asIntOf,h1,h2,h3]
theorem aBY {f:FuncId} {fn:Func} {t tr e:TypeId} (hf:P.funcs[f]?=some fn) (hname:(fn.name == "runtime.NumGoroutine")=false) (hb:fn.body.isNone=true) (hn:Extern.findNext fn=none) (he:Extern.find fn=some (Extern.SlicesOverlaps.overlaps #[t,t] #[tr]))
  {sz bytes:Nat} {zero:List ah} {agg:Bool} (hs:P.underlying t=some (.slice e)) (ht:Ty P e sz bytes zero agg) {x y:Operand} {ts:Array TypeId} {b o n c b2 o2 n2 c2:Nat} {cur Fe:Array ah} {u u2:TypeId} (H:St N D w0 F G0 G L T a w)
  (hw:Region.wanted ⟨some d,.call { callee:=.value (.func f),args:=#[x,y],argTypes:=ts },ty,pos,aL,g⟩ (yielded ops a.tmps)=true) (hx:ev T x=some (.slice (some ⟨b,o,none⟩) n c)) (hy:ev T y=some (.slice (some ⟨b2,o2,none⟩) n2 c2))
  (h1:w.heap[b]?=some (.cells cur u (0,0))) (h2:w.heap[b2]?=some (.cells Fe u2 (0,0))) (hne:b≠b2) (h0:Fe.size≠0) (hd:Nat.blt d N=true)
  (k:∀ a',St N D w0 F G0 G L ((d,.bool false) :: T) a' w->WL r P ops Q rest a' w):WL r P ops Q (⟨some d,.call { callee:=.value (.func f),args:=#[x,y],argTypes:=ts },ty,pos,aL,g⟩ :: rest) a w:=by
 have hr:=Lib.run_overlaps_apart (P:=P) w t tr e hs sz ht.Am ⟨b,o,none⟩ ⟨b2,o2,none⟩ n c n2 c2 hne u u2 cur.size Fe.size (by simp [World.shape?,h1]) (by simp [World.shape?,h2]) h0 (by simp [World.frozen?,h1]) (by simp [World.frozen?,h1])
 refine fI (v:=.bool false) (w':=w) hw M ?_ (k _ (H.put hd _ H.hp))
 have hc:=run_callFunc_extern (P:=P) hf hname hb hn he #[.slice (some ⟨b,o,none⟩) n c,.slice (some ⟨b2,o2,none⟩) n2 c2] w
 rw [hr] at hc
 have e1:(execOp a.eval ⟨some d,.call { callee:=.value (.func f),args:=#[x,y],argTypes:=ts },ty,pos,aL,g⟩)=(do let q <- Deferred.ofValue (.func (.func f) #[] #[]) #[.slice (some ⟨b,o,none⟩) n c,.slice (some ⟨b2,o2,none⟩) n2 c2];invoke q.target q.args:Sem Next):=by
  simp only [execOp,resolve,H.ev (x:=.func f) M,List.map_toArray,dO,qZ,H.ev hx,H.ev hy]
 rw [e1]
 simp [Deferred.ofValue,dP,invoke,hc,Result.andThen]
end
end
def mV (l:List aN):List ah:=(l.map aN.cells).flatten
theorem Wx:∀ l:List aN,(mV l).length=l.length*2
 | []=>rfl
 | p :: l=>by
  have:=Wx l
  simp only [mV,dO,List.flatten_cons,gF] at this |-
  rw [this,show p.cells.length=2 from rfl,kR];omega
theorem Nr (l m:List aN):mV (l++m)=mV l++mV m:=by simp [mV]
theorem aAD {G:GH} {l:List aN} {xs:List ah} (h:dx G 2 (l.map aN.dat) xs):xs=mV l:=by
 obtain ⟨css,rfl,h2,h3⟩:=h;rw [bK] at h2
 have e:css=l.map aN.cells:=by
  apply List.ext_getElem?
  intro j;rw [qD]
  by_cases hj:j < l.length
  ·have h4:=(h3 j l[j].dat css[j] (by simp [hj]) (eB O)).1;rw [eB hj,eB O,Tg h4];rfl
  rw [List.getElem?_eq_none O,List.getElem?_eq_none O];rfl
 rw [e];rfl
theorem apw {G:GH} {w0:World} (hO:gq G [] w0) (l:List aN) (v:ah) (hv:av G (.sl 2 (l.map aN.dat)) v) (hz:l.length<=4294967296) :
  Calls prog 168 #[v] w0 (fM w0 G [] fun u G' L'=>bY 187 2 u l.length (mV l) L'):=by
 obtain ⟨A,c,rfl,_,_,-⟩:=hv.slice;obtain ⟨hn,hc1,hc2,hnil,hx⟩:=hv.cells;rw [bK] at *;refine jc (N:=8) (T:=[(0,_)]) func168 M ntmps168 M M hO ?_;intro a H;refine kP H (SR fun _ K1=>aj K1 M (SQ fun _ K2=>SR fun _ K3=>Rm M ?_));clear H K1;intro a H;refine Dg iw H wn M M ?_;clear H;intro a H;refine K3 _ _ ?_;clear K3;refine jL H M ?_ ?_
 ·intro h4
  refine kP H (SR fun _ K4=>aj K4 M ?_);clear H K4;intro a H;refine lr H results168 M ?_
  have e:l=[]:=by simpa using hnil (by simpa using h4)
  subst e;exact H.hp.gQ bY.nil
 intro h4
 try have p4:=dF h4
 refine iD ?_;refine K2 _ _ ?_;clear K2;refine bL (fun _ K5=>?_)
 have hA:¬ A=none:=by intro e;rw [e] at h4;cases h4
 refine oQ ?_;refine Dc iw iK H wn M ?_;clear H;intro b5 a w hb5 H;refine kH H (Rm M ?_);clear H;intro a H
 by_cases hr0:l=[]
 ·subst hr0;refine BK iw iK H wn M M (dS _) M ?_;clear H;intro a H;exact kH H (bF K5 M (LR results168 M fun H=>H.hp.gQ bY.empty))
 obtain ⟨b,o,xs,rfl,hxl,hxc,hx1,fu⟩:=hx (by simpa using hr0);obtain rfl:=aAD fu;refine ny (Li:=[]) (Lo:=[_]) (news:=mV l) iw iK M M H wn M M bY.empty hxl (fun j u hj=>H.hp.aI (hxc j u hj)) hx1 O O M ?_;clear H;intro v7 Lo a w hrow H;rw [gZ,jA] at hrow;exact kH H (bF K5 M (LR results168 M fun H=>H.hp.gQ hrow))
theorem ake {G:GH} {w0:World} (hO:gq G [] w0) (l:List aN) (v:ah) (hv:av G (.sl 2 (l.map aN.dat)) v) (hz:l.length<=4294967296) :
  Calls prog 159 #[v] w0 (fM w0 G [] fun u G' L'=>bY 187 2 u l.length (mV l) L'):=by
 obtain ⟨A,c,rfl,_,_,-⟩:=hv.slice;rw [bK] at *;refine jc (N:=5) (T:=[(0,_)]) func159 M ntmps159 M M hO ?_;intro a H;refine kP H (SR fun _ K1=>aj K1 M (SR fun _ K2=>Rm M ?_));clear H K1;intro a H;refine gW QZ (Li:=[]) (L:=[]) H wn M (apw (Hp.owns (Li:=[]) H.hp) l _ hv hz) M ?_;clear H;rintro v4 G4 L4 a w hrw rD H;dsimp only [List.nil_append] at H;obtain ⟨A4,c4,rfl,-,-⟩:=hrw.shape;exact kH H (aj K2 M (LR results159 M fun H=>H.hp.gQ hrw))
theorem WI:aR 159:=aS func159 M
theorem arW:aR 241:=aS func241 M
theorem aC2:qV prog 187 [(0,1),(1,1)] [.int .i64 0,.int .i64 0]:=⟨V,V⟩
theorem arX:aR 242:=aS func242 M
theorem acE {p:Prop} (h:p:=by
 rw [seg,hA,List.take_append_of_le_length (by rw [<- hA];simp;omega),nZ (by rw [<- hA];simp;omega)]):p:=h
theorem aCj {cur x ys A:List ah} {p q:Nat} (hA:cur.take p=A) (hp:p<=cur.length) (hx:x.length=q) (hl:p+q+ys.length<=cur.length):(seg (seg cur p x) (p+q) ys).take (p+q+ys.length)=A++x++ys∧(seg (seg cur p x) (p+q) ys).length=cur.length:=by
 have h1:(seg cur p x).length=cur.length:=Gw O;refine ⟨?_,by rw [Gw (by rw [h1];omega),h1]⟩
 have h2:(seg cur p x).take (p+q)=A++x:=by
  exact acE
 rw [seg,h2,List.take_append_of_le_length (by rw [<- hA];simp;omega),nZ (by rw [<- hA];simp;omega)]
theorem aCk {cur x ys A:List ah} {p q:Nat} (hA:cur.take p=A) (hp:p<=cur.length) (hx:x.length=q) (hl:p+q+ys.length<=cur.length):(seg (seg cur (p+q) ys) p x).take (p+q+ys.length)=A++x++ys∧(seg (seg cur (p+q) ys) p x).length=cur.length:=by
 have h1:(seg cur (p+q) ys).length=cur.length:=Gw O;refine ⟨?_,by rw [Gw (by rw [h1];omega),h1]⟩
 have h2:(seg cur (p+q) ys).take p=A:=by
  rw [seg,iL,List.take_append_of_le_length (by simp;omega),List.take_take,Nat.min_eq_left O,hA]
 have h3:(seg cur (p+q) ys).drop (p+q)=ys++cur.drop (p+q+ys.length):=by
  rw [seg,iL,List.drop_append_of_le_length (by simp;omega),rU (by simp;omega),jA]
 rw [seg,hx,h2,h3,<- iL,List.take_append_of_le_length (by rw [<- hA];simp;omega),nZ (by rw [<- hA];simp;omega)]
theorem aCi {cur ys A:List ah} {p:Nat} (hA:cur.take p=A) (hl:p+ys.length<=cur.length):(seg cur p ys).take (p+ys.length)=A++ys:=by
 exact acE
theorem aCO {b o lo n c sz o' n' c':Nat} (h:¬ c=lo) (ho:o+lo*sz=o') (hn:n - lo=n') (hc:c - lo=c'):Value.slice (if c=lo then some ⟨b,o,none⟩ else (some ⟨b,o,none⟩:Option Addr).map (·.add (lo*sz))) (n - lo) (c - lo)=.slice (some ⟨b,o',none⟩) n' c':=by
 subst ho hn hc;rw [au h,uT,add_lit]
theorem aco {p:Prop} (h:p:=by
 exact fin H iJ (aCO O O O M)):p:=h
theorem acJ {p:Prop} (h:p:=by
 refine Di iw iK (i+1) H wn M M O O M ?_;clear H;intro a H;exact aco):p:=h
theorem acP {p:Prop} (h:p:=by
 refine Di iw iK i H wn M M M O M ?_;clear H;intro a H;exact aco):p:=h
theorem acX {p:Prop} (h:p:=by
 rw [List.getElem?_drop,<- hct,uS] at hj
 split at hj
 ·exact hj
 cases hj):p:=h
set_option maxHeartbeats 4000000 in
theorem ays (G:GH) (w0:World) (Lo:OL) (hO:gq G Lo w0) (v:ah) (n i:Nat) (xs:List ah) (hrw:bY 187 2 v n xs Lo) (hx1:xs.all Value.oneCell'=true) (hi:i<=n) (hn:n<=4294967296) (bv:Nat) (x0 x1:ah) (hb:G bv=some (.cells #[x0,x1] 187 (0,0))) (h0:x0.oneCell'=true) (h1:x1.oneCell'=true) :
  Calls prog 241 #[v,vi i,.slice (some ⟨bv,0,none⟩) 1 1] w0 (fM w0 G Lo fun u G' L'=>bY 187 2 u (n+1) (xs.take (i*2)++[x0,x1]++xs.drop (i*2)) L'):=by
 have hml:maxLen=9223372036854775807:=rfl;obtain ⟨A,c,rfl,hc1,hc2⟩:=hrw.shape;have hxl:=hrw.1
 have hx2:[x0,x1].all Value.oneCell'=true:=by simp [h0,h1]
 have hgx:∀ {w:World} {G':GH},Hold G' w->(∀ b o,G b=some o->G' b=some o)->∀ j u,[x0,x1][j]?=some u->w.cell? ⟨bv,0+j,none⟩=some u:=fun {w} {G'} hG hm j u hj=>by
  simp [World.cell?,hG _ _ (hm _ _ hb),<- hj]
 refine jc (N:=95) (T:=[(0,_),(1,_),(2,_)]) func241 M ntmps241 M M hO ?_;intro a H;refine kP H (SR fun _ K1=>aj K1 M (SR fun _ K2=>Rm M (Rm M ?_)));clear H K1;intro a H;refine Di iw iK i H wn M M M hi M ?_;clear H;intro a H;refine K2 _ _ ?_;clear K2;refine kP H (SR fun _ K3=>Rm M (Rl iw M (aj K3 M (SQ fun _ K4=>SR fun _ K5=>Rm M (Rc M (Kz K5 (Cd M ?_ ?_))))))) <;> clear H K3 K5
 ·intro h16 a H
  try have p16:=dT h16
  exact absurd p16 Z
 intro h16 a H
 try have p16:=dF h16
 refine kP H (Kc K4 (SR fun _ K6=>Rm M (Rl iw M (aj K6 M (SQ fun _ K7=>SR fun _ K8=>Rm M (Rm M (Rc M (Kz K8 (Cd M ?_ ?_))))))))) <;> clear H K4 K6 K8
 ·intro h22 a H
  try have nk:=dT h22
  refine kP H (SR fun _ K9=>Rm M (Rm M ?_));clear H;intro a H;refine ny (Li:=[]) (Lo:=Lo) (news:=[x0,x1]) iw iK M M H wn M M hrw M (hgx H.ro fun _ _ h=>h) hx2 O O M ?_;clear H;intro v25 aEv a w axr H;dsimp only [List.nil_append] at H;refine kH H (aj K9 M ?_);clear H K9;intro a H;refine lr H results241 M ?_
  exact H.hp.gQ (by
   have e:i=n:=by omega
   have e1:xs.take (i*2)=xs:=nZ O;have e2:xs.drop (i*2)=[]:=rU O
   rw [e1,e2,fG];exact axr)
 intro h22 a H
 try have nk:=dF h22
 have hlt:i < n:=by omega
 obtain ⟨b,cap,cur,he,rfl,-,-,hcs,hct⟩:=hrw.2.resolve_left (fun h=>by omega)
 injection he with e1 e2 e3
 subst e1 e3;obtain ⟨cur,rfl⟩:∃ l:List ah,cur=l.toArray:=⟨cur.toList,by simp⟩
 simp only [List.size_toArray,List.toList_toArray] at hcs hct
 have RU:cur.take (i*2)=xs.take (i*2):=by rw [<- hct,List.take_take,Nat.min_eq_left O]
 have hcd:∀ j u,(xs.drop (i*2))[j]?=some u->cur[i*2+j]?=some u:=fun j u hj=>by
  exact acX
 have avR:∀ j u,(xs.take (i*2))[j]?=some u->cur[j]?=some u:=fun j u hj=>by
  rw [<- RU,uS] at hj
  split at hj
  ·exact hj
  cases hj
 have hyl:(xs.drop (i*2)).length=(n - i)*2:=by rw [List.length_drop,hxl];omega
 have hy1:(xs.drop (i*2)).all Value.oneCell'=true:=jR.2 fun u hu=>jR.1 hx1 u (List.mem_of_mem_drop hu)
 have hbne:bv≠b:=fun e=>by have:=hO.sep (b,_) (List.mem_singleton_self _);rw [<- e,hb] at this;cases this
 refine kP H (Kc K7 (SQ fun _ aT=>SR fun _ bR=>Rm M (Rm M (Rd M (Rm M ?_)))));clear H K7;intro a H;refine aBS iw H wn M M ?_;clear H;intro a H;refine kH H (Rc M (Kz bR (Cd M ?_ ?_))) <;> clear H bR
 ·intro h31 a H
  try have p31:=dT h31
  refine kP H (SR fun _ cu=>Rm M (Rm M ?_));clear H;intro a H;refine Jz iw iK i H wn M M M O M ?_;clear H;intro a H;refine kH H (Rm M (Rm M (Rd M (Rm M (Rs M ?_)))));clear H;intro a H;refine aBO (m:=n+1 - i) iw mX iK M M (xs.take (i*2)) H wn M M O (by rw [List.length_take,hxl];omega) (fun j u hj=>H.hp.uN 0 M (by rw [gZ];simpa using avR j u hj)) O O O O M ?_;clear H;intro b2 cap2 Fe a w hq1 hq2 hq3 hq4 H;rw [show i+(n+1 - i)=n+1 by omega] at hq1 H;refine kH H (aj cu M (SR fun _ dw=>Rm M (Rm M ?_)));clear H cu;intro a H;refine Di iw iK i H wn M M M O M ?_;clear H;intro a H;rw [bU,uT,add_lit,gZ] at H;refine kH H (Rm M ?_);clear H;intro a H;refine TL iw iK 0 1 [x0,x1] H wn M M M O M (hgx H.ro fun _ _ h=>h) (by simp;omega) hx2 rfl ?_;clear H;intro a w H;dsimp only [List.set] at H;obtain ⟨axC,axD⟩:=aCj (x:=[x0,x1]) (ys:=xs.drop (i*2)) (q:=2) hq4 O M (by rw [hyl];omega);refine dw _ _ ?_;clear dw;refine bL (fun _ dB=>?_);refine dI hmx [[],[],[],[1,2],ra 0 4,[],[],[5,6],ra 0 8] [8] V [_,_,_,_,.slice (some ⟨b2,i*2+2,none⟩) (n - i) (cap2 - (i+1)),_,_,.slice (some ⟨b,i*2,none⟩) (n - i) (c - i)] H (aB (Z0 M (Rm M)) (Z0 M (Rm M)) (Z0 M (Rm M)) (Z2 1 47 2 48 M (Rd M)) (aB ?_ (Z0 M (Rm M)) (Z0 M (Rm M)) ?_ (bN (bS M) dz))) ?_
  ·refine eT 0 46 3 49 M M fun _ a w G1 hG HT H fin=>?_;exact acJ
  ·refine eT 5 51 6 52 M M fun _ a w G1 hG HT H fin=>?_;exact acP
  clear H;intro a w G tQ H hv;have H:=H.aM (hv 4 50 M M) M;have H:=H.aM (hv 7 53 M M) M;clear hv;refine TL iw iK 0 (n - i) (xs.drop (i*2)) H wn M M M O hyl (fun j u hj=>H.hp.uN 1 M (by simpa using hcd j u hj)) (by rw [Gw (by simp;omega),hyl];omega) hy1 rfl ?_;clear H;intro a w H;dsimp only [List.set] at H;refine aD ⟨M,?_⟩;refine dB _ _ ?_;clear dB;exact kP H (SR fun _ dX=>Rm M (aj dX M (LR results241 M fun H=>H.hp.lW (L':=[_]) (List.Sublist.cons_cons _ (List.nil_sublist _)) ⟨by simp [List.length_take,hxl,hyl];omega,.inr ⟨b2,cap2,_,rfl,rfl,hq1,hq2,by rw [List.size_toArray,axD,hq3],by rw [List.toList_toArray];rw [<- axC];congr 1;rw [hyl];omega⟩⟩)))
 intro h31 a H
 try have p31:=dF h31
 refine kP H (Kc aT (SR fun _ eu=>Rm M (Rm M (Rm M (Rd M ?_)))));clear H aT;intro a H;refine Jz iw iK (n+1) H wn M M O O M ?_;clear H;intro a H;refine kH H (aj eu M (SQ fun _ dN=>SR fun _ eO=>Rm M (Rm M (Rm M (Rm M (Rd M ?_))))));clear H eu;intro a H;refine Di iw iK (i+1) H wn M M O O M ?_;clear H;intro a H;rw [bU,uT,add_lit,gZ] at H;refine aBY (t:=23) (tr:=4) func262 V V V V iw iK H wn M M (H.ro _ _ hb) (H.hp.own (b,_) (List.mem_singleton_self _)) hbne (by rw [List.size_toArray,hcs];omega) rfl ?_;clear H;intro a H;refine kH H (Rn M (Kz eO (Cd M ?_ ?_))) <;> clear H eO
 ·intro h68 a H
  try have p68:=dT h68
  refine bL (fun _ gD=>?_);refine dI hmx [[],[],[],[1,2],ra 0 4,[],[],[5,6],ra 0 8] [8] V [_,_,_,_,.slice (some ⟨b,i*2+2,none⟩) (n - i) (c - (i+1)),_,_,.slice (some ⟨b,i*2,none⟩) (n+1 - i) (c - i)] H (aB (Z0 M (Rm M)) (Z0 M (Rm M)) (Z0 M (Rm M)) (Z2 1 70 2 71 M (Rd M)) (aB ?_ (Z0 M (Rm M)) (Z0 M (Rm M)) ?_ (bN (bS M) dz))) ?_
  ·refine eT 0 69 3 72 M M fun _ a w G1 hG HT H fin=>?_;exact acJ
  ·refine eT 5 74 6 75 M M fun _ a w G1 hG HT H fin=>?_;exact acP
  clear H;intro a w G Eb H hv;have H:=H.aM (hv 4 73 M M) M;have H:=H.aM (hv 7 76 M M) M;clear hv;refine TL iw iK 0 (n - i) (xs.drop (i*2)) H wn M M M O hyl (fun j u hj=>H.hp.uN 0 M (by simpa using hcd j u hj)) (by rw [hyl];omega) hy1 rfl ?_;clear H;intro a w H;dsimp only [List.set] at H;obtain ⟨axE,axF⟩:=aCk (x:=[x0,x1]) (ys:=xs.drop (i*2)) (q:=2) RU O M (by rw [hyl];omega);refine aD ⟨M,?_⟩;refine gD _ _ ?_;clear gD;refine kP H (SR fun _ fF=>Rm M (Rm M ?_));clear H;intro a H;refine Di iw iK i H wn M M M O M ?_;clear H;intro a H;rw [bU,uT,add_lit,gZ] at H;refine kH H (Rm M ?_);clear H;intro a H;refine TL iw iK 0 1 [x0,x1] H wn M M M O M (hgx H.ro Eb) (by rw [Gw (by rw [hyl];omega)];simp;omega) hx2 rfl ?_;clear H;intro a w H;dsimp only [List.set] at H;refine fF _ _ ?_;clear fF;exact kP H (SR fun _ gK=>Rm M (aj gK M (LR results241 M fun H=>H.hp.gQ ⟨by simp [List.length_take,hxl,hyl];omega,.inr ⟨b,c,_,rfl,rfl,O,hc2,by rw [List.size_toArray,axF,hcs],by rw [List.toList_toArray];rw [<- axE];congr 1;rw [hyl];omega⟩⟩)))
 intro h68 a H
 exact absurd (show true=false from h68) Z
set_option maxHeartbeats 4000000 in
theorem apW (G:GH) (w0:World) (Lo:OL) (hO:gq G Lo w0) (v:ah) (n i:Nat) (xs:List ah) (hrw:bY 187 2 v n xs Lo) (hx1:xs.all Value.oneCell'=true) (hi:i < n) (hn:n<=4294967296) :
  Calls prog 242 #[v,vi i,vi ((i:Int)+1)] w0 (fM w0 G Lo fun u G' L'=>bY 187 2 u (n - 1) (xs.take (i*2)++xs.drop ((i+1)*2)) L'):=by
 have hml:maxLen=9223372036854775807:=rfl;have hxl:=hrw.1;obtain ⟨b,c,cur,rfl,rfl,hc1,hc2,hcs,hct⟩:=hrw.2.resolve_left (fun h=>by omega);obtain ⟨cur,rfl⟩:∃ l:List ah,cur=l.toArray:=⟨cur.toList,by simp⟩
 simp only [List.size_toArray,List.toList_toArray] at hcs hct
 have RU:cur.take (i*2)=xs.take (i*2):=by rw [<- hct,List.take_take,Nat.min_eq_left O]
 have hcd:∀ j u,(xs.drop ((i+1)*2))[j]?=some u->cur[(i+1)*2+j]?=some u:=fun j u hj=>by
  exact acX
 have hyl:(xs.drop ((i+1)*2)).length=(n - (i+1))*2:=by rw [List.length_drop,hxl];omega
 have hy1:(xs.drop ((i+1)*2)).all Value.oneCell'=true:=jR.2 fun u hu=>jR.1 hx1 u (List.mem_of_mem_drop hu)
 obtain ⟨o2,ho2,ho3⟩:∃ o2,(if c=i+1 then some ⟨b,0,none⟩ else (some ⟨b,0,none⟩:Option Addr).map (·.add ((i+1)*2)))=some ⟨b,o2,none⟩∧(i+1 < n->o2=(i+1)*2):=by
  by_cases h:c=i+1
  ·rw [ay h];exact ⟨0,M,fun h=>by omega⟩
  rw [au h,uT,add_lit,gZ];exact ⟨_,M,fun _=>rfl⟩
 have hsd:=aCi (ys:=xs.drop ((i+1)*2)) RU (by rw [hyl];omega);rw [hyl,show i*2+(n - (i+1))*2=(n - 1)*2 by omega] at hsd;refine jc (N:=33) (T:=[(0,_),(1,_),(2,_)]) func242 M ntmps242 M M hO ?_;intro a H;refine kP H (SR fun _ K1=>aj K1 M (SR fun _ K2=>Rm M (Rm M (Rm M (Rm M (Rl iw M ?_))))));clear H K1;intro a H;refine aB3 iw iK i (i+1) n H wn M M M M M O M O O hc1 M ?_;clear H;intro v13 a H;refine K2 _ _ ?_;clear K2;refine kP H (SQ fun _ K3=>SR fun _ K4=>Rm M (Rm M (Rc M (Kz K4 (Cd M ?_ ?_))))) <;> clear H K4
 ·intro h16 a H
  try have p16:=dT h16
  exfalso;omega
 intro h16 a H
 try have p16:=dF h16
 refine kP H (Kc K3 (SR fun _ K5=>Rm M (Rl iw M (aj K5 M (SQ fun _ K6=>?_)))));clear H K3 K5;intro a H;refine dI hmx [[],[],[0,1],[],[],[3,4],ra 0 6,ra 0 7] [6,7] V [_,_,.slice (some ⟨b,0,none⟩) i c,_,_,.slice (some ⟨b,o2,none⟩) (n - (i+1)) (c - (i+1))] H (aB (Z0 M (Rm M)) (Z0 M (Rm M)) ?_ (Z0 M (Rm M)) (aB (Z0 M (Rm M)) ?_ (bS M) (bS M) dz)) ?_
 ·refine eT 0 20 1 21 M M fun _ a w G1 hG HT H fin=>?_;refine Jz iw iK i H wn M M M O M ?_;exact jH
 ·refine eT 3 23 4 24 M M fun _ a w G1 hG HT H fin=>?_;refine Di iw iK (i+1) H wn M M O O M ?_;clear H;intro a H;exact fin H iJ (cO (fun A=>Value.slice A (n - (i+1)) (c - (i+1))) ho2)
 clear H;intro a w G rz H hv;have H:=H.aM (hv 2 22 M M) M;have H:=H.aM (hv 5 25 M M) M;clear hv
 refine aBM iw iK 0 (xs.drop ((i+1)*2)) H wn M M M hyl (fun j u hj=>H.hp.uN 0 M (by
  have hj2:=(jZ.1 hj).1;rw [hyl] at hj2
  rw [ho3 O];simpa using hcd j u hj)) hy1 O (by rw [hyl];omega) rfl ?_;clear H;intro a w H
 dsimp only [List.set] at H;rw [show i+(n - (i+1))=n - 1 by omega] at H;refine kH H (Ra M ?_);clear H;intro a H;refine aD ⟨M,?_⟩;refine K6 _ _ ?_;clear K6;refine kP H (SR fun _ K7=>Rm M (Rm M (Rl iw M (Rm M ?_))));clear H;intro a H;refine akZ iw iK (n - 1) n H wn M M M M M O O M ?_;clear H;intro a H;rw [bU,uT,add_lit,gZ,show n - (n - 1)=1 by omega] at H;refine akQ iw iK M M 0 H wn M M O (by rw [Gw (by rw [hyl];omega)];omega) ?_;clear H;intro c2 w hq1 hq2 H;dsimp only [List.set] at H;refine K7 _ _ ?_;clear K7;exact kP H (SR fun _ K8=>Rm M (aj K8 M (LR results242 M fun H=>H.hp.gQ ⟨by simp [List.length_take,hxl];omega,.inr ⟨b,c,_,rfl,rfl,O,hc2,by rw [List.size_toArray,hq1,Gw (by rw [hyl];omega),hcs],by rw [List.toList_toArray,hq2,hsd]⟩⟩)))
def BM (l:List aN) (k v:Int):List aN:=if qm (l.map aN.key) k=true then l.set (gY (l.map aN.key) k) ⟨(l.getD (gY (l.map aN.key) k) ⟨0,0⟩).key,v⟩ else l.take (gY (l.map aN.key) k)++⟨k,v⟩ :: l.drop (gY (l.map aN.key) k)
def Ba (l:List aN) (k:Int):List aN:=if qm (l.map aN.key) k=true then l.take (gY (l.map aN.key) k)++l.drop (gY (l.map aN.key) k+1) else l
theorem QN (l:List aN) (i:Nat) (h:i<=l.length):(mV l).take (i*2)=mV (l.take i)∧(mV l).drop (i*2)=mV (l.drop i):=by
 have e:mV l=mV (l.take i)++mV (l.drop i):=by rw [<- Nr,List.take_append_drop]
 have hl:(mV (l.take i)).length=i*2:=by rw [Wx,List.length_take,Nat.min_eq_left h]
 rw [e];exact ⟨by rw [List.take_append_of_le_length O,nZ O],by rw [List.drop_append_of_le_length O,rU O,jA]⟩
theorem aeX (l:List aN):(mV l).all Value.oneCell'=true:=by
 rw [jR];intro u hu;obtain ⟨cs,hcs,hu⟩:=List.mem_flatten.1 hu;obtain ⟨p,-,rfl⟩:=List.mem_map.1 hcs
 simp only [aN.cells,gu,List.mem_nil_iff,or_false] at hu
 rcases hu with rfl|rfl <;> rfl
theorem apU (l:List aN) (i:Nat) (h:i < l.length) (v:Int):(mV l).set (i*2+1) (vi v)=mV (l.set i ⟨l[i].key,v⟩):=by
 have e:mV l=mV (l.take i)++([vi l[i].key,vi l[i].value]++mV (l.drop (i+1))):=by
  conv=>lhs;rw [<- List.take_append_drop i l,nK h,Nr]
  rfl
 have hl:(mV (l.take i)).length=i*2:=by rw [Wx,List.length_take,Nat.min_eq_left O]
 rw [e,List.set_append_right _ _ O,hl,show i*2+1 - i*2=1 by omega,show ([vi l[i].key,vi l[i].value]++mV (l.drop (i+1))).set 1 (vi v)=[vi l[i].key,vi v]++mV (l.drop (i+1)) from rfl,List.set_eq_take_append_cons_drop (l:=l),ay h,Nr]
 rfl
theorem acO {p:Prop} (h:p:=by
 have:=RI (ks:=l.map aN.key) (t:=k) (by rw [<- hq];assumption);rw [<- hn] at this;simpa using this):p:=h
set_option maxHeartbeats 1000000 in
theorem aCp (G:GH) (w0:World) (hG:Hold G w0) (l:List aN) (k x:Int) (v:ah) (hv:av G (.sl 2 (l.map aN.dat)) v) (hl:l.length<=4294967295) :
  Calls prog 214 #[v,vi k,vi x] w0 (bE w0 G fun u G'=>av G' (.sl 2 ((BM l k x).map aN.dat)) u):=by
 obtain ⟨A,c,rfl,hc1,hc2,-⟩:=hv.slice;rw [bK] at *;refine eN [(0,_),(1,_),(2,_)] func214 M ntmps214 M M hG ?_;intro a H;refine kP H (SR fun _ K1=>aj K1 M (SR fun _ K2=>Rm M (Rm M ?_)));clear H K1;intro a H;refine s_call WS H wn M (aau _ _ H.ro l k _ hv O) M ?_;clear H;rintro v13 JN a w rfl KY H;obtain ⟨n,hn⟩:∃ n,n=gY (l.map aN.key) k:=⟨_,M⟩;obtain ⟨q,hq⟩:∃ q,q=qm (l.map aN.key) k:=⟨_,M⟩;rw [<- hn,<- hq] at H;refine kH H (Rm M ?_);clear H;intro a H;(iterate 2 refine lJ H wn M M M ?_;clear H;intro a H);refine kH H (Ra M (aj K2 M (SR fun _ K3=>Rm M ?_)));clear H K2;intro a H;refine gW WI (Li:=[]) (L:=[]) H wn M (ake (Hp.owns (Li:=[]) H.hp) l _ (hv.mono KY) O) M ?_;clear H;rintro v17 AB MO a w I4 uJ H;dsimp only [List.nil_append] at H;obtain ⟨Ur,c17,rfl,-,-⟩:=I4.shape;refine kH H (aj K3 M (SQ fun _ K4=>SR fun _ K5=>Rm M (Kz K5 (Cd M ?_ ?_)))) <;> clear H K3 K5
 ·intro h18 a H
  try have BH:=dT h18
  refine bL (fun _ K6=>?_)
  have hlt:n < l.length:=by
   exact acO
  obtain ⟨bb,rfl⟩:=I4.ptr O;obtain ⟨cur,-,rfl,hcur,hset⟩:=I4.set1;refine kP H (SC (Rm M (Rm M (Rm M ?_))));clear H;intro a H;refine yG iw iK n H wn M M M O M ?_;clear H;intro a H;refine kH H (Rf Rb M ?_);clear H;intro a H;refine Mt aF 0 (c:=cur) (vs:=[vi x]) (cur.set (n*2+1) (vi x)) H wn M M M M M M (by simp;omega) (by rw [gZ];rfl) ?_;clear H;intro w H;dsimp only [List.set] at H;have hrwn:=hset (n*2+1) (vi x);rw [apU l n hlt] at hrwn;obtain ⟨G',hm',hrep,H⟩:=St.qh (Li:=[]) H hrwn (rows:=(l.set n ⟨l[n].key,x⟩).map aN.dat) (by simp) (Ti _ _);exact kH H (Kn K6 (SR fun _ K7=>Rm M (aj K7 M (LR results214 M fun H=>H.rt (by rw [BM,ay (by rw [<- hq];assumption),<- hn,List.getD_eq_getElem?_getD,eB hlt];exact hrep)))))
 intro h18 a H
 try have BH:=dF h18
 refine kP H (Kc K4 (SR fun _ K8=>Rm M (Rm M (Rm M (Rm M ?_)))));clear H K4;intro a H;refine jM aC2 [_,_] H wn M M M M ?_;clear H;intro a H;refine iV iw iK [_,_] [_,_] H wn M M M M M (by intro i q h;match i,h with|0,h=>exact h|n+1,h=>simp at h) M M ?_;clear H;intro b30 a w avt H;obtain ⟨Gb,hmb,avu,H⟩:=H.fU;refine gW arW (Li:=[]) (L:=MO) H wn M (ays _ _ MO (Hp.owns (Li:=[]) H.hp) _ l.length n (mV l) I4 (aeX l) (by rw [hn];exact Nat.le_trans (Ib _ _) (by simp)) O b30 (vi k) (vi x) avu M M) M ?_;clear H;rintro v31 G31 L31 a w Sd aFf H;rw [(QN l n (by rw [hn];exact Nat.le_trans (Ib _ _) (by simp))).1,(QN l n (by rw [hn];exact Nat.le_trans (Ib _ _) (by simp))).2] at Sd
 obtain ⟨G',hm',hrep,H⟩:=St.qh (Li:=[]) H Sd (rows:=(l.take n++⟨k,x⟩ :: l.drop n).map aN.dat) (by simp;have:=Ib (l.map aN.key) k;rw [<- hn] at this;simp at this;omega) (by
  have h:dx G31 2 ((l.take n++⟨k,x⟩ :: l.drop n).map aN.dat) (mV (l.take n++⟨k,x⟩ :: l.drop n)):=Ti _ _;rw [Nr] at h
  simpa [mV,aN.cells] using h)
 exact kH H (aj K8 M (LR results214 M fun H=>H.rt (by rw [BM,au (by rw [<- hq];simp_all),<- hn];exact hrep)))
set_option maxHeartbeats 1000000 in
theorem apf (G:GH) (w0:World) (hG:Hold G w0) (l:List aN) (k:Int) (v:ah) (hv:av G (.sl 2 (l.map aN.dat)) v) (hl:l.length<=4294967295) :
  Calls prog 215 #[v,vi k] w0 (bE w0 G fun u G'=>av G' (.sl 2 ((Ba l k).map aN.dat)) u):=by
 obtain ⟨A,c,rfl,hc1,hc2,-⟩:=hv.slice;rw [bK] at *;refine eN [(0,_),(1,_)] func215 M ntmps215 M M hG ?_;intro a H;refine kP H (SR fun _ K1=>aj K1 M (SR fun _ K2=>Rm M (Rm M ?_)));clear H K1;intro a H;refine s_call WS H wn M (aau _ _ H.ro l k _ hv O) M ?_;clear H;rintro v11 yM a w rfl CJ H;obtain ⟨n,hn⟩:∃ n,n=gY (l.map aN.key) k:=⟨_,M⟩;obtain ⟨q,hq⟩:∃ q,q=qm (l.map aN.key) k:=⟨_,M⟩;rw [<- hn,<- hq] at H;refine kH H (Rm M ?_);clear H;intro a H;(iterate 2 refine lJ H wn M M M ?_;clear H;intro a H);refine kH H (Ra M (aj K2 M (SR fun _ K3=>Rm M ?_)));clear H K2;intro a H;refine gW WI (Li:=[]) (L:=[]) H wn M (ake (Hp.owns (Li:=[]) H.hp) l _ (hv.mono CJ) O) M ?_;clear H;rintro v15 GN UG a w YP Ej H;dsimp only [List.nil_append] at H;obtain ⟨A15,c15,rfl,-,-⟩:=YP.shape;refine kH H (aj K3 M (SQ fun _ K4=>SR fun _ K5=>Rm M (Kz K5 (Cd M ?_ ?_)))) <;> clear H K3 K5
 ·intro h16 a H
  try have p16:=dT h16
  have hlt:n < l.length:=by
   exact acO
  refine kP H (SC (Rm M (Rm M (Rm M (Rd M ?_)))));clear H;intro a H;refine gW arX (Li:=[]) (L:=UG) H wn M (apW _ _ UG (Hp.owns (Li:=[]) H.hp) _ l.length n (mV l) YP (aeX l) hlt O) M ?_;clear H;rintro v21 Uw L21 a w aiC CK H;rw [(QN l n O).1,(QN l (n+1) O).2,<- Nr] at aiC;obtain ⟨G',hm',hrep,H⟩:=St.qh (Li:=[]) H aiC (rows:=(l.take n++l.drop (n+1)).map aN.dat) (by simp;omega) (Ti _ _);exact kH H (bF K4 M (SR fun _ K6=>Rm M (aj K6 M (LR results215 M fun H=>H.rt (by rw [Ba,ay (by rw [<- hq];assumption),<- hn];exact hrep)))))
 intro h16 a H
 try have p16:=dF h16
 obtain ⟨G',hm',hrep,H⟩:=St.qh (Li:=[]) H YP (rows:=l.map aN.dat) (by simp) (Ti _ _);exact kP H (Kc K4 (SR fun _ K7=>Rm M (aj K7 M (LR results215 M fun H=>H.rt (by rw [Ba,au (by rw [<- hq];simp_all)];exact hrep)))))
def rX:Nat->List bW->List (Int × List bW)
 | 0,_=>[]
 | _+1,[]=>[]
 | f+1,y :: r=>(y.key,y :: r.takeWhile fun z=>decide (z.key=y.key)) :: rX f (r.dropWhile fun z=>decide (z.key=y.key))
def jh (acc:Int->Bool):List bW->Nat->Nat->Nat
 | [],_,c=>c
 | y :: r,k,c=>jh acc r (k+1) (if acc y.rev=true then k+1 else c)
def uL (rej:Int->Bool) (yI:List (Int × Bool)):List bW->Nat->Int × Bool->List bW × (Int × Bool)
 | [],_,now=>([],now)
 | y :: r,k,now=>if rej y.rev=true then uL rej yI r (k+1) now else
  let q:=uL rej yI r (k+1) (yI.getD (k+1) (0,false))
  (⟨y.rev,y.key,now.1,now.2⟩ :: q.1,q.2)
def qo (props:List aN) (key:Int) (l:List bW):List (Int × Bool):=l.map (fun y=>(y.before,y.had))++[lG props key]
def mO (acc rej:Int->Bool) (props:List aN) (key:Int) (l:List bW):List bW × (Int × Bool) :=
 uL rej (qo props key l) (l.drop (jh acc l 0 0)) (jh acc l 0 0) ((qo props key l).getD (jh acc l 0 0) (0,false))
def vN (l:List aN) (k:Int) (s:Int × Bool):List aN:=if s.2=true then BM l k s.1 else Ba l k
def uq (acc rej:Int->Bool) (props:List aN):List (Int × List bW)->List aN × List bW->List aN × List bW
 | [],s=>s
 | (k,l) :: r,s=>uq acc rej props r (vN s.1 k (mO acc rej props k l).2,s.2++(mO acc rej props k l).1)
def lS (acc rej:Int->Bool) (h:dD):Prop:=(h.marks.ins≠0∧rej h.marks.ins=true)∨∃ x∈h.marks.bD,acc x.rev=true
instance (acc rej:Int->Bool) (h:dD):Decidable (lS acc rej h):=inferInstanceAs (Decidable (_∨_))
def lH (acc:Int->Bool) (h:dD):Prop:=h.marks.ins≠0∧acc h.marks.ins=true
instance (acc:Int->Bool) (h:dD):Decidable (lH acc h):=inferInstanceAs (Decidable (_∧_))
def gL (acc rej:Int->Bool) (h:dD):dD :=
 let q:=uq acc rej h.props (rX h.marks.layers.length h.marks.layers) (h.props,[])
 ⟨q.1,⟨if lH acc h then 0 else h.marks.ins,if lH acc h then 0 else h.marks.move,h.marks.bD.filter fun x=>!rej x.rev,q.2⟩⟩
def Dx:dD:=⟨[],⟨0,0,[],[]⟩⟩
def abw (b:Bool) (h:dD) (u:ah) (G:GH):Prop:=∃ p d l,u=.tuple #[sQ h p d l,.bool b]∧jG G h p d l
theorem aEi (G:GH):jG G Dx (.slice none 0 0) (.slice none 0 0) (.slice none 0 0):=⟨av.uM M Z,av.uM M Z,av.uM M Z⟩
theorem aCm (l:List aN) (k v:Int):(BM l k v).length<=l.length+1:=by
 unfold BM;split
 ·rw [List.length_set];omega
 have:=Ib (l.map aN.key) k;rw [bK] at this
 simp only [gF,List.length_take,kR,List.length_drop];omega
theorem apB (l:List aN) (k:Int):(Ba l k).length<=l.length:=by
 unfold Ba;split
 ·have:=Ib (l.map aN.key) k;rw [bK] at this
  simp only [gF,List.length_take,List.length_drop];omega
 exact dS _
theorem ams (l:List aN) (k:Int) (s:Int × Bool):(vN l k s).length<=l.length+1:=by
 unfold vN;split
 ·exact aCm _ _ _
 have:=apB l k;omega
theorem agR (acc:Int->Bool):∀ (l:List bW) (k c:Nat),c<=k->jh acc l k c<=k+l.length
 | [],k,c,h=>by rw [jh];simpa using h
 | y :: r,k,c,h=>by
  rw [jh]
  have:=agR acc r (k+1) (if acc y.rev=true then k+1 else c) (by split <;> omega)
  simp only [kR];omega
theorem Zq (rej:Int->Bool) (yI:List (Int × Bool)):∀ (l:List bW) (k:Nat) (now:Int × Bool),(uL rej yI l k now).1.length<=l.length
 | [],_,_=>by rw [uL];exact dS _
 | y :: r,k,now=>by
  rw [uL];split
  ·have:=Zq rej yI r (k+1) now;simp only [kR];omega
  have:=Zq rej yI r (k+1) (yI.getD (k+1) (0,false));simp only [kR];omega
theorem Xz (acc rej:Int->Bool) (props:List aN) (key:Int) (l:List bW):(mO acc rej props key l).1.length<=l.length:=by
 have:=Zq rej (qo props key l) (l.drop (jh acc l 0 0)) (jh acc l 0 0) ((qo props key l).getD (jh acc l 0 0) (0,false));rw [List.length_drop] at this
 unfold mO;omega
theorem acK {p:Prop} (h:p:=by
 have:=(List.dropWhile_sublist (l:=r) fun z=>decide (z.key=y.key)).length_le
 simp only [kR] at h;omega):p:=h
theorem Io:∀ (f:Nat) (l:List bW),l.length<=f->(rX f l).flatMap Prod.snd=l∧∀ q∈rX f l,q.2≠[]
 | 0,l,h=>by
  have:l=[]:=List.eq_nil_of_length_eq_zero O;subst this;exact ⟨M,fun q hq=>by cases hq⟩
 | f+1,[],_=>⟨M,fun q hq=>by cases hq⟩
 | f+1,y :: r,h=>by
  have h2:(r.dropWhile fun z=>decide (z.key=y.key)).length<=f:=by
   exact acK
  obtain ⟨e1,e2⟩:=Io f _ h2;rw [rX];refine ⟨?_,fun q hq=>?_⟩
  ·rw [List.flatMap_cons,e1]
   show (y :: _)++_=_
   rw [pR,List.takeWhile_append_dropWhile]
  rcases gu.1 hq with rfl|hq
  ·exact List.cons_ne_nil _ _
  exact e2 q hq
section
theorem Q5:aR 70:=aS func70 M
theorem WO:aR 198:=aS func198 M
theorem NA:aR 72:=aS func72 M
variable {us:List Int}
theorem RX (G:GH) (L:OL) (w0:World) (st:List cK) (li:List fT) (rv:List cB) (b ms ml mr mb mu:Nat) (n:Int) (hck:xK us G st li rv ms ml mr mu) (hO:gq G (iy b ms ml mr mb mu n :: L) w0)
  (e:Int) (h:dD) (p d l:ah) (hh:jG G h p d l) (hz:nH h<=4294967296) :
  Calls prog 70 #[(aH b 0),vi e,sQ h p d l] w0 (fM w0 G (iy b ms ml mr mb mu n :: L) fun v G' L'=>G=G'∧L'=iy b ms ml mr mb mu n :: L∧v=vi (iU (bG us st li rv) e h)):=by
 have hm:=GH.J4 G (o:=(iy b ms ml mr mb mu n).2) (hO.sep _ dV);exact (awg (G.add b (iy b ms ml mr mb mu n).2) w0 hO.add st li rv b ms ml mr mb mu n (hck.mono hm) (GH.J5 _ _ _) e h p d l (hh.mono hm) hz).mono fun _ _=>aA5 (b:=b) (o:=(iy b ms ml mr mb mu n).2) (R':=fun v=>v=vi (iU (bG us st li rv) e h)) hO fun _ _ h=>h
abbrev PE (b ms ml mr mb mu:Nat) (L:OL) (r:CR):ah->OL->Prop:=fun u L'=>∃ s:CS,u=vi r.1∧L'=iy b ms ml mr mb mu s.n :: (mb,fJ (gJ s.bO)) :: L∧(r.1=0->s=r.2)
def JU (us:List Int) (m:Nat):Prop:=∀ (G:GH) (L:OL) (w0:World) (st:List cK) (li:List fT) (rv:List cB) (b ms ml mr mb mu:Nat) (s:CS) (l:List ak) (v:ah) (body note:Bool) (t:Int),
 xK us G st li rv ms ml mr mu->gq G (iy b ms ml mr mb mu s.n :: (mb,fJ (gJ s.bO)) :: L) w0->av G (.sl 11 (l.map ak.dat)) v->bq l < m->0<=t->t<=4->0<=s.n->s.n+(bq l:Nat)<=1099511627776 ->
 Calls prog 72 #[(aH b 0),v,.agg #[.bool body,.bool note,vi t]] w0 (fM w0 G (iy b ms ml mr mb mu s.n :: (mb,fJ (gJ s.bO)) :: L) fun u G' L'=>G=G'∧PE b ms ml mr mb mu L (kr (bG us st li rv) body note t l s) u L')
theorem rows_ok {m:Nat} (ih:JU us m) (hm:m<=4294967296) (Gt:GH) (L:OL) (w0:World) (st:List cK) (li:List fT) (rv:List cB) (b ms ml mr mb mu:Nat) (s:CS) (l:List aO) (v:ah) (note:Bool) (t:Int)
  (hck:xK us Gt st li rv ms ml mr mu) (hO:gq Gt (iy b ms ml mr mb mu s.n :: (mb,fJ (gJ s.bO)) :: L) w0) (hv:av Gt (.sl 6 (l.map aO.dat)) v) (hz:fQ l < m) (ht0:0<=t) (Bv:t<=4) (hs0:0<=s.n) (hs1:s.n+(fQ l:Nat)<=1099511627776) :
  Calls prog 199 #[(aH b 0),v,.agg #[.bool false,.bool note,vi t]] w0 (fM w0 Gt (iy b ms ml mr mb mu s.n :: (mb,fJ (gJ s.bO)) :: L) fun u G' L'=>PE b ms ml mr mb mu L (nQ l.length (fun s=>jm (bG us st li rv) note t l s) s) u L'):=by
 obtain ⟨A,c,rfl,hc1,hc2,hg⟩:=hv.slice;rw [bK] at *;have hll:=JH l;refine jc (N:=77) (T:=[(0,_),(1,_),(2,_)]) func199 M ntmps199 M M hO ?_;intro a H;refine cZ (fun _ K1=>?_);refine dZ (cs:=[_,_,_]) H wn M M M ?_;clear H;intro b5 a w hb5 H;refine kH H (aj K1 M (SQ fun _ K2=>SR fun _ K3=>Rm M (Rl mR M (Rc M (Kz K3 (Cd M ?_ ?_)))))) <;> clear H K1 K3
 ·intro fH a H
  try have oI:=dT fH
  refine bL (fun _ K4=>?_);have hE:nQ l.length (fun s=>jm (bG us st li rv) note t l s) s=(11,s):=jl;exact kP H (SC (bF K4 M (LR results199 M fun H=>H.hp.lW (L':=iy b ms ml mr mb mu s.n :: (mb,fJ (gJ s.bO)) :: L) (by repeat (first|exact kS _|apply List.Sublist.cons)) ⟨s,by rw [hE],M,fun h=>by rw [hE]⟩)))
 intro fH a H
 try have oI:=dF fH
 refine kP H (Kc K2 (SQ fun _ K5=>SR fun _ K6=>Rm M (Rl mR M (Rc M (Kz K6 (Cd M ?_ ?_)))))) <;> clear H K2 K6
 ·intro h20 a H
  try have BI:=dT h20
  refine bL (fun _ K7=>?_)
  have hE:nQ l.length (fun s=>jm (bG us st li rv) note t l s) s=(9,s):=by rw [nQ,bU,jl]
  exact kP H (SC (bF K7 M (LR results199 M fun H=>H.hp.lW (L':=iy b ms ml mr mb mu s.n :: (mb,fJ (gJ s.bO)) :: L) (by repeat (first|exact kS _|apply List.Sublist.cons)) ⟨s,by rw [hE],M,fun h=>by rw [hE]⟩)))
 intro h20 a H
 try have BI:=dF h20
 refine kP H (Kc K5 (SQ fun _ K8=>SQ fun _ K9=>?_));clear H K5;intro a H
 have hE:nQ l.length (fun s=>jm (bG us st li rv) note t l s) s=jm (bG us st li rv) note t l s:=by rw [nQ,bU,bU]
 refine kP H (SC (Rm M (Rl mR M (Rm M (Kn K9 (SB ?_))))));clear H K9;intro a H;skip;refine fD (ι:=Nat × CS × GH) (Tc:=[(0,_),(5,_),(21,_),(22,_)]) (Lc:=[(_,_)]) (fun gh=>[(23,vi gh.1)]) (fun gh=>[iy b ms ml mr mb mu gh.2.1.n,(mb,fJ (gJ gh.2.1.bO))]++L) (fun gh=>gh.2.2) (fun gh=>gh.1<=l.length∧(∀ b o,Gt b=some o->gh.2.2 b=some o)∧jm (bG us st li rv) note t l s=jm (bG us st li rv) note t (l.drop gh.1) gh.2.1∧0<=gh.2.1.n∧gh.2.1.n+(fQ (l.drop gh.1):Nat)<=1099511627776) (fun gh=>l.length - gh.1) ((0,s,Gt)) (by exact H.sub ⟨M,M,M,M,M,aC⟩) ?_ ?_
 ·exact ⟨kY _,fun _ _ h=>h,M,hs0,hs1⟩
 clear H;rintro ⟨k,s1,g⟩ a w hI H;dsimp only at hI H;obtain ⟨hk,hgm,hR,hn0,hn1⟩:=hI;dsimp only [lca,bM] at H;refine kP H (SR fun _ aT=>Rc M (Kz aT (SQ fun _ bR=>Cd M ?_ ?_))) <;> clear H aT
 ·intro fV a H
  try have pJ:=dT fV
  have hk2:k < l.length:=by omega
  have hsz:=Ul hk2;have hcs:=JG l[k].cells
  have hdz:fQ (l.drop k)=1+bX l[k].dat+fQ (l.drop (k+1)):=by simp only [fQ];rw [nK hk2,dO,dM]
  have hrz:=zP l[k];obtain ⟨xb,xo,qA,qn,qc,eA,en,ec,zA,zn,zc,cA,cn,cc,rfl,hrow,FR,hcl⟩:=OW hk2 hg;replace hrow:=fun j u hj=>aG hgm (hrow j u hj);replace FR:=FR.mono hgm;replace hcl:=hcl.mono hgm;have hcn:=hcl.len;rw [bK] at hcn;subst hcn;have avO:=hck.mono hgm;rw [nK hk2,jm,Tx] at hR;refine kP H (Kc bR (SQ fun _ cu=>SB (SR fun _ dw=>Ri mR jO M M ?_)));clear H bR;intro a H;refine bQ jO (cs:=[_,_,_,_,_,_]) H wn M M (fun j v hj=>H.hp.aI (hrow j v hj)) M ?_;clear H;intro a H;refine dW jO H wn M ?_;clear H;intro b8 a w RN H;refine bJ jO 0 (vs:=[_,_,_,_,_,_]) H wn M ?_;clear H;intro w H;refine dw _ _ ?_;clear dw;refine bL (fun _ dB=>?_);refine bL (fun _ dX=>?_);refine dI hmx [[],[],[1],[0,1,2],[],[4],[4,5],[4,5,6],ra 0 8,[],[9],[9,10],[9,10,11],ra 0 13,ra 0 14,ra 0 15,ra 0 16] [14,15,16] V [_,_,sQ l[k].head (.slice qA qn qc) (.slice eA en ec) (.slice zA zn zc),vi (iU (bG us st li rv) 9 l[k].head),_,.slice cA l[k].cells.length cc,_,_,vi (dH (decide ((l[k].cells.length:Int)=0)) 11),_,.slice cA l[k].cells.length cc,_,_,vi (dH (decide (32 < (l[k].cells.length:Int))) 9)] H (aB (Z0 M (Rm M)) (Z0 M (Rf KN M)) ?_ ?_ (aB (Z0 M (Rf wm M)) (Z1 4 31 M (Ro wL 0 M)) (Z1 5 32 M (Rl oK M)) (Z1 6 33 M (Rc M)) (aB ?_ (Z0 M (Rf wm M)) (Z1 9 36 M (Ro wL 0 M)) (Z1 10 37 M (Rl oK M)) (aB (Z1 11 38 M (Rc M)) ?_ (bS M) (bS M) (bN (bS M) dz))))) ?_
  ·refine iO 1 28 M M fun _ a w G1 hG HT H fin=>?_;refine bQ gB (cs:=[_,_,_,_,_]) H wn M M (H.hp.dG 0 M M) M ?_;exact jH
  ·refine eT 0 27 2 29 M M fun _ a w G1 hG HT H fin=>?_;refine gW Q5 (Li:=[_,_]) (L:=iy b ms ml mr mb mu s1.n :: (mb,fJ (gJ s1.bO)) :: L) H wn M (RX _ _ _ st li rv b ms ml mr mb mu _ (avO.mono hG) (Hp.owns (Li:=[_,_]) H.hp) 9 l[k].head _ _ _ (FR.mono hG) O) M ?_;clear H;rintro v30 _ _ a w ⟨rfl,rfl,rfl⟩ NV H;dsimp only [lca,bM] at H;exact fin H NV (rfl)
  ·refine iO 7 34 M M fun _ a w G1 hG HT H fin=>?_;refine s_call mZ H wn M (nG _ _ H.ro _ 11) M ?_;clear H;rintro v35 G35 a w ⟨rfl,-⟩ XV H;exact fin H XV (rfl)
  ·refine iO 12 39 M M fun _ a w G1 hG HT H fin=>?_;refine s_call mZ H wn M (nG _ _ H.ro _ 9) M ?_;clear H;rintro v40 ML a w ⟨rfl,-⟩ auK H;exact fin H auK (rfl)
  clear H;intro a w G wz H hv;have H:=H.aM (hv 3 30 M M) M;have H:=H.aM (hv 8 35 M M) M;have H:=H.aM (hv 13 40 M M) M;clear hv;refine iV sH jE [_,_,_] [_,_,_] H wn M M M M M (by intro i q h;match i,h with|0,h=>exact h|1,h=>exact h|2,h=>exact h|n+3,h=>simp at h) M M ?_;clear H;intro b41 a w aET H;obtain ⟨JO,xg,avw,H⟩:=H.fU;have ahE:∀ b o,Gt b=some o->JO b=some o:=fun b o h=>xg _ _ (wz _ _ (hgm _ _ h));refine s_call tK H wn M (tN _ _ H.ro _ _ (Ja [iU (bG us st li rv) 9 l[k].head,dH (decide ((l[k].cells.length:Int)=0)) 11,dH (decide (32 < (l[k].cells.length:Int))) 9] avw (show 3<=maxLen by decide))) rfl ?_;clear H;rintro v42 _ a w ⟨rfl,rfl⟩ - H;refine kH H (Ra M ?_);clear H;intro a H;refine aD ⟨M,?_⟩;refine dX _ _ ?_;clear dX;refine kP H (SR fun _ eu=>Rm M (Rc M (Kz eu (Cd M ?_ ?_)))) <;> clear H eu
  ·intro D6 a H
   try have p44:=dT D6
   have e44:Ez (bG us st li rv) l[k].head l[k].cells.length≠0:=p44
   have hF1:(nQ l.length (fun s=>jm (bG us st li rv) note t l s) s).1=Ez (bG us st li rv) l[k].head l[k].cells.length:=by rw [hE,hR,Qf (r:=(Ez (bG us st li rv) l[k].head l[k].cells.length,s1)) e44,Qf e44]
   have hF2:(nQ l.length (fun s=>jm (bG us st li rv) note t l s) s).1=0->s1=(nQ l.length (fun s=>jm (bG us st li rv) note t l s) s).2:=fun h=>absurd (hF1.symm.trans h) e44;exact kP H (SR fun _ dN=>Rm M (aj dN M (LR results199 M fun H=>H.hp.lW (L':=iy b ms ml mr mb mu s1.n :: (mb,fJ (gJ s1.bO)) :: L) (by repeat (first|exact kS _|apply List.Sublist.cons)) ⟨s1,cO vi hF1.symm,M,hF2⟩)))
  intro D6 a H
  try have p44:=dF D6
  have e44:Ez (bG us st li rv) l[k].head l[k].cells.length=0:=oD.1 p44;rw [J7 (r:=(Ez (bG us st li rv) l[k].head l[k].cells.length,s1)) e44] at hR;dsimp only at hR;have avP:=hck.mono ahE;replace hcl:=hcl.mono (fun b o h=>xg _ _ (wz b o h));refine kP H (Kc dB (SR fun _ eO=>bC wm wL 0 M M (Rl oK M (Rm M (Kz eO (SB ?_))))));clear H dB eO;intro a H;skip;refine fD (ι:=Nat × CS × GH) (Tc:=[(0,_),(5,_),(21,_),(22,_),(23,_),(47,_),(48,_)]) (Lc:=[(_,_),(_,_)]) (fun gh=>[(49,vi gh.1)]) (fun gh=>[iy b ms ml mr mb mu gh.2.1.n,(mb,fJ (gJ gh.2.1.bO))]++L) (fun gh=>gh.2.2) (fun gh=>gh.1<=l[k].cells.length∧(∀ b o,JO b=some o->gh.2.2 b=some o)∧jm (bG us st li rv) note t l s=iZ (rV (bG us st li rv) note t (l[k].cells.drop gh.1) gh.2.1) (fun s=>jm (bG us st li rv) note t (l.drop (k+1)) s)∧0<=gh.2.1.n∧gh.2.1.n+(gH (l[k].cells.drop gh.1):Nat)+(fQ (l.drop (k+1)):Nat)<=1099511627776) (fun gh=>l[k].cells.length - gh.1) ((0,s1,JO)) (by exact H.sub ⟨M,M,M,M,M,M,M,M,aC⟩) ?_ ?_
  ·exact ⟨kY _,fun _ _ h=>h,hR,hn0,by dsimp only;rw [uX];omega⟩
  clear H;rintro ⟨c,s2,g2⟩ a w hI H;dsimp only at hI H;obtain ⟨hc,RY,hR2,hm0,hm1⟩:=hI;have jW:=fun b o h=>RY b o (ahE b o h);dsimp only [lca,bM] at H;refine kP H (SR fun _ gD=>Rc M (Kz gD (SQ fun _ fF=>Cd M ?_ ?_))) <;> clear H gD
  ·intro h50 a H
   try have p50:=dT h50
   have hk4:c < l[k].cells.length:=by omega
   have axI:=Uj hk4
   have avY:gH (l[k].cells.drop c)=1+bX l[k].cells[c].dat+gH (l[k].cells.drop (c+1)):=by simp only [gH];rw [nK hk4,dO,dM]
   have hcz:=zO l[k].cells[c];obtain ⟨b3',o3,sA,sn,sc,tA,tn,tc,uA,un,uc,gA,gn,gc,rfl,hrow,hch,hcf⟩:=Ky hk4 (hcl.mono RY).at_;have Yd:=avP.mono RY;rw [nK hk4,rV,QF] at hR2;obtain ⟨y,hy⟩:∃ y,y=l[k].cells[c]:=⟨_,M⟩;rw [<- hy] at hR2 hrow hch hcf hcz axI avY;refine kP H (Kc fF (SQ fun _ gK=>SB (SR fun _ jg=>Ri oK kL M M ?_)));clear H fF;intro a H;refine bQ kL (cs:=[_,_,_,_,_,_,_]) H wn M M (fun j v hj=>H.hp.aI (hrow j v hj)) M ?_;clear H;intro a H;refine dW kL H wn M ?_;clear H;intro b11 a w KV H;refine bJ kL 0 (vs:=[_,_,_,_,_,_,_]) H wn M ?_;clear H;intro w H;refine jg _ _ ?_;clear jg;refine kP H (SQ fun _ kX=>SR fun _ kQ=>Rm M (bC NK aF 0 M M ?_));clear H;intro a H;refine gW WO (Li:=[_,_,_]) (L:=iy b ms ml mr mb mu s2.n :: (mb,fJ (gJ s2.bO)) :: L) H wn M (Wo _ _ _ st li rv b ms ml mr mb mu _ s2.bO y.id Yd (Hp.owns (Li:=[_,_,_]) H.hp)) M ?_;clear H;rintro v56 _ _ a w ⟨rfl,rfl,rfl⟩ - H;dsimp only [lca,bM] at H;refine kH H (aj kQ M (SR fun _ jP=>Rm M (Rc M (Kz jP (Cd M ?_ ?_))))) <;> clear H kQ jP
   ·intro mH a H
    try have p58:=dT mH
    have hF1:(nQ l.length (fun s=>jm (bG us st li rv) note t l s) s).1=sj us s2.bO y.id:=by rw [hE,hR2];simp [iZ,pq,p58]
    have hF2:(nQ l.length (fun s=>jm (bG us st li rv) note t l s) s).1=0->(⟨s2.n,oq us s2.bO y.id⟩:CS)=(nQ l.length (fun s=>jm (bG us st li rv) note t l s) s).2:=fun h=>absurd (hF1.symm.trans h) p58;exact kP H (SR fun _ mE=>Rm M (aj mE M (LR results199 M fun H=>H.hp.lW (L':=iy b ms ml mr mb mu s2.n :: (mb,fJ (gJ (oq us s2.bO y.id))) :: L) (by repeat (first|exact kS _|apply List.Sublist.cons)) ⟨⟨s2.n,oq us s2.bO y.id⟩,cO vi hF1.symm,M,hF2⟩)))
   intro mH a H
   try have p58:=dF mH
   have e58:sj us s2.bO y.id=0:=oD.1 p58;refine kP H (Kc kX (SQ fun _ mF=>SR fun _ jQ=>Rm M (Rf Ii M ?_)));clear H kX;intro a H;refine bQ gB (cs:=[_,_,_,_,_]) H wn M M (H.hp.dG 0 M M) M ?_;clear H;intro a H;refine gW Q5 (Li:=[_,_,_]) (L:=iy b ms ml mr mb mu s2.n :: (mb,fJ (gJ (oq us s2.bO y.id))) :: L) H wn M (RX _ _ _ st li rv b ms ml mr mb mu _ Yd (Hp.owns (Li:=[_,_,_]) H.hp) 10 y.head _ _ _ hch O) M ?_;clear H;rintro v63 _ _ a w ⟨rfl,rfl,rfl⟩ - H;dsimp only [lca,bM] at H;refine kH H (aj jQ M (SR fun _ oM=>Rm M (Rc M (Kz oM (Cd M ?_ ?_))))) <;> clear H jQ oM
   ·intro vo a H
    try have p65:=dT vo
    have hF1:(nQ l.length (fun s=>jm (bG us st li rv) note t l s) s).1=iU (bG us st li rv) 10 y.head:=by rw [hE,hR2];simp [iZ,pq,e58,p65]
    have hF2:(nQ l.length (fun s=>jm (bG us st li rv) note t l s) s).1=0->(⟨s2.n,oq us s2.bO y.id⟩:CS)=(nQ l.length (fun s=>jm (bG us st li rv) note t l s) s).2:=fun h=>absurd (hF1.symm.trans h) p65;exact kP H (SR fun _ pQ=>Rm M (aj pQ M (LR results199 M fun H=>H.hp.lW (L':=iy b ms ml mr mb mu s2.n :: (mb,fJ (gJ (oq us s2.bO y.id))) :: L) (by repeat (first|exact kS _|apply List.Sublist.cons)) ⟨⟨s2.n,oq us s2.bO y.id⟩,cO vi hF1.symm,M,hF2⟩)))
   intro vo a H
   try have p65:=dF vo
   have e65:iU (bG us st li rv) 10 y.head=0:=oD.1 p65;refine kP H (Kc mF (SR fun _ oN=>Rm M (bC Ij jy 0 M M ?_)));clear H mF;intro a H;refine bQ TV (cs:=[_,_,_]) H wn M M (H.hp.dG 2 M M) M ?_;clear H;intro a H;refine gW NA (Li:=[_,_,_]) (L:=iy b ms ml mr mb mu s2.n :: (mb,fJ (gJ (oq us s2.bO y.id))) :: L) H wn M (ih _ _ _ st li rv b ms ml mr mb mu ⟨s2.n,oq us s2.bO y.id⟩ y.flow _ false note t Yd (Hp.owns (Li:=[_,_,_]) H.hp) hcf O ht0 Bv hm0 (by dsimp only;omega)) rfl ?_;clear H;rintro v71 _ _ a w ⟨rfl,s3,rfl,rfl,h3⟩ - H;dsimp only [lca,bM] at H;refine kH H (aj oN M (SR fun _ qz=>Rm M (Rc M (Kz qz (Cd M ?_ ?_))))) <;> clear H oN qz
   ·intro Iu a H
    try have p73:=dT Iu
    have hF1:(nQ l.length (fun s=>jm (bG us st li rv) note t l s) s).1=(kr (bG us st li rv) false note t y.flow ⟨s2.n,oq us s2.bO y.id⟩).1:=by rw [hE,hR2];simp [iZ,pq,e58,e65,p73]
    have hF2:(nQ l.length (fun s=>jm (bG us st li rv) note t l s) s).1=0->s3=(nQ l.length (fun s=>jm (bG us st li rv) note t l s) s).2:=fun h=>absurd (hF1.symm.trans h) p73;exact kP H (SR fun _ pW=>Rm M (aj pW M (LR results199 M fun H=>H.hp.lW (L':=iy b ms ml mr mb mu s3.n :: (mb,fJ (gJ s3.bO)) :: L) (by repeat (first|exact kS _|apply List.Sublist.cons)) ⟨s3,cO vi hF1.symm,M,hF2⟩)))
   intro Iu a H
   try have p73:=dF Iu
   have WG:(kr (bG us st li rv) false note t y.flow ⟨s2.n,oq us s2.bO y.id⟩).1=0:=oD.1 p73;obtain ⟨hu1,hu2⟩:=Ub (bG us st li rv) false note t y.flow ⟨s2.n,oq us s2.bO y.id⟩;rw [<- h3 WG] at hu1 hu2;dsimp only at hu1 hu2
   have hS:iZ (iZ (iZ (pq (bG us st li rv) s2 y.id) fun s=>iZ (iU (bG us st li rv) 10 y.head,s) fun s=>kr (bG us st li rv) false note t y.flow s) fun s=>rV (bG us st li rv) note t (l[k].cells.drop (c+1)) s) (fun s=>jm (bG us st li rv) note t (l.drop (k+1)) s)=iZ (rV (bG us st li rv) note t (l[k].cells.drop (c+1)) s3) (fun s=>jm (bG us st li rv) note t (l.drop (k+1)) s):=by
    rw [h3 WG];simp [iZ,pq,e58,e65,WG]
   refine kP H (Kc gK (SC (Rd M (Rm M ?_))));clear H gK;intro a H;refine aD ?_;refine dQ ((c+1,s3,g2)) (by exact (H.eD (Pl:=[_,_,_,_,_]) (dK:=[_,_,_,_]) [1,2,3,4] Z M).sub ⟨M,M,M,M,M,M,M,M,aC⟩) ?_
   (try dsimp only);exact ⟨O,RY,hR2.trans hS,O,O⟩
  intro h50 a H
  try have p50:=dF h50
  refine dY ?_;refine cu _ _ ?_;clear cu;refine kP H (SC (Rd M (Rm M ?_)));clear H;intro a H;refine aD ?_;refine dQ ((k+1,s2,g2)) (by exact (H.eD (Pl:=[_,_,_,_]) (dK:=[_,_,_]) [1,2,3] Z M).sub ⟨M,M,M,M,M,aC⟩) ?_
  (try dsimp only);exact ⟨O,jW,by rw [hR2,rU O,rV,J7 M],hm0,O⟩
 intro fV a H
 try have pJ:=dF fV
 refine dY ?_;refine K8 _ _ ?_;clear K8;refine bL (fun _ qR=>?_)
 have hF1:(nQ l.length (fun s=>jm (bG us st li rv) note t l s) s).1=0:=by rw [hE,hR,rU O,jm]
 have hF2:(nQ l.length (fun s=>jm (bG us st li rv) note t l s) s).1=0->s1=(nQ l.length (fun s=>jm (bG us st li rv) note t l s) s).2:=fun h=>by rw [hE,hR,rU O,jm]
 exact kP H (SC (bF qR M (LR results199 M fun H=>H.hp.lW (L':=iy b ms ml mr mb mu s1.n :: (mb,fJ (gJ s1.bO)) :: L) (by repeat (first|exact kS _|apply List.Sublist.cons)) ⟨s1,cO vi hF1.symm,M,hF2⟩)))
end
section
theorem arF:aR 199:=aS func199 M
theorem arE:aR 196:=aS func196 M
theorem Ih:dR prog 133 5 5:=⟨V⟩
theorem aty:dR prog 129 0 0:=⟨V⟩
variable {us:List Int}
theorem aAd {G:GH} {b:Nat} {x:Int} (h:G b=some (.cells #[vi x] 49 (0,0))):av G (.sl 1 ([x].map fun k=>[li k])) (.slice (some ⟨b,0,none⟩) 1 1):=Ja [x] h (show 1<=maxLen by decide)
theorem Vn {p:Prop} (h:p:=by
 (try dsimp only)
 first
 | exact ⟨by simp_all [tq,dH,iZ,pq],fun _ _ h=>h,M,fun h7=>by first|omega|(exfalso;simp_all)⟩
 | exact ⟨by simp_all [tq,dH,iZ,pq],Br,M,fun h7=>by first|omega|(exfalso;simp_all)⟩):p:=h
theorem VA {p:Prop} (h:p:=by
 refine ⟨(⟨s.n+(jo x:Nat),s.bO⟩,Gt),by exact H.sub ⟨M,M,M,aC⟩,?_⟩;exact Vn):p:=h
theorem ayx {m:Nat} (ih:JU us m) (hm:m<=4294967296) (Gt:GH) (L:OL) (w0:World) (st:List cK) (li:List fT) (rv:List cB) (b ms ml mr mb mu:Nat) (s:CS) (x:ak) (p d y f r:ah) (body note:Bool) (t:Int)
  (hck:xK us Gt st li rv ms ml mr mu) (hO:gq Gt (iy b ms ml mr mb mu s.n :: (mb,fJ (gJ s.bO)) :: L) w0) (hh:jG Gt x.head p d y) (hf:av Gt (.sl 11 (x.flow.map ak.dat)) f) (hr:av Gt (.sl 6 (x.rows.map aO.dat)) r) (hz:bX x.dat<=m) (ht0:0<=t) (Bv:t<=4) (hs0:0<=s.n) (hs1:s.n+(bX x.dat:Nat)<=1099511627776) :
  Calls prog 134 #[(aH b 0),.agg #[vi x.kind,vi x.code,vi x.id,.string x.text,p,vi x.head.marks.ins,vi x.head.marks.move,d,y,f,r],.agg #[.bool body,.bool note,vi t]] w0 (fM w0 Gt (iy b ms ml mr mb mu s.n :: (mb,fJ (gJ s.bO)) :: L) fun u G' L'=>PE b ms ml mr mb mu L (fO (bG us st li rv) body note t x s) u L'):=by
 obtain ⟨pA,pn,pc,rfl⟩:=hh.props.form;obtain ⟨dA,dn,dc,rfl⟩:=hh.bD.form;obtain ⟨lA,ln,lc,rfl⟩:=hh.layers.form;obtain ⟨fA,fc,rfl,-⟩:=hf.slice;obtain ⟨rA,rc,rfl,-⟩:=hr.slice;(iterate 2 rw [bK] at *);have hxz:=uP x;have hcl:=QL x.text
 have hus:jo x<=x.text.size+1:=by unfold jo;split <;> omega
 have hE:=aiV (bG us st li rv) body note t x s;refine jc (N:=117) (T:=[(0,_),(1,_),(2,_)]) func134 M ntmps134 M M hO ?_;intro a H;refine cZ (fun _ K1=>?_);refine dZ (cs:=[_,_,_,_,_,_,_,_,_,_,_]) H wn M M M ?_;clear H;intro b4 a w hb4 H;refine dZ (cs:=[_,_,_]) H wn M M M ?_;clear H;intro b5 a w hb5 H;refine kH H (aj K1 M (SQ fun _ K2=>SR fun _ K3=>?_));clear H K1;intro a H;refine bQ eZ (cs:=[_,_,_,_,_,_,_,_,_,_,_]) H wn M M (H.hp.dG 1 M M) M ?_;clear H;intro a H;refine s_call arE H wn M (aui _ _ H.ro x _ _ _ _ _ _ _ O) M ?_;clear H;rintro v15 _ a w ⟨rfl,rfl⟩ - H;refine kH H (aj K3 M (SR fun _ K4=>Rm M (Rc M (Kz K4 (Cd M ?_ ?_))))) <;> clear H K3 K4
 ·intro fH a H
  try have oI:=dT fH
  rw [Qf (r:=(kZ x,s)) oI] at hE;exact kP H (SR fun _ K5=>Rm M (aj K5 M (LR results134 M fun H=>H.hp.lW (L':=iy b ms ml mr mb mu s.n :: (mb,fJ (gJ s.bO)) :: L) (by repeat (first|exact kS _|apply List.Sublist.cons)) ⟨s,by rw [hE],M,fun h=>by rw [hE]⟩)))
 intro fH a H
 try have oI:=dF fH
 rw [J7 (r:=(kZ x,s)) (oD.1 oI)] at hE;dsimp only at hE;refine kP H (Kc K2 (SR fun _ K6=>Rm M (Rk M (bC Ih aF 2 M M (Rd M (Rk M (Rf Ih M ?_)))))));clear H K2;intro a H;refine bJ aF 2 (vs:=[_]) H wn M ?_;clear H;intro w H;refine K6 _ _ ?_;clear K6;refine uo (ι:=CS × GH) (Tc:=[(0,_),(4,_),(5,_)]) (Lc:=[(_,_),(_,_)]) (fun gh=>[]) (fun gh=>[iy b ms ml mr mb mu gh.1.n,(mb,fJ (gJ gh.1.bO))]++L) (fun gh=>gh.2) (fun gh=>tq (bG us st li rv) body note t x.kind x.id ⟨s.n+(jo x:Nat),s.bO⟩=(0,gh.1)∧(∀ b o,Gt b=some o->gh.2 b=some o)∧gh.1.n=s.n+(jo x:Nat)∧(x.kind=7->t < 4)) (by exact H.sub ⟨M,M,M,aC⟩) ?_ ?_
 ·skip;refine kP H (SR fun _ K7=>bC kF aF 1 M M (Kz K7 (SB (SR fun _ K8=>Rc M (aj K8 M (Cd M ?_ ?_)))))) <;> clear H K7 K8
  ·intro gG a H
   try have p28:=dT gG
   have hu:((jo x:Nat):Int)=oU x.text:=by rw [jo,ay p28]
   refine kP H (SR fun _ K9=>bC wh jf 1 M M ?_);clear H;intro a H;refine s_call afI H wn M (aeV _ _ H.ro x.text O) M ?_;clear H;rintro v33 _ a w ⟨rfl,rfl⟩ - H;refine kH H (Rm M ?_);clear H;intro a H;(iterate 2 refine lJ H wn M M M ?_;clear H;intro a H);refine kH H (Ra M (aj K9 M (SC (Rm M (Rk M (bC Ih aF 2 M M (Rm M (Rs M (Rd M ?_)))))))));clear H K9;intro a H;rw [show s.n+1+((oU x.text:Int) - 1)=s.n+(jo x:Nat) by omega] at H;refine kH H (Rk M (Rf Ih M ?_));clear H;intro a H;refine bJ aF 2 (vs:=[_]) H wn M ?_;clear H;intro w H;refine aD ?_;exact VA
  intro gG a H
  try have p28:=dF gG
  have hu:((jo x:Nat):Int)=1:=by rw [jo,au p28];rfl
  rw [show s.n+1=s.n+((jo x:Nat):Int) by omega] at H;refine kP H (SR fun _ aT=>Rc M (aj aT M (Cd M ?_ ?_))) <;> clear H aT
  ·intro h45 a H
   try have p45:=dT h45
   refine kP H (SR fun _ bR=>bC aty ug 0 M M (Rn M (Kz bR (Cd M ?_ ?_)))) <;> clear H bR
   ·intro Fx a H
    try have p49:=dT Fx
    refine bL (fun _ cu=>?_)
    have hF1:(fO (bG us st li rv) body note t x s).1=19:=by rw [hE];simp [iZ,tq,p45,dH,Fx]
    have hF2:(fO (bG us st li rv) body note t x s).1=0->(⟨s.n+(jo x:Nat),s.bO⟩:CS)=(fO (bG us st li rv) body note t x s).2:=fun h=>absurd (hF1.symm.trans h) Z;exact kP H (SC (bF cu M (LR results134 M fun H=>H.hp.lW (L':=iy b ms ml mr mb mu (s.n+(jo x:Nat)) :: (mb,fJ (gJ (s.bO))) :: L) (by repeat (first|exact kS _|apply List.Sublist.cons)) ⟨⟨s.n+(jo x:Nat),s.bO⟩,cO vi hF1.symm,M,hF2⟩)))
   intro Fx a H
   try have p49:=dF Fx
   refine iD ?_;exact VA
  intro h45 a H
  try have p45:=dF h45
  refine kP H (SR fun _ dw=>Rc M (aj dw M (Cd M ?_ ?_))) <;> clear H dw
  ·intro h50 a H
   try have p50:=dT h50
   refine kP H (SQ fun _ dB=>SR fun _ dX=>bC Xb ug 0 M M ?_);clear H;intro a H;refine s_call mZ H wn M (nG _ _ H.ro _ 19) M ?_;clear H;rintro v54 _ a w ⟨rfl,rfl⟩ - H;refine iV sH jE [_] [_] H wn M M M M M (by intro i q h;match i,h with|0,h=>exact h|n+1,h=>simp at h) M M ?_;clear H;intro b55 a w aEW H;obtain ⟨PS,Br,avx,H⟩:=H.fU;refine s_call tK H wn M (tN _ _ H.ro _ _ (aAd avx)) M ?_;clear H;rintro v56 _ a w ⟨rfl,rfl⟩ - H;refine kH H (aj dX M (SR fun _ eu=>Rm M (Rc M (Kz eu (Cd M ?_ ?_))))) <;> clear H dX eu
   ·intro mH a H
    try have p58:=dT mH
    have e58:dH note 19≠0:=fun h=>p58 (by rw [h];rfl)
    have ayc:eG [dH note 19]=dH note 19:=by simp [eG,e58]
    rw [ayc] at H
    have hF1:(fO (bG us st li rv) body note t x s).1=dH note 19:=by rw [hE];simp [iZ,tq,p50,e58]
    have hF2:(fO (bG us st li rv) body note t x s).1=0->(⟨s.n+(jo x:Nat),s.bO⟩:CS)=(fO (bG us st li rv) body note t x s).2:=fun h=>absurd (hF1.symm.trans h) (e58);exact kP H (SR fun _ dN=>Rm M (aj dN M (LR results134 M fun H=>H.hp.lW (L':=iy b ms ml mr mb mu (s.n+(jo x:Nat)) :: (mb,fJ (gJ (s.bO))) :: L) (by repeat (first|exact kS _|apply List.Sublist.cons)) ⟨⟨s.n+(jo x:Nat),s.bO⟩,cO vi hF1.symm,M,hF2⟩)))
   intro mH a H
   try have p58:=dF mH
   have e58:dH note 19=0:=Decidable.byContradiction fun h=>p58 (by simp [eG,h]);refine kP H (Kc dB (SR fun _ eO=>Rm M (bC KM aF 1 M M ?_)));clear H dB;intro a H;refine gW WO (Li:=[_,_]) (L:=iy b ms ml mr mb mu _ :: (mb,fJ (gJ s.bO)) :: L) H wn M (Wo _ _ _ st li rv b ms ml mr mb mu _ s.bO x.id (hck.mono Br) (Hp.owns (Li:=[_,_]) H.hp)) M ?_;clear H;rintro v63 _ _ a w ⟨rfl,rfl,rfl⟩ - H;dsimp only [lca,bM] at H;refine kH H (aj eO M (SR fun _ gD=>Rm M (Rc M (Kz gD (Cd M ?_ ?_))))) <;> clear H eO gD
   ·intro vo a H
    try have p65:=dT vo
    have hF1:(fO (bG us st li rv) body note t x s).1=sj us s.bO x.id:=by rw [hE];simp [iZ,tq,p50,e58,pq,p65]
    have hF2:(fO (bG us st li rv) body note t x s).1=0->(⟨s.n+(jo x:Nat),oq us s.bO x.id⟩:CS)=(fO (bG us st li rv) body note t x s).2:=fun h=>absurd (hF1.symm.trans h) (p65);exact kP H (SR fun _ fF=>Rm M (aj fF M (LR results134 M fun H=>H.hp.lW (L':=iy b ms ml mr mb mu (s.n+(jo x:Nat)) :: (mb,fJ (gJ (oq us s.bO x.id))) :: L) (by repeat (first|exact kS _|apply List.Sublist.cons)) ⟨⟨s.n+(jo x:Nat),oq us s.bO x.id⟩,cO vi hF1.symm,M,hF2⟩)))
   intro vo a H
   try have p65:=dF vo
   have e65:sj us s.bO x.id=0:=oD.1 p65;refine iD ?_;refine ⟨(⟨s.n+(jo x:Nat),oq us s.bO x.id⟩,PS),by exact H.sub ⟨M,M,M,aC⟩,?_⟩;exact Vn
  intro h50 a H
  try have p50:=dF h50
  refine kP H (SR fun _ gK=>Rc M (aj gK M (Cd M ?_ ?_))) <;> clear H gK
  ·intro XJ a H
   try have p67:=dT XJ
   refine kP H (SQ fun _ jg=>SR fun _ kX=>bC NC aF 0 M M (Rc M (Kz kX (Cd M ?_ ?_)))) <;> clear H kX
   ·intro XK a H
    try have p71:=dT XK
    refine bL (fun _ kQ=>?_)
    have hF1:(fO (bG us st li rv) body note t x s).1=17:=by rw [hE];simp [iZ,tq,p67,dH,p71]
    have hF2:(fO (bG us st li rv) body note t x s).1=0->(⟨s.n+(jo x:Nat),s.bO⟩:CS)=(fO (bG us st li rv) body note t x s).2:=fun h=>absurd (hF1.symm.trans h) Z;exact kP H (SC (bF kQ M (LR results134 M fun H=>H.hp.lW (L':=iy b ms ml mr mb mu (s.n+(jo x:Nat)) :: (mb,fJ (gJ (s.bO))) :: L) (by repeat (first|exact kS _|apply List.Sublist.cons)) ⟨⟨s.n+(jo x:Nat),s.bO⟩,cO vi hF1.symm,M,hF2⟩)))
   intro XK a H
   try have p71:=dF XK
   have e71:¬ 4<=t:=by omega
   refine kP H (Kc jg (SR fun _ jP=>Rm M (bC KM aF 1 M M ?_)));clear H jg;intro a H;refine gW WO (Li:=[_,_]) (L:=iy b ms ml mr mb mu _ :: (mb,fJ (gJ s.bO)) :: L) H wn M (Wo _ _ _ st li rv b ms ml mr mb mu _ s.bO x.id hck (Hp.owns (Li:=[_,_]) H.hp)) M ?_;clear H;rintro v75 _ _ a w ⟨rfl,rfl,rfl⟩ - H;dsimp only [lca,bM] at H;refine kH H (aj jP M (SR fun _ mE=>Rm M (Rc M (Kz mE (Cd M ?_ ?_))))) <;> clear H jP mE
   ·intro Iw a H
    try have Mg:=dT Iw
    have hF1:(fO (bG us st li rv) body note t x s).1=sj us s.bO x.id:=by rw [hE];simp [iZ,tq,p67,dH,e71,pq,Mg]
    have hF2:(fO (bG us st li rv) body note t x s).1=0->(⟨s.n+(jo x:Nat),oq us s.bO x.id⟩:CS)=(fO (bG us st li rv) body note t x s).2:=fun h=>absurd (hF1.symm.trans h) (Mg);exact kP H (SR fun _ mF=>Rm M (aj mF M (LR results134 M fun H=>H.hp.lW (L':=iy b ms ml mr mb mu (s.n+(jo x:Nat)) :: (mb,fJ (gJ (oq us s.bO x.id))) :: L) (by repeat (first|exact kS _|apply List.Sublist.cons)) ⟨⟨s.n+(jo x:Nat),oq us s.bO x.id⟩,cO vi hF1.symm,M,hF2⟩)))
   intro Iw a H
   try have Mg:=dF Iw
   have e77:sj us s.bO x.id=0:=oD.1 Mg;refine iD ?_;refine ⟨(⟨s.n+(jo x:Nat),oq us s.bO x.id⟩,Gt),by exact H.sub ⟨M,M,M,aC⟩,?_⟩;exact Vn
  intro XJ a H
  try have p67:=dF XJ
  refine kP H (SR fun _ jQ=>Rc M (aj jQ M (Cd M ?_ ?_))) <;> clear H jQ
  ·intro Fy a H
   try have ZY:=dT Fy
   refine kP H (SR fun _ oM=>bC KM aF 1 M M ?_);clear H;intro a H;refine s_call za H wn M (zy _ _ H.ro x.id 1 1073741824) M ?_;clear H;rintro v83 _ a w ⟨rfl,rfl⟩ - H;refine kH H (Rn M (Kz oM (Cd M ?_ ?_))) <;> clear H oM
   ·intro h84 a H
    try have p84:=dT h84
    refine bL (fun _ pQ=>?_)
    have e84:¬ (1<=x.id∧x.id<=1073741824):=by have h0:=h84;simp at h0;omega
    have hF1:(fO (bG us st li rv) body note t x s).1=18:=by rw [hE];simp [iZ,tq,ZY,dH,e84]
    have hF2:(fO (bG us st li rv) body note t x s).1=0->(⟨s.n+(jo x:Nat),s.bO⟩:CS)=(fO (bG us st li rv) body note t x s).2:=fun h=>absurd (hF1.symm.trans h) Z;exact kP H (SC (bF pQ M (LR results134 M fun H=>H.hp.lW (L':=iy b ms ml mr mb mu (s.n+(jo x:Nat)) :: (mb,fJ (gJ (s.bO))) :: L) (by repeat (first|exact kS _|apply List.Sublist.cons)) ⟨⟨s.n+(jo x:Nat),s.bO⟩,cO vi hF1.symm,M,hF2⟩)))
   intro h84 a H
   try have p84:=dF h84
   refine iD ?_;exact VA
  intro Fy a H
  try have ZY:=dF Fy
  refine iD ?_;refine ⟨(⟨s.n+(jo x:Nat),s.bO⟩,Gt),by exact H.sub ⟨M,M,M,aC⟩,?_⟩;(try dsimp only)
  first
  | exact ⟨by simp_all [tq,dH,iZ,pq],fun _ _ h=>h,M,fun h7=>by first|omega|(exfalso;simp_all)⟩
  | exact ⟨by simp_all [tq,dH,iZ,pq],Br,M,fun h7=>by first|omega|(exfalso;simp_all)⟩
 clear H;rintro ⟨s1,g⟩ a w hI H;dsimp only at hI H;obtain ⟨hP,yu,aFs,ht7⟩:=hI;rw [hP,J7 M] at hE;dsimp only at hE;replace hck:=hck.mono yu;replace hh:=hh.mono yu;replace hf:=hf.mono yu;replace hr:=hr.mono yu;dsimp only [lca,bM] at H;refine kP H (SQ fun _ oN=>SR fun _ qz=>Rm M (bC kF aF 1 M M (Rf wU M ?_)));clear H;intro a H;refine bQ gB (cs:=[_,_,_,_,_]) H wn M M (H.hp.dG 1 M M) M ?_;clear H;intro a H;refine gW Q5 (Li:=[_,_]) (L:=iy b ms ml mr mb mu s1.n :: (mb,fJ (gJ s1.bO)) :: L) H wn M (RX _ _ _ st li rv b ms ml mr mb mu _ hck (Hp.owns (Li:=[_,_]) H.hp) x.kind x.head _ _ _ hh O) M ?_;clear H;rintro v90 _ _ a w ⟨rfl,rfl,rfl⟩ - H;dsimp only [lca,bM] at H;refine kH H (aj qz M (SR fun _ pW=>Rm M (Rc M (Kz pW (Cd M ?_ ?_))))) <;> clear H qz pW
 ·intro Iy a H
  try have Mh:=dT Iy
  have hF1:(fO (bG us st li rv) body note t x s).1=iU (bG us st li rv) x.kind x.head:=by rw [hE,Qf (r:=(iU (bG us st li rv) x.kind x.head,s1)) Mh]
  have hF2:(fO (bG us st li rv) body note t x s).1=0->s1=(fO (bG us st li rv) body note t x s).2:=fun h=>absurd (hF1.symm.trans h) Mh;exact kP H (SR fun _ qR=>Rm M (aj qR M (LR results134 M fun H=>H.hp.lW (L':=iy b ms ml mr mb mu (s1.n) :: (mb,fJ (gJ (s1.bO))) :: L) (by repeat (first|exact kS _|apply List.Sublist.cons)) ⟨s1,cO vi hF1.symm,M,hF2⟩)))
 intro Iy a H
 try have Mh:=dF Iy
 rw [J7 (r:=(iU (bG us st li rv) x.kind x.head,s1)) (oD.1 Mh)] at hE;dsimp only at hE;refine kP H (Kc oN (SQ fun _ vU=>SR fun _ tC=>bC kF aF 1 M M (Kz tC (SB (SR fun _ xL=>Rc M (aj xL M (Cd M ?_ ?_))))))) <;> clear H oN tC xL
 ·intro vw a H
  try have OU:=dT vw
  rw [ay OU] at hE;refine kP H (SR fun _ BX=>Rm M (bC Af jy 1 M M (bC NC aF 0 M M ?_)));clear H;intro a H;refine jM Gx [_,_,_] H wn M M M M ?_;clear H;intro a H;refine gW NA (Li:=[_,_]) (L:=iy b ms ml mr mb mu s1.n :: (mb,fJ (gJ s1.bO)) :: L) H wn M (ih _ _ _ st li rv b ms ml mr mb mu s1 x.flow _ false true t hck (Hp.owns (Li:=[_,_]) H.hp) hf O ht0 Bv O O) M ?_;clear H;rintro aDJ _ _ a w ⟨rfl,s3,rfl,rfl,h3⟩ - H;dsimp only [lca,bM] at H
  have hF1:(fO (bG us st li rv) body note t x s).1=(kr (bG us st li rv) false true t x.flow s1).1:=by rw [hE]
  have hF2:(fO (bG us st li rv) body note t x s).1=0->s3=(fO (bG us st li rv) body note t x s).2:=by rw [hE];exact h3
  exact kH H (aj BX M (LR results134 M fun H=>H.hp.lW (L':=iy b ms ml mr mb mu (s3.n) :: (mb,fJ (gJ (s3.bO))) :: L) (by repeat (first|exact kS _|apply List.Sublist.cons)) ⟨s3,cO vi hF1.symm,M,hF2⟩))
 intro vw a H
 try have OU:=dF vw
 rw [au OU] at hE;refine kP H (SR fun _ BZ=>Rc M (aj BZ M (Cd M ?_ ?_))) <;> clear H BZ
 ·intro oW a H
  try have Jq:=dT oW
  rw [ay Jq] at hE;refine kP H (SR fun _ qU=>Rm M (bC qd qw 1 M M (bC Xb ug 0 M M (bC NC aF 0 M M (Rd M ?_)))));clear H;intro a H;refine jM Gx [_,_,_] H wn M M M M ?_;clear H;intro a H;refine gW arF (Li:=[_,_]) (L:=iy b ms ml mr mb mu s1.n :: (mb,fJ (gJ s1.bO)) :: L) H wn M (rows_ok ih hm _ _ _ st li rv b ms ml mr mb mu s1 x.rows _ note (t+1) hck (Hp.owns (Li:=[_,_]) H.hp) hr O O (by have:=ht7 Jq;omega) O O) rfl ?_;clear H;rintro aFQ _ _ a w ⟨s3,rfl,rfl,h3⟩ - H;dsimp only [lca,bM] at H
  have hF1:(fO (bG us st li rv) body note t x s).1=(nQ x.rows.length (fun s=>jm (bG us st li rv) note (t+1) x.rows s) s1).1:=by rw [hE]
  have hF2:(fO (bG us st li rv) body note t x s).1=0->s3=(fO (bG us st li rv) body note t x s).2:=by rw [hE];exact h3
  exact kH H (aj qU M (LR results134 M fun H=>H.hp.lW (L':=iy b ms ml mr mb mu (s3.n) :: (mb,fJ (gJ (s3.bO))) :: L) (by repeat (first|exact kS _|apply List.Sublist.cons)) ⟨s3,cO vi hF1.symm,M,hF2⟩))
 intro oW a H
 try have Jq:=dF oW
 rw [au Jq] at hE
 have hF1:(fO (bG us st li rv) body note t x s).1=0:=by rw [hE]
 have hF2:(fO (bG us st li rv) body note t x s).1=0->s1=(fO (bG us st li rv) body note t x s).2:=fun h=>by rw [hE]
 exact kP H (Kc vU (SR fun _ DC=>aj DC M (LR results134 M fun H=>H.hp.lW (L':=iy b ms ml mr mb mu (s1.n) :: (mb,fJ (gJ (s1.bO))) :: L) (by repeat (first|exact kS _|apply List.Sublist.cons)) ⟨s1,cO vi hF1.symm,M,hF2⟩)))
end
section
theorem aqI:aR 134:=aS func134 M
theorem aqH:aR 133:=aS func133 M
variable {us:List Int}
def IxL (fv:ah) (Gi:GH) (n:Nat) (E:Nat->Int) {σ:Type} (B:σ->OL) (S:Nat->σ):Prop:=∀ i,i < n->∀ (G1:GH) (w1:World),(∀ b o,Gi b=some o->G1 b=some o)->gq G1 (B (S i)) w1 ->
 uh prog fv [vi i] w1 (fM w1 G1 (B (S i)) fun u G' L'=>∃ s,u=vi (E i)∧L'=B s∧(E i=0->s=S (i+1)))
theorem anr (G:GH) (w0:World) {σ:Type} (B:σ->OL) (S:Nat->σ) (n:Nat) (E:Nat->Int) (fv:ah) (hO:gq G (B (S 0)) w0) (hn:n<=4611686018427387904) (hf:IxL fv G n E B S) :
  Calls prog 123 #[vi n,fv] w0 (fM w0 G (B (S 0)) fun u G' L'=>∃ s,u=vi (lF E n)∧L'=B s∧(lF E n=0->s=S n)):=by
 refine jc (N:=18) (T:=[(0,_),(1,_)]) func123 M ntmps123 M M hO ?_;intro a H;refine kP H (SR fun _ K1=>aj K1 M (SQ fun _ K2=>SR fun _ K3=>Rm M (Rm M (Kz K3 (SB ?_)))));clear H K1 K3;intro a H;skip;refine fD (ι:=Nat × GH) (Tc:=[(1,_),(7,_)]) (Lc:=[]) (fun gh=>[(8,vi gh.1)]) (fun gh=>[]++B (S gh.1)) (fun gh=>gh.2) (fun gh=>gh.1<=n∧eG (((List.range n).map E).drop gh.1)=lF E n∧(∀ b o,G b=some o->gh.2 b=some o)) (fun gh=>n - gh.1) ((0,G)) (by exact H.sub ⟨M,M,M,aC⟩) ?_ ?_
 ·exact Fa
 clear H;rintro ⟨k,g⟩ a w hI H;dsimp only at hI H;obtain ⟨hk,he,hgm⟩:=hI;dsimp only [lca,bM] at H;refine kP H (SR fun _ K4=>Rc M (Kz K4 (SQ fun _ K5=>Cd M ?_ ?_))) <;> clear H K4
 ·intro h9 a H
  try have p9:=dT h9
  have hk2:k < n:=by omega
  refine kP H (Kc K5 (SQ fun _ K6=>SB (SR fun _ K7=>Rm M (aj K7 M (SR fun _ K8=>Rm M (Rm M ?_))))));clear H K5 K7;intro a H;refine BL (Li:=[]) (L:=B (S k)) H wn M M (hf k hk2 _ _ hgm (Hp.owns (Li:=[]) H.hp)) M ?_;clear H;rintro v13 JN L13 a w ⟨s3,rfl,rfl,h3⟩ KY H;refine kH H (aj K8 M (SR fun _ K9=>Rm M (Rc M (Kz K9 (Cd M ?_ ?_))))) <;> clear H K8 K9
  ·intro jC a H
   try have sD:=dT jC
   have hE:lF E n=E k:=by rw [MV hk2,ay sD] at he;exact he.symm
   exact kP H (SR fun _ aT=>Rm M (aj aT M (LR results123 M fun H=>H.hp.gQ ⟨s3,by rw [hE],M,fun h=>absurd (hE.symm.trans h) sD⟩)))
  intro jC a H
  try have sD:=dF jC
  have hS:=h3 (oD.1 sD);subst hS;exact adW
 intro h9 a H
 try have p9:=dF h9
 refine dY ?_;refine K2 _ _ ?_;clear K2;exact kP H (SR fun _ bR=>aj bR M (LR results123 M fun H=>H.hp.gQ ⟨S n,cO vi (by rw [rU (by simp;omega)] at he;exact he),by rw [show k=n by omega],fun _=>rfl⟩))
abbrev QI (b ms ml mr mb mu:Nat) (L:OL) (s:CS):OL:=iy b ms ml mr mb mu s.n :: (mb,fJ (gJ s.bO)) :: L
theorem ayw {m:Nat} (ih:JU us m) (hm:m<=4294967296) {G:GH} {L:OL} {st:List cK} {li:List fT} {rv:List cB} {b ms ml mr mb mu:Nat} {s:CS} {l:List ak} {v:ah} {body note:Bool} {t:Int} {x3 x4 x5:Nat}
  (hck:xK us G st li rv ms ml mr mu) (h3:aI G x3 0=some (aH b 0)) (h4:aI G x4 0=some v) (h5:∀ (j:Nat) (u:ah),[.bool body,.bool note,vi t][j]?=some u->aI G x5 (0+j)=some u)
  (hv:av G (.sl 11 (l.map ak.dat)) v) (hz:bq l<=m) (ht0:0<=t) (Bv:t<=4) (hs0:0<=s.n) (hs1:s.n+(bq l:Nat)<=1099511627776) :
  IxL (.func (.func 133) #[] #[(aH x3 0),(aH x4 0),(aH x5 0)]) G l.length (DR (fO (bG us st li rv) body note t) l s) (QI b ms ml mr mb mu L) (tu (fO (bG us st li rv) body note t) l s):=by
 intro k hk G1 w0 Oh hO;refine kD (caps:=[(aH x3 0),(aH x4 0),(aH x5 0)]) aqH ?_;replace h3:=aG Oh h3;replace h4:=aG Oh h4;replace h5:=fun j u hj=>aG Oh (h5 j u hj);replace hck:=hck.mono Oh;replace hv:=hv.mono Oh;obtain ⟨A,c,rfl,hc1,hc2,hg⟩:=hv.slice;rw [bK] at *;obtain ⟨o,xo,pA,pn,pc,dA,dn,dc,yA,yn,yc,fA,fn,fc,rA,rn,rc,rfl,hrow,hhd,hfl,hrw⟩:=DV hk hg;obtain ⟨hn0,hn1⟩:=alZ (bG us st li rv) body note t l s k O
 have hdz:bq (l.drop k)=1+bX l[k].dat+bq (l.drop (k+1)):=by
  simp only [bq];rw [nK hk,dO,dM]
 have hzm:=abb (jS hk)
 have hE:DR (fO (bG us st li rv) body note t) l s k=(fO (bG us st li rv) body note t l[k] (tu (fO (bG us st li rv) body note t) l s k)).1:=by unfold DR;rw [eB hk]
 have hS:tu (fO (bG us st li rv) body note t) l s (k+1)=(fO (bG us st li rv) body note t l[k] (tu (fO (bG us st li rv) body note t) l s k)).2:=by rw [tu,eB hk]
 rw [hE,hS]
 generalize tu (fO (bG us st li rv) body note t) l s k=s1 at *
 refine jc (N:=13) (T:=[(0,_),(1,_),(2,_),(3,_)]) func133 M ntmps133 M M hO ?_;intro a H;refine kP H (SR fun _ K1=>aj K1 M (SQ fun _ K2=>?_));clear H K1;intro a H;refine dI hmx [[],[],[],[1,2],[1,2,3],[],ra 0 6,ra 0 7] [6,7] V [_,_,_,_,.agg #[vi l[k].kind,vi l[k].code,vi l[k].id,.string l[k].text,.slice pA pn pc,vi l[k].head.marks.ins,vi l[k].head.marks.move,.slice dA dn dc,.slice yA yn yc,.slice fA fn fc,.slice rA rn rc],.agg #[.bool body,.bool note,vi t]] H (aB (X0 M fun hG=>Rg MB M (aG hG h3)) (X0 M fun hG=>Rg jy M (aG hG h4)) (Z0 M (Rm M)) (Z2 1 7 2 8 M (Ri iB eZ M M)) (aB ?_ ?_ (bS M) (bS M) dz)) ?_
 ·refine iO 3 9 M M fun _ a w G1 hG HT H fin=>?_;refine bQ eZ (cs:=[_,_,_,_,_,_,_,_,_,_,_]) H wn M M (fun j v hj=>H.hp.aI (aG hG (hrow j v hj))) M ?_;exact jH
 ·refine UR M fun _ a w G1 hG HT H fin=>?_;refine bQ TV (cs:=[.bool body,.bool note,vi t]) H wn M M (fun j v hj=>H.hp.aI (aG hG (h5 j v hj))) M ?_;exact jH
 clear H;intro a w G nO H hv;have H:=H.aM (hv 0 6 M M) M;have H:=H.aM (hv 4 10 M M) M;have H:=H.aM (hv 5 11 M M) M;clear hv;refine gW aqI (Li:=[]) (L:=QI b ms ml mr mb mu L s1) H wn M (ayx ih hm _ _ _ st li rv b ms ml mr mb mu s1 l[k] _ _ _ _ _ body note t (hck.mono nO) (Hp.owns (Li:=[]) H.hp) (hhd.mono nO) (hfl.mono nO) (hrw.mono nO) O ht0 Bv O O) M ?_;clear H;rintro v12 _ _ a w ⟨s3,rfl,rfl,h12⟩ - H;dsimp only [List.nil_append] at H;refine kH H (Ra M ?_);clear H;intro a H;refine aD ⟨M,?_⟩;refine K2 _ _ ?_;clear K2;refine lr H results133 M ?_;exact H.hp.gQ ⟨s3,M,M,h12⟩
theorem ayy {m:Nat} (ih:JU us m) (hm:m<=4294967296):JU us (m+1):=by
 intro G L w0 st li rv b ms ml mr mb mu s l v body note t hck hO hv hz ht0 Bv hs0 hs1;obtain ⟨hA1,hA2⟩:=aiW (bG us st li rv) body note t l s;refine Calls.anz (R:=fun u G' L'=>PE b ms ml mr mb mu L (kr (bG us st li rv) body note t l s) u L') ?_ fun _ _ _ h=>h;obtain ⟨A,c,rfl,hc1,hc2,-⟩:=hv.slice;rw [bK] at *;have hll:=Dw l;refine jc (N:=11) (T:=[(0,_),(1,_),(2,_)]) func72 M ntmps72 M M hO ?_;intro a H;refine cZ (fun _ K1=>?_);refine dZ (cs:=[_]) H wn M M M ?_;clear H;intro b3 a w hb3 H;refine dZ (cs:=[_]) H wn M M M ?_;clear H;intro b4 a w hb4 H;refine dZ (cs:=[_,_,_]) H wn M M M ?_;clear H;intro b5 a w hb5 H;refine kH H (aj K1 M (SQ fun _ K2=>?_));clear H K1;intro a H;obtain ⟨Ga5,R5,Cz,H⟩:=H.fU;obtain ⟨Ga4,Lj,Bq,H⟩:=H.fU;obtain ⟨Ga,FK,zu,H⟩:=H.fU;replace Cz:=FK _ _ (Lj _ _ Cz);replace Bq:=FK _ _ Bq;have hma:∀ b o,G b=some o->Ga b=some o:=fun b o h=>FK _ _ (Lj _ _ (R5 _ _ h))
 have g3:aI Ga b3 0=some (aH b 0):=by unfold aI;rw [zu];rfl
 have g4:aI Ga b4 0=some (.slice A l.length c):=by unfold aI;rw [Bq];rfl
 have g5:∀ (j:Nat) (u:ah),[.bool body,.bool note,vi t][j]?=some u->aI Ga b5 (0+j)=some u:=by
  intro j u hj;unfold aI;rw [Cz];simpa using hj
 have hcb:=ayw (mb:=mb) (L:=L) (s:=s) ih hm (hck.mono hma) g3 g4 g5 (hv.mono hma) O ht0 Bv hs0 hs1;refine kP H (SC (Rg jy M (by assumption) ?_));clear H;intro a H;refine kH H (Rl iB M ?_);clear H;intro a H;refine vG H wn M M ?_;clear H;intro a H;refine gW KF (Li:=[]) (L:=QI b ms ml mr mb mu L s) H wn M (anr _ _ (QI b ms ml mr mb mu L) (tu (fO (bG us st li rv) body note t) l s) l.length (DR (fO (bG us st li rv) body note t) l s) _ (Hp.owns (Li:=[]) H.hp) O hcb) M ?_;clear H;rintro v10 _ _ a w ⟨s3,rfl,rfl,h10⟩ - H;dsimp only [List.nil_append] at H;exact kH H (bF K2 M (LR results72 M fun H=>H.hp.gQ ⟨s3,by rw [hA1],M,fun h=>by rw [hA1] at h;exact (h10 h).trans (hA2 (hA1.trans h)).symm⟩))
theorem Sv:∀ m:Nat,m<=4294967297->JU us m
 | 0,_=>fun _ _ _ _ _ _ _ _ _ _ _ _ _ _ _ _ _ _ _ _ _ h=>absurd h O
 | m+1,hm=>ayy (Sv m O) O
end
theorem att:dR prog 102 1 1:=⟨V⟩
theorem atu:dR prog 102 2 2:=⟨V⟩
theorem aqE:aR 126:=aS func126 M
theorem aqD:aR 124:=aS func124 M
theorem aBI {G:GH} {bl:Nat} {l:List cB} {A:Option Addr} {n c:Nat} (hb:aI G bl 0=some (.slice A n c)) (hv:av G (.sl 3 (l.map cB.dat)) (.slice A n c)):vT (.func (.func 126) #[] #[(aH bl 0)]) G l.length fun k=>(l[k]?.map cB.id).getD 0:=by
 intro k hk G1 w0 hm hG;refine kD (caps:=[(aH bl 0)]) aqE ?_;replace hb:=aG hm hb
 obtain rfl:n=l.length:=by have:=hv.len;simpa using this
 obtain ⟨b,o,rfl,hrow⟩:=aao (hv.mono hm) hk;have hq:=hrow 0 _ M;refine eN [(0,_),(1,_)] func126 M ntmps126 M M hG ?_;intro a H;refine kP H (SR fun _ K1=>aj K1 M (SR fun _ K2=>Rg zI M (by assumption) ?_));clear H K1;intro a H;refine kH H (Rm M (Ri qP qp M M (Rf Xa M (Rg aF M (by assumption) ?_))));clear H;intro a H;exact kH H (aj K2 M (LR results126 M fun H=>H.rt (by dsimp only;rw [eB hk];rfl)))
def Tq (l:List cB) (i:Nat) (x:cB):Int:=eG [xC (fun k=>(l[k]?.map cB.id).getD 0) i,dH (!xR x.author) 39,dH (!decide (0<=x.time∧x.time<=1099511627776)) 40]
def Db (l:List cB) (i:Nat):Int:=match l[i]? with|some x=>Tq l i x|none=>0
theorem aA6 {G:GH} {bl:Nat} {l:List cB} {A:Option Addr} {n c:Nat} (hb:aI G bl 0=some (.slice A n c)) (hv:av G (.sl 3 (l.map cB.dat)) (.slice A n c)) (hl:l.length<=4294967296) (ht:∀ x∈l,x.author.size < 4611686018427387904):vT (.func (.func 124) #[] #[(aH bl 0)]) G l.length (Db l):=by
 intro k hk G1 w0 hm hG;refine kD (caps:=[(aH bl 0)]) aqD ?_;replace hb:=aG hm hb;replace hv:=hv.mono hm;have hcb:=aBI hb hv
 obtain rfl:n=l.length:=by have:=hv.len;simpa using this
 obtain ⟨b,o,rfl,hrow⟩:=aao hv hk;have hte:=ht _ (jS hk)
 have he:Db l k=Tq l k l[k]:=by unfold Db;rw [eB hk]
 obtain ⟨x,hx⟩:∃ x,x=l[k]:=⟨_,M⟩;rw [<- hx] at hrow hte he;refine eN [(0,_),(1,_)] func124 M ntmps124 M M hG ?_;intro a H;refine kP H (SR fun _ K1=>aj K1 M (SQ fun _ K2=>?_));clear H K1;intro a H;have H:=H.sub (T':=[(0,_),(1,_)]) ⟨M,M,aC⟩;refine dI hmx [[],[],[0,1],[],[],[3,4],[3,4,5],ra 3 4,ra 0 8,ra 0 9,ra 0 10,[],[],[11,12],[11,12,13],ra 11 4,ra 0 16,ra 0 17,ra 0 18,ra 0 19,ra 0 20,ra 0 21] [19,20,21] V [_,.func (.func 126) #[] #[(aH bl 0)],vi (xC (fun k=>(l[k]?.map cB.id).getD 0) k),_,_,_,_,_,.bool (xR x.author),_,vi (dH (!xR x.author) 39),_,_,_,_,_,.bool (decide (0<=x.time∧x.time<=1099511627776)),_,vi (dH (!decide (0<=x.time∧x.time<=1099511627776)) 40)] H (aB (Z0 M (Rm M)) ?_ ?_ (X0 M fun hG=>Rg zI M (aG hG hb)) (aB (Z0 M (Rm M)) (Z2 3 7 4 8 M (Ri qP qp M M)) (Z1 5 9 M (Rf att M)) (X1 6 10 M fun hG=>Rg jf M (aG hG (hrow 1 _ M))) (aB ?_ (Z1 8 12 M (Rn M)) ?_ (X0 M fun hG=>Rg zI M (aG hG hb)) (aB (Z0 M (Rm M)) (Z2 11 15 12 16 M (Ri qP qp M M)) (Z1 13 17 M (Rf atu M)) (X1 14 18 M fun hG=>Rg aF M (aG hG (hrow 2 _ M))) (aB ?_ (Z1 16 20 M (Rn M)) ?_ (bS M) (bN (bS M) (bN (bS M) dz))))))) ?_
 ·exact Hz
 ·exact adL
 ·refine iO 7 11 M M fun _ a w G1 hG HT H fin=>?_;refine s_call afv H wn M (abF _ _ H.ro x.author hte) M ?_;clear H;rintro v12 EM a w ⟨rfl,-⟩ oH H;exact fin H oH (rfl)
 ·refine iO 9 13 M M fun _ a w G1 hG HT H fin=>?_;refine s_call mZ H wn M (nG _ _ H.ro _ 39) M ?_;clear H;rintro v14 EN a w ⟨rfl,-⟩ Bo H;exact fin H Bo (rfl)
 ·refine iO 15 19 M M fun _ a w G1 hG HT H fin=>?_;refine s_call za H wn M (zy _ _ H.ro x.time 0 1099511627776) M ?_;clear H;rintro v20 GR a w ⟨rfl,-⟩ auC H;exact fin H auC (rfl)
 ·refine iO 17 21 M M fun _ a w G1 hG HT H fin=>?_;refine s_call mZ H wn M (nG _ _ H.ro _ 40) M ?_;clear H;rintro v22 Ux a w ⟨rfl,-⟩ XT H;exact fin H XT (rfl)
 clear H;intro a w G nO H hv;have H:=H.aM (hv 2 6 M M) M;have H:=H.aM (hv 10 14 M M) M;have H:=H.aM (hv 18 22 M M) M;clear hv;refine iV sH jE [_,_,_] [_,_,_] H wn M M M M M (by intro i q h;match i,h with|0,h=>exact h|1,h=>exact h|2,h=>exact h|n+3,h=>simp at h) M M ?_;clear H;intro b23 a w avr H;obtain ⟨Uy,CO,avs,H⟩:=H.fU;refine s_call tK H wn M (tN _ _ H.ro _ _ (Ja [xC (fun k=>(l[k]?.map cB.id).getD 0) k,dH (!xR x.author) 39,dH (!decide (0<=x.time∧x.time<=1099511627776)) 40] avs (show 3<=maxLen by decide))) rfl ?_;clear H;rintro v24 _ a w ⟨rfl,rfl⟩ - H;refine kH H (Ra M ?_);clear H;intro a H;refine aD ⟨M,?_⟩;refine K2 _ _ ?_;clear K2;refine lr H results124 M ?_;exact H.rt (by rw [he,Tq])
def DL (l:List cB):Int:=eG [dH (decide (256 < (l.length:Int))) 9,lF (Db l) (min l.length 256)]
theorem aoW (G:GH) (w0:World) (hG:Hold G w0) (l:List cB) (v:ah) (hv:av G (.sl 3 (l.map cB.dat)) v) (hl:l.length<=4294967296) (ht:∀ x∈l,x.author.size < 4611686018427387904) :
  Calls prog 68 #[v] w0 (bE w0 G fun u G'=>u=vi (DL l)):=by
 obtain ⟨A,c,rfl,hc1,hc2,-⟩:=hv.slice;rw [bK] at *;refine eN [(0,_)] func68 M ntmps68 M M hG ?_;intro a H;refine cZ (fun _ K1=>?_);refine dZ (cs:=[_]) H wn M M M ?_;clear H;intro b1 a w hb1 H;refine kH H (aj K1 M (SQ fun _ K2=>?_));clear H K1;intro a H;have H:=H.sub (T':=[(1,_)]) ⟨M,aC⟩;obtain ⟨Ga,hma,hb1',H⟩:=H.fU
 have hbl:aI Ga b1 0=some (.slice A l.length c):=by unfold aI;rw [hb1'];rfl
 have hcb:=aA6 hbl (hv.mono hma) hl ht;refine dI hmx [[],[0],[0,1],[0,1,2],[],[4],[4,5],[],ra 0 8,ra 0 9,ra 0 10,ra 0 11] [9,10,11] V [_,_,_,vi (dH (decide (256 < (l.length:Int))) 9),_,_,vi ((min l.length 256:Nat):Int),.func (.func 124) #[] #[(aH b1 0)],vi (lF (Db l) (min l.length 256))] H (aB (X0 M fun hG=>Rg zI M (aG hG hbl)) (Z1 0 3 M (Rl qP M)) (Z1 1 4 M (Rc M)) ?_ (aB (X0 M fun hG=>Rg zI M (aG hG hbl)) (Z1 4 7 M (Rl qP M)) ?_ ?_ (aB ?_ (bS M) (bS M) (bS M) dz))) ?_
 ·exact Qt
 ·exact Qw
 ·exact Hz
 ·refine eT 6 9 7 10 M M fun _ a w G1 hG HT H fin=>?_;refine s_call KF H wn M (MX _ _ H.ro (min l.length 256) (Db l) _ O ((hcb.mono hG).le (Nat.min_le_left _ _))) M ?_;exact Nh
 clear H;intro a w G nO H hv;have H:=H.aM (hv 3 6 M M) M;have H:=H.aM (hv 8 11 M M) M;clear hv;refine iV sH jE [_,_] [_,_] H wn M M M M M (by intro i q h;match i,h with|0,h=>exact h|1,h=>exact h|n+2,h=>simp at h) M M ?_;clear H;intro b12 a w IC H;obtain ⟨EM,Eh,IE,H⟩:=H.fU;refine s_call tK H wn M (tN _ _ H.ro _ _ (Aq IE)) M ?_;clear H;rintro v13 _ a w ⟨rfl,rfl⟩ - H;refine kH H (Ra M ?_);clear H;intro a H;refine aD ⟨M,?_⟩;refine K2 _ _ ?_;clear K2;refine lr H results68 M ?_;exact yR
theorem lQ:∀ {l:List Int},eG l=0->∀ x∈l,x=0
 | [],_,_,h=>by cases h
 | e :: r,h,x,hx=>by
  unfold eG at h
  by_cases he:e=0
  ·rw [au (fun h'=>h' he)] at h
   rcases gu.1 hx with rfl|hx
   ·exact he
   exact lQ h x hx
  rw [ay he] at h;exact absurd h he
theorem Cm {E:Nat->Int} {n:Nat} (h:lF E n=0) (i:Nat) (hi:i < n):E i=0:=lQ h _ (by simp;exact ⟨i,hi,M⟩)
theorem Sq {id:Nat->Int} {i:Nat} (h:xC id i=0):1<=id i∧id i<=1073741824∧(0 < i->id (i - 1) < id i):=by
 unfold xC at h
 by_cases h1:1<=id i∧id i<=1073741824
 ·rw [au (fun h'=>h' h1)] at h
  by_cases h2:0 < i∧id i=id (i - 1)
  ·rw [ay h2] at h;cases h
  rw [au h2] at h
  by_cases h3:0 < i∧id i < id (i - 1)
  ·rw [ay h3] at h;cases h
  exact ⟨h1.1,h1.2,fun h0=>by omega⟩
 rw [ay h1] at h;cases h
theorem aiR {l:List Int} (h:∀ i (h:i+1 < l.length),l[i] < l[i+1]):Dz l:=by
 have hlt:∀ (j i:Nat) (hj:j < l.length) (hi:i < j),l[i] < l[j]:=by
  intro j
  induction j with
  | zero=>intro i _ hi;omega
  | succ j ih =>
   intro i hj hi;have h1:=h j hj
   by_cases e:i=j
   ·subst e;exact h1
   have:=ih i O O;omega
 intro k hk hm;obtain ⟨i,hi,he⟩:=List.getElem_of_mem hm;rw [List.length_take] at hi;have:=hlt k i hk O;rw [List.getElem_take] at he
 omega
theorem adR {p:Prop} (h:p:=by
 have h4:=(Sq (lQ h3 _ dV)).2.2 O;rw [Nat.add_sub_cancel,eB hi,eB (show i < l.length by omega)] at h4
 simpa using h4):p:=h
theorem aA7 {l:List cB} (h:DL l=0):Dz (l.map cB.id):=by
 have h1:=lQ h _ (dV);have h2:=lQ h _ (gI _ dV)
 have hl:l.length<=256:=by
  unfold dH at h1
  by_cases hd:256 < (l.length:Int)
  ·rw [ay (aJ hd)] at h1;cases h1
  omega
 refine aiR fun i hi=>?_;rw [bK] at hi;have h3:=Cm h2 (i+1) O
 unfold Db at h3
 rw [eB hi] at h3;exact adR
theorem azc {l:List fT} (h:Ni l=0):Dz (l.map fT.id):=by
 have h1:=lQ h _ (dV);have h2:=lQ h _ (gI _ dV)
 have hl:l.length<=64:=by
  unfold dH at h1
  by_cases hd:64 < (l.length:Int)
  ·rw [ay (aJ hd)] at h1;cases h1
  omega
 refine aiR fun i hi=>?_;rw [bK] at hi;have h3:=Cm h2 (i+1) O
 unfold Jf at h3
 exact adR
theorem aDe {l:List cK} (h:A9 l=0):Dz (l.map cK.id):=by
 unfold A9 at h
 by_cases h1:128 < l.length
 ·rw [ay h1] at h;cases h
 rw [au h1] at h
 by_cases h2:vY (BG l) 0 l.length≠0
 ·rw [ay h2] at h;exact absurd h h2
 intro k hk;rw [bK] at hk;have:=akb (oD.1 h2) k hk;rw [<- List.map_take,List.getElem_map];exact this
theorem asP:aR 69:=aS func69 M
theorem BR:Ty prog 36 4 96 [.slice none 0 0,.slice none 0 0,.slice none 0 0,.slice none 0 0] true:=⟨V,V⟩
theorem asN:aR 67:=aS func67 M
theorem asO:aR 68:=aS func68 M
theorem Fp:dR prog 38 1 1:=⟨V⟩
theorem Xj (e:Int):eG [e]=e:=by
 by_cases h:e=0 <;> simp [eG,h]
structure gX where
 flow:List ak
 fin:dD
 revs:List cB
 lK:Ch
structure pO (G:GH) (D:kN) (d:gX):Prop where
 fl:av G (.sl 11 (d.flow.map ak.dat)) (dh D.f)
 hd:jG G d.fin (dh D.p) (dh D.d) (dh D.y)
 ins:D.ins=d.fin.marks.ins
 mv:D.move=d.fin.marks.move
 rv:av G (.sl 3 (d.revs.map cB.dat)) (dh D.r)
 st:AO G d.lK (dh D.s1) (dh D.s2) (dh D.s3) (dh D.s4)
theorem AO.mono {G G':GH} (hm:∀ b o,G b=some o->G' b=some o) {s:Ch} {a b c d:ah} (h:AO G s a b c d):AO G' s a b c d:=⟨h.st.mono hm,h.li.mono hm,h.cm.mono hm,h.va.mono hm⟩
theorem pO.mono {G G':GH} (hm:∀ b o,G b=some o->G' b=some o) {D:kN} {d:gX} (h:pO G D d):pO G' D d:=⟨h.fl.mono hm,h.hd.mono hm,h.ins,h.mv,h.rv.mono hm,h.st.mono hm⟩
structure AA (d:gX):Prop where
 fl:bq d.flow<=1073741824
 hd:nH d.fin<=4294967296
 rn:d.revs.length<=4294967296
 rt:∀ x∈d.revs,x.author.size < 4611686018427387904
 sn:d.lK.styles.length<=4294967296
 st:U0 d.lK
abbrev gX.jT (d:gX):aV:=bG [] d.lK.styles d.lK.lists d.revs
def vD (m:zQ):Bool:=decide ((m.ins≠0∨m.move≠0)∨0 < (m.bD.length:Int))
def iQ (d:gX):Int:=eG [eG [Nj d.lK,DL d.revs],eG [iU d.jT 3 d.fin,dH (vD d.fin.marks) 21],(kr d.jT true false 0 d.flow ⟨0,[]⟩).1,dH (decide (16384 < (kr d.jT true false 0 d.flow ⟨0,[]⟩).2.n)) 9]
theorem acp {p:Prop} (h:p:=by
 exact fin H iJ (by show _=_;first|exact iP (aJ c1).symm|exact iP (by simp [c0]))):p:=h
theorem acr {p:Prop} (h:p:=by
 exact fin H iJ (by show _=_;first|exact iP (mY (Or.inl c1)).symm|exact iP (by simp [vD,c1]))):p:=h
theorem Vz {p:Prop} (h:p:=by
 refine eT 0 24 2 26 M M fun _ a w G1 hG HT H fin=>?_;refine gW Q5 (Li:=[_,_]) (L:=iy b ms ml mr mb mu 0 :: (mb,fJ []) :: []) H wn M (RX _ _ _ d.lK.styles d.lK.lists d.revs b ms ml mr mb mu _ (hck.mono hG) (Hp.owns (Li:=[_,_]) H.hp) 3 d.fin _ _ _ (hhd.mono hG) zh) M ?_;clear H;rintro v27 _ _ a w ⟨rfl,rfl,rfl⟩ XU H;dsimp only [lca,bM] at H;exact fin H XU (rfl)):p:=h
theorem VI {p:Prop} (h:p:=by
 refine iO 17 41 M M fun _ a w G1 hG HT H fin=>?_;refine s_call mZ H wn M (nG _ _ H.ro _ 21) M ?_;clear H;rintro v42 G42 a w ⟨rfl,-⟩ auL H;exact fin H auL (rfl)):p:=h
theorem aej {p:Prop} (h:p:=by
 refine eT 12 36 16 40 M M fun _ a w G1 hG HT H fin=>?_;refine kH H (Pt (aJ c1) M ?_);clear H;intro a H;exact acr):p:=h
theorem ael {p:Prop} (h:p:=by
 refine eT 7 31 10 34 M M fun _ a w G1 hG HT H fin=>?_;refine kH H (Pf (aY c0) M ?_);clear H;intro a H;exact acp):p:=h
theorem VE {p:Prop} (h:p:=by
 refine iO 1 25 M M fun _ a w G1 hG HT H fin=>?_;exact Vv):p:=h
theorem aoZ (G:GH) (w0:World) (hG:Hold G w0) (D:kN) (d:gX) (hR:pO G D d) (hz:AA d) :
  Calls prog 21 #[D.val] w0 (bE w0 G fun u G'=>u=vi (iQ d)):=by
 obtain ⟨df,dp,dd,dy,dr,d1,d2,d3,d4,ins,mv⟩:=D;obtain ⟨hfl,hhd,hin,hmv,rF,hst⟩:=hR;dsimp only at hfl hhd hin hmv rF hst;subst hin;subst hmv;obtain ⟨zf,zh,zr,zt,zs,zg⟩:=hz;have hdl:=hhd.bD.len;rw [bK] at hdl
 have hdn:d.fin.marks.bD.length<=4294967296:=by
  have h1:=GJ d.fin;have h2:=sG (d.fin.marks.bD.map gT.dat);rw [bK] at h2;omega
 refine eN [(0,_)] func21 M ntmps21 M M hG ?_;intro a H;refine cZ (fun _ K1=>?_);refine dZ (cs:=[_,_,_,_,_,_,_,_,_,_,_]) H wn M M M ?_;clear H;intro b1 a w hb1 H;refine kH H (aj K1 M (SQ fun _ K2=>SQ fun _ K3=>?_));clear H K1;intro a H;refine dI hmx [[],[0],[0,1],[],[3],ra 0 5,ra 0 6,ra 0 7,ra 0 8] [6,7,8] V [_,.agg #[dh d1,dh d2,dh d3,dh d4],vi (Nj d.lK),_,dh dr,vi (DL d.revs)] H (aB (Z0 M (Rf NJ M)) ?_ ?_ (Z0 M (Rf Fq M)) (aB (Z1 3 11 M (Ro zI 0 M)) ?_ (bS M) (bS M) (bN (bS M) dz))) ?_
 ·refine iO 0 8 M M fun _ a w G1 hG HT H fin=>?_;refine bQ BR (cs:=[_,_,_,_]) H wn M M (H.hp.dG 0 M M) M ?_;exact jH
 ·refine iO 1 9 M M fun _ a w G1 hG HT H fin=>?_;refine s_call asN H wn M (aoX _ _ H.ro d.lK _ _ _ _ (hst.mono hG) zg) M ?_;clear H;rintro v10 GL a w rfl uD H;exact fin H uD (rfl)
 ·refine iO 4 12 M M fun _ a w G1 hG HT H fin=>?_;refine s_call asO H wn M (aoW _ _ H.ro d.revs _ (rF.mono hG) zr zt) M ?_;clear H;rintro v13 JN a w rfl Ea H;exact fin H Ea (rfl)
 clear H;intro a w G nO H hv;have H:=H.aM (hv 2 10 M M) M;have H:=H.aM (hv 5 13 M M) M;clear hv;refine iV sH jE [_,_] [_,_] H wn M M M M M (by intro i q h;match i,h with|0,h=>exact h|1,h=>exact h|n+2,h=>simp at h) M M ?_;clear H;intro b14 a w XZ H;obtain ⟨EN,Ei,X4,H⟩:=H.fU;have hg1:=fun b o h=>Ei b o (nO b o h);replace hfl:=hfl.mono hg1;replace hhd:=hhd.mono hg1;replace rF:=rF.mono hg1;replace hst:=hst.mono hg1;refine s_call tK H wn M (tN _ _ H.ro _ _ (Aq X4)) M ?_;clear H;rintro v15 _ a w ⟨rfl,rfl⟩ - H;refine kH H (Ra M ?_);clear H;intro a H;refine aD ⟨M,?_⟩;refine K3 _ _ ?_;clear K3;refine kP H (SR fun _ K4=>Rm M (Rc M (Kz K4 (Cd M ?_ ?_)))) <;> clear H K4
 ·intro fH a H
  try have oI:=dT fH
  have hE:iQ d=eG [Nj d.lK,DL d.revs]:=by rw [iQ,eG,ay oI]
  exact kP H (SR fun _ K5=>Rm M (aj K5 M (LR results21 M fun H=>H.rt (by rw [hE]))))
 intro fH a H
 try have oI:=dF fH
 have e1:=oD.1 oI;have s1:=lQ e1 _ dV;have s2:=lQ e1 _ (gI _ dV);have t1:=lQ s1 _ dV;have t2:=lQ s1 _ (gI _ dV);refine iD ?_;refine K2 _ _ ?_;clear K2;refine cZ (fun _ K6=>?_);refine bQ jN (cs:=[_,_,_,_,_,_,_,_,_,_,_]) H wn M M (H.hp.dG 0 M M) M ?_;clear H;intro a H;refine gW asP (Li:=[_]) (L:=[]) H wn M (azJ _ _ (Hp.owns (Li:=[_]) H.hp) ⟨df,dp,dd,dy,dr,d1,d2,d3,d4,d.fin.marks.ins,d.fin.marks.move⟩ d.lK.styles d.lK.lists d.revs hst.st hst.li rF (aDe t1) (azc t2) (aA7 s2) zs zg.ln zr) M ?_;clear H;rintro v20 GR _ a w ⟨b,ms,ml,mr,mb,mu,rfl,rfl,hck⟩ rY H;dsimp only [lca,bM] at H;have H:=H.eD (Pl:=[_,_,_,_]) (dK:=[_,_,_,_]) [3,0,1,2] Z M;obtain ⟨Gu,hmu,hu,H⟩:=H.fU;replace hck:=hck.with (us:=[]) hmu hu;replace hfl:=(hfl.mono rY).mono hmu;replace hhd:=(hhd.mono rY).mono hmu;refine kH H (aj K6 M (SR fun _ K7=>Rf Fp M (Rf oh M ?_)));clear H K6;intro a H;refine bQ EG (cs:=[_,_,_,_]) H wn M M (H.hp.dG 0 M M) M ?_;clear H;intro a H;refine dW EG H wn M ?_;clear H;intro b5 a w hb5 H;refine bJ EG 0 (vs:=[_,_,_,_]) H wn M ?_;clear H;intro w H;refine K7 _ _ ?_;clear K7;refine bL (fun _ K8=>?_);refine bL (fun _ K9=>?_)
 by_cases c0:d.fin.marks.ins≠0
 ·skip;have c1:d.fin.marks.ins≠0∨d.fin.marks.move≠0:=Or.inl c0;refine dI hmx [[],[],[1],[0,1,2],[],[4],[4,5],ra 0 7,ra 0 8,ra 0 9,ra 0 10,ra 0 11,ra 0 12,ra 0 13,ra 0 14,ra 0 15,ra 0 16,ra 0 17,ra 0 18,ra 0 19,ra 0 20,ra 0 21] [19,20,21] V [_,_,sQ d.fin (dh dp) (dh dd) (dh dy),vi (iU d.jT 3 d.fin),_,vi d.fin.marks.ins,_,_,undef,undef,undef,.bool (decide (d.fin.marks.ins≠0∨d.fin.marks.move≠0)),_,undef,undef,undef,undef,.bool (vD d.fin.marks),vi (dH (vD d.fin.marks) 21)] H (aB (Z0 M (Rm M)) (Z0 M (Rf Fp M)) ?_ ?_ (aB (Z0 M (Rf tL M)) (Z1 4 28 M (Ro aF 0 M)) (Z1 5 29 M (Rc M)) (Z1 6 30 M (Rm M)) (aB (aZ 7 (aJ c0) M M) (aZ 7 (aJ c0) M M) (aZ 7 (aJ c0) M M) ?_ (aB (Z1 11 35 M (Rm M)) (aZ 12 (aJ c1) M M) (aZ 12 (aJ c1) M M) (aZ 12 (aJ c1) M M) (aB (aZ 12 (aJ c1) M M) ?_ ?_ (bS M) (bN (bS M) (bN (bS M) dz))))))) ?_
  ·exact VE
  ·exact Vz
  ·refine eT 7 31 10 34 M M fun _ a w G1 hG HT H fin=>?_;refine kH H (Pt (aJ c0) M ?_);clear H;intro a H;exact acp
  ·exact aej
  ·exact VI
  clear H;intro a w G mW H hv;have H:=H.aM (hv 3 27 M M) M;have H:=H.aM (hv 18 42 M M) M;clear hv;refine iV sH jE [_,_] [_,_] H wn M M M M M (by intro i q h;match i,h with|0,h=>exact h|1,h=>exact h|n+2,h=>simp at h) M M ?_;clear H;intro b43 a w ahv H;obtain ⟨PO,FI,N7,H⟩:=H.fU;have FE:=fun b o h=>FI b o (mW b o h);replace hfl:=hfl.mono FE;replace hck:=hck.mono FE;refine s_call tK H wn M (tN _ _ H.ro _ _ (Aq N7)) M ?_;clear H;rintro v44 _ a w ⟨rfl,rfl⟩ - H;refine kH H (Ra M ?_);clear H;intro a H;refine aD ⟨M,?_⟩;refine K9 _ _ ?_;clear K9;refine kP H (SR fun _ aT=>Rm M (Rc M (Kz aT (Cd M ?_ ?_)))) <;> clear H aT
  ·intro h46 a H
   try have p46:=dT h46
   have hE:iQ d=eG [iU d.jT 3 d.fin,dH (vD d.fin.marks) 21]:=by rw [iQ,eG,au (by simpa using e1),eG,ay p46]
   exact kP H (SR fun _ bR=>Rm M (aj bR M (LR results21 M fun H=>H.rt (by rw [hE]))))
  intro h46 a H
  try have p46:=dF h46
  have e2:=oD.1 p46;refine kP H (Kc K8 (SQ fun _ cu=>SR fun _ dw=>Rm M (bC vZ jy 1 M M ?_)));clear H K8;intro a H;refine jM Gx [_,_,_] H wn M M M M ?_;clear H;intro a H;refine gW NA (Li:=[_,_]) (L:=iy b ms ml mr mb mu 0 :: (mb,fJ []) :: []) H wn M (Sv 4294967297 O _ _ _ d.lK.styles d.lK.lists d.revs b ms ml mr mb mu ⟨0,[]⟩ d.flow _ true false 0 hck (Hp.owns (Li:=[_,_]) H.hp) hfl O O O Z (by dsimp only;omega)) rfl ?_;clear H;rintro v52 _ _ a w ⟨rfl,s3,rfl,rfl,h3⟩ - H;dsimp only [lca,bM] at H;refine kH H (aj dw M (SR fun _ dB=>Rm M (Rc M (Kz dB (Cd M ?_ ?_))))) <;> clear H dw dB
  ·intro iT a H
   try have p54:=dT iT
   have hE:iQ d=(kr d.jT true false 0 d.flow ⟨0,[]⟩).1:=by rw [iQ,eG,au (by simpa using e1),eG,au (by simpa using e2),eG,ay p54]
   exact kP H (SR fun _ dX=>Rm M (aj dX M (LR results21 M fun H=>H.rt (by rw [hE]))))
  intro iT a H
  try have p54:=dF iT
  have e3:=oD.1 p54;have hs3:=h3 e3;subst hs3;refine kP H (Kc cu (SR fun _ eu=>Rm M (Rk M (bC Ih aF 2 M M (Rc M ?_)))));clear H cu;intro a H;refine s_call mZ H wn M (nG _ _ H.ro _ 9) M ?_;clear H;rintro v61 _ a w ⟨rfl,rfl⟩ - H
  have hE:iQ d=dH (decide (16384 < (kr d.jT true false 0 d.flow ⟨0,[]⟩).2.n)) 9:=by rw [iQ,eG,au (by simpa using e1),eG,au (by simpa using e2),eG,au (by simpa using e3)];exact Xj _
  exact kH H (aj eu M (LR results21 M fun H=>H.rt (by rw [hE])))
 skip
 by_cases c1:d.fin.marks.ins≠0∨d.fin.marks.move≠0
 ·skip;refine dI hmx [[],[],[1],[0,1,2],[],[4],[4,5],ra 0 7,ra 0 8,ra 0 9,ra 0 10,ra 0 11,ra 0 12,ra 0 13,ra 0 14,ra 0 15,ra 0 16,ra 0 17,ra 0 18,ra 0 19,ra 0 20,ra 0 21] [19,20,21] V [_,_,sQ d.fin (dh dp) (dh dd) (dh dy),vi (iU d.jT 3 d.fin),_,vi d.fin.marks.ins,_,_,_,vi d.fin.marks.move,_,.bool (decide (d.fin.marks.ins≠0∨d.fin.marks.move≠0)),_,undef,undef,undef,undef,.bool (vD d.fin.marks),vi (dH (vD d.fin.marks) 21)] H (aB (Z0 M (Rm M)) (Z0 M (Rf Fp M)) ?_ ?_ (aB (Z0 M (Rf tL M)) (Z1 4 28 M (Ro aF 0 M)) (Z1 5 29 M (Rc M)) (Z1 6 30 M (Rm M)) (aB (Z1 7 31 M (YF Cu (aY c0) M)) (Z2 8 32 7 31 M (YO aF 0 (aY c0) M)) (Z2 9 33 7 31 M (YC (aY c0) M)) ?_ (aB (Z1 11 35 M (Rm M)) (aZ 12 (aJ c1) M M) (aZ 12 (aJ c1) M M) (aZ 12 (aJ c1) M M) (aB (aZ 12 (aJ c1) M M) ?_ ?_ (bS M) (bN (bS M) (bN (bS M) dz))))))) ?_
  ·exact VE
  ·exact Vz
  ·exact ael
  ·exact aej
  ·exact VI
  clear H;intro a w G mW H hv;have H:=H.aM (hv 3 27 M M) M;have H:=H.aM (hv 18 42 M M) M;clear hv;refine iV sH jE [_,_] [_,_] H wn M M M M M (by intro i q h;match i,h with|0,h=>exact h|1,h=>exact h|n+2,h=>simp at h) M M ?_;clear H;intro b43 a w ahv H;obtain ⟨PO,FI,N7,H⟩:=H.fU;have FE:=fun b o h=>FI b o (mW b o h);replace hfl:=hfl.mono FE;replace hck:=hck.mono FE;refine s_call tK H wn M (tN _ _ H.ro _ _ (Aq N7)) M ?_;clear H;rintro v44 _ a w ⟨rfl,rfl⟩ - H;refine kH H (Ra M ?_);clear H;intro a H;refine aD ⟨M,?_⟩;refine K9 _ _ ?_;clear K9;refine kP H (SR fun _ dN=>Rm M (Rc M (Kz dN (Cd M ?_ ?_)))) <;> clear H dN
  ·intro h46 a H
   try have p46:=dT h46
   have hE:iQ d=eG [iU d.jT 3 d.fin,dH (vD d.fin.marks) 21]:=by rw [iQ,eG,au (by simpa using e1),eG,ay p46]
   exact kP H (SR fun _ eO=>Rm M (aj eO M (LR results21 M fun H=>H.rt (by rw [hE]))))
  intro h46 a H
  try have p46:=dF h46
  have e2:=oD.1 p46;refine kP H (Kc K8 (SQ fun _ gD=>SR fun _ fF=>Rm M (bC vZ jy 1 M M ?_)));clear H K8;intro a H;refine jM Gx [_,_,_] H wn M M M M ?_;clear H;intro a H;refine gW NA (Li:=[_,_]) (L:=iy b ms ml mr mb mu 0 :: (mb,fJ []) :: []) H wn M (Sv 4294967297 O _ _ _ d.lK.styles d.lK.lists d.revs b ms ml mr mb mu ⟨0,[]⟩ d.flow _ true false 0 hck (Hp.owns (Li:=[_,_]) H.hp) hfl O O O Z (by dsimp only;omega)) rfl ?_;clear H;rintro v52 _ _ a w ⟨rfl,s3,rfl,rfl,h3⟩ - H;dsimp only [lca,bM] at H;refine kH H (aj fF M (SR fun _ gK=>Rm M (Rc M (Kz gK (Cd M ?_ ?_))))) <;> clear H fF gK
  ·intro iT a H
   try have p54:=dT iT
   have hE:iQ d=(kr d.jT true false 0 d.flow ⟨0,[]⟩).1:=by rw [iQ,eG,au (by simpa using e1),eG,au (by simpa using e2),eG,ay p54]
   exact kP H (SR fun _ jg=>Rm M (aj jg M (LR results21 M fun H=>H.rt (by rw [hE]))))
  intro iT a H
  try have p54:=dF iT
  have e3:=oD.1 p54;have hs3:=h3 e3;subst hs3;refine kP H (Kc gD (SR fun _ kX=>Rm M (Rk M (bC Ih aF 2 M M (Rc M ?_)))));clear H gD;intro a H;refine s_call mZ H wn M (nG _ _ H.ro _ 9) M ?_;clear H;rintro v61 _ a w ⟨rfl,rfl⟩ - H
  have hE:iQ d=dH (decide (16384 < (kr d.jT true false 0 d.flow ⟨0,[]⟩).2.n)) 9:=by rw [iQ,eG,au (by simpa using e1),eG,au (by simpa using e2),eG,au (by simpa using e3)];exact Xj _
  exact kH H (aj kX M (LR results21 M fun H=>H.rt (by rw [hE])))
 skip;refine dI hmx [[],[],[1],[0,1,2],[],[4],[4,5],ra 0 7,ra 0 8,ra 0 9,ra 0 10,ra 0 11,ra 0 12,ra 0 13,ra 0 14,ra 0 15,ra 0 16,ra 0 17,ra 0 18,ra 0 19,ra 0 20,ra 0 21] [19,20,21] V [_,_,sQ d.fin (dh dp) (dh dd) (dh dy),vi (iU d.jT 3 d.fin),_,vi d.fin.marks.ins,_,_,_,vi d.fin.marks.move,_,.bool (decide (d.fin.marks.ins≠0∨d.fin.marks.move≠0)),_,_,dh dd,vi d.fin.marks.bD.length,_,.bool (vD d.fin.marks),vi (dH (vD d.fin.marks) 21)] H (aB (Z0 M (Rm M)) (Z0 M (Rf Fp M)) ?_ ?_ (aB (Z0 M (Rf tL M)) (Z1 4 28 M (Ro aF 0 M)) (Z1 5 29 M (Rc M)) (Z1 6 30 M (Rm M)) (aB (Z1 7 31 M (YF Cu (aY c0) M)) (Z2 8 32 7 31 M (YO aF 0 (aY c0) M)) (Z2 9 33 7 31 M (YC (aY c0) M)) ?_ (aB (Z1 11 35 M (Rm M)) (Z1 12 36 M (YF qH (aY c1) M)) (Z2 13 37 12 36 M (YO qO 0 (aY c1) M)) ?_ (aB (Z2 15 39 12 36 M (YC (aY c1) M)) ?_ ?_ (bS M) (bN (bS M) (bN (bS M) dz))))))) ?_
 ·exact VE
 ·exact Vz
 ·exact ael
 ·refine eT 14 38 12 36 M M fun _ a w G1 hG HT H fin=>?_;refine kH H (YL mQ (aY c1) M ?_);clear H;intro a H;exact fin H iJ (by show _=_;first|rfl|exact cO (fun n:Nat=>vi n) hdl)
 ·refine eT 12 36 16 40 M M fun _ a w G1 hG HT H fin=>?_;refine kH H (Pf (aY c1) M ?_);clear H;intro a H;exact acr
 ·exact VI
 clear H;intro a w G mW H hv;have H:=H.aM (hv 3 27 M M) M;have H:=H.aM (hv 18 42 M M) M;clear hv;refine iV sH jE [_,_] [_,_] H wn M M M M M (by intro i q h;match i,h with|0,h=>exact h|1,h=>exact h|n+2,h=>simp at h) M M ?_;clear H;intro b43 a w ahv H;obtain ⟨PO,FI,N7,H⟩:=H.fU;have FE:=fun b o h=>FI b o (mW b o h);replace hfl:=hfl.mono FE;replace hck:=hck.mono FE;refine s_call tK H wn M (tN _ _ H.ro _ _ (Aq N7)) M ?_;clear H;rintro v44 _ a w ⟨rfl,rfl⟩ - H;refine kH H (Ra M ?_);clear H;intro a H;refine aD ⟨M,?_⟩;refine K9 _ _ ?_;clear K9;refine kP H (SR fun _ kQ=>Rm M (Rc M (Kz kQ (Cd M ?_ ?_)))) <;> clear H kQ
 ·intro h46 a H
  try have p46:=dT h46
  have hE:iQ d=eG [iU d.jT 3 d.fin,dH (vD d.fin.marks) 21]:=by rw [iQ,eG,au (by simpa using e1),eG,ay p46]
  exact kP H (SR fun _ jP=>Rm M (aj jP M (LR results21 M fun H=>H.rt (by rw [hE]))))
 intro h46 a H
 try have p46:=dF h46
 have e2:=oD.1 p46;refine kP H (Kc K8 (SQ fun _ mE=>SR fun _ mF=>Rm M (bC vZ jy 1 M M ?_)));clear H K8;intro a H;refine jM Gx [_,_,_] H wn M M M M ?_;clear H;intro a H;refine gW NA (Li:=[_,_]) (L:=iy b ms ml mr mb mu 0 :: (mb,fJ []) :: []) H wn M (Sv 4294967297 O _ _ _ d.lK.styles d.lK.lists d.revs b ms ml mr mb mu ⟨0,[]⟩ d.flow _ true false 0 hck (Hp.owns (Li:=[_,_]) H.hp) hfl O O O Z (by dsimp only;omega)) rfl ?_;clear H;rintro v52 _ _ a w ⟨rfl,s3,rfl,rfl,h3⟩ - H;dsimp only [lca,bM] at H;refine kH H (aj mF M (SR fun _ jQ=>Rm M (Rc M (Kz jQ (Cd M ?_ ?_))))) <;> clear H mF jQ
 ·intro iT a H
  try have p54:=dT iT
  have hE:iQ d=(kr d.jT true false 0 d.flow ⟨0,[]⟩).1:=by rw [iQ,eG,au (by simpa using e1),eG,au (by simpa using e2),eG,ay p54]
  exact kP H (SR fun _ oM=>Rm M (aj oM M (LR results21 M fun H=>H.rt (by rw [hE]))))
 intro iT a H
 try have p54:=dF iT
 have e3:=oD.1 p54;have hs3:=h3 e3;subst hs3;refine kP H (Kc mE (SR fun _ pQ=>Rm M (Rk M (bC Ih aF 2 M M (Rc M ?_)))));clear H mE;intro a H;refine s_call mZ H wn M (nG _ _ H.ro _ 9) M ?_;clear H;rintro v61 _ a w ⟨rfl,rfl⟩ - H
 have hE:iQ d=dH (decide (16384 < (kr d.jT true false 0 d.flow ⟨0,[]⟩).2.n)) 9:=by rw [iQ,eG,au (by simpa using e1),eG,au (by simpa using e2),eG,au (by simpa using e3)];exact Xj _
 exact kH H (aj pQ M (LR results21 M fun H=>H.rt (by rw [hE])))
def Td (body note:Bool) (t k i:Int):Prop:=(k=3->body=true)∧(k=6->note=false)∧(k=7->t < 4)∧(k=8->1<=i∧i<=1073741824)
mutual
def mh (C:aV) (body note:Bool) (t:Int):ak->Prop
 | .mk k c i tx h f r=>kZ (.mk k c i tx h f r)=0∧Td body note t k i∧iU C k h=0∧(k=6->iN C false true t f)∧(k=7->(r.length≠0∧r.length<=256)∧kJ C note (t+1) r)
def pI (C:aV) (note:Bool) (t:Int):aO->Prop
 | .mk h cs=>Ez C h cs.length=0∧lg C note t cs
def pG (C:aV) (note:Bool) (t:Int):aQ->Prop
 | .mk _ h f=>iU C 10 h=0∧iN C false note t f
def iN (C:aV) (body note:Bool) (t:Int):List ak->Prop
 | []=>True
 | x :: l=>mh C body note t x∧iN C body note t l
def kJ (C:aV) (note:Bool) (t:Int):List aO->Prop
 | []=>True
 | x :: l=>pI C note t x∧kJ C note t l
def lg (C:aV) (note:Bool) (t:Int):List aQ->Prop
 | []=>True
 | x :: l=>pG C note t x∧lg C note t l
end
theorem Aj {C:aV} {body note:Bool} {t:Int}:∀ {l:List ak},iN C body note t l↔∀ x∈l,mh C body note t x
 | []=>by simp [iN]
 | x :: l=>by rw [iN,Aj (l:=l)];simp
theorem S9 {C:aV} {note:Bool} {t:Int}:∀ {l:List aO},kJ C note t l↔∀ x∈l,pI C note t x
 | []=>by simp [kJ]
 | x :: l=>by rw [kJ,S9 (l:=l)];simp
theorem SY {C:aV} {note:Bool} {t:Int}:∀ {l:List aQ},lg C note t l↔∀ x∈l,pG C note t x
 | []=>by simp [lg]
 | x :: l=>by rw [lg,SY (l:=l)];simp
mutual
/-- The units that a check counts. -/
def uI:ak->Nat
 | .mk k _ _ tx _ f r=>(if k=1 then oU tx else 1)+(if k=6 then kM f else if k=7 then pK r else 0)
def uR:aO->Nat
 | .mk _ cs=>qx cs
def uC:aQ->Nat
 | .mk _ _ f=>kM f
def kM:List ak->Nat
 | []=>0
 | x :: l=>uI x+kM l
def pK:List aO->Nat
 | []=>0
 | x :: l=>uR x+pK l
def qx:List aQ->Nat
 | []=>0
 | x :: l=>uC x+qx l
end
def lY (us bO ids:List Int):Prop:=(∀ i∈ids,(1<=i∧i<=1073741824)∧i∉us∧i∉bO)∧ids.Nodup
theorem lY.nil (us bO:List Int):lY us bO []:=⟨fun _ h=>(by cases h),List.nodup_nil⟩
theorem lY.app {us bO a b:List Int}:lY us bO (a++b)↔lY us bO a∧lY us (bO++a) b:=by
 unfold lY
 rw [List.nodup_append]
 constructor
 ·rintro ⟨h,h1,h2,h3⟩;exact ⟨⟨fun i hi=>h i (List.mem_append_left _ hi),h1⟩,fun i hi=>⟨(h i (List.mem_append_right _ hi)).1,(h i (List.mem_append_right _ hi)).2.1,fun hm=>(kC.1 hm).elim (h i (List.mem_append_right _ hi)).2.2 fun ha=>h3 i ha i hi M⟩,h2⟩
 rintro ⟨⟨h,h1⟩,h2,h3⟩;exact ⟨fun i hi=>(kC.1 hi).elim (h i) fun hb=>⟨(h2 i hb).1,(h2 i hb).2.1,fun hm=>(h2 i hb).2.2 (List.mem_append_left _ hm)⟩,h1,h3,fun i hi j hj e=>(h2 j hj).2.2 (List.mem_append_right _ (e ▸ hi))⟩
theorem lY.sub {us bO a b:List Int} (h:lY us bO a) (hs:b.Sublist a):lY us bO b:=⟨fun i hi=>h.1 i (hs.subset hi),hs.nodup h.2⟩
theorem J6 {r:CR} {f:CS->CR} {s':CS}:iZ r f=(0,s')↔∃ m,r=(0,m)∧f m=(0,s'):=by
 constructor
 ·intro h;obtain ⟨h1,h2⟩:=og h;exact ⟨r.2,Prod.ext h1 M,h2⟩
 rintro ⟨m,rfl,h⟩;rw [J7 M];exact h
theorem ze {e:Int} {s m:CS}:((e,s):CR)=(0,m)↔e=0∧m=s:=by rw [iX,@eq_comm _ s m]
theorem Zb {C:aV} {s m:CS} {x:Int}:pq C s x=(0,m)↔lY C.us s.bO [x]∧m=⟨s.n,s.bO++[x]⟩:=by
 unfold pq
 rw [ze]
 have he:sj C.us s.bO x=0↔lY C.us s.bO [x]:=by
  unfold sj lY
  by_cases h0:¬ (1<=x∧x<=1073741824)∨x∈C.us
  ·rw [ay h0];refine ⟨fun h=>(by cases h),fun h=>?_⟩;have:=h.1 x (List.mem_singleton_self _);exact absurd h0 (by rintro (h1|h1);exact h1 this.1;exact this.2.1 h1)
  rw [au h0]
  by_cases h1:x∈s.bO
  ·rw [ay h1];exact ⟨fun h=>(by cases h),fun h=>absurd h1 (h.1 x (List.mem_singleton_self _)).2.2⟩
  rw [au h1];refine ⟨fun _=>⟨fun i hi=>?_,by simp⟩,fun _=>rfl⟩;rw [qY.1 hi];exact ⟨oD.1 fun h=>h0 (.inl h),fun h=>h0 (.inr h),h1⟩
 rw [he]
 constructor
 ·rintro ⟨h,rfl⟩;exact ⟨h,by rw [oq,ay (he.2 h)]⟩
 rintro ⟨h,rfl⟩;exact ⟨h,by rw [oq,ay (he.2 h)]⟩
theorem uO {b:Bool} {e:Int} (he:e≠0):dH b e=0↔b=false:=by cases b <;> simp [dH,he]
theorem acs {p:Prop} (h:p:=by
 exact ⟨s,⟨h1 trivial,M⟩,by simpa using h2,by simpa using h4⟩):p:=h
theorem aAA {C:aV} {body note:Bool} {t k i:Int} {s m:CS}:tq C body note t k i s=(0,m)↔Td body note t k i∧lY C.us s.bO (if k=6∨k=7 then [i] else [])∧m=⟨s.n,s.bO++(if k=6∨k=7 then [i] else [])⟩:=by
 unfold tq Td
 by_cases h3:k=3
 ·subst h3;rw [ay M,ze,uO Z];cases body <;> simp [lY.nil]
 rw [au h3]
 by_cases h6:k=6
 ·subst h6;rw [ay M,J6]
  simp only [ze,uO (show (19:Int)≠0 by decide),Zb]
  constructor
  ·rintro ⟨_,⟨h1,rfl⟩,h2,h4⟩;exact ⟨⟨fun h=>absurd h Z,fun _=>h1,fun h=>absurd h Z,fun h=>absurd h Z⟩,by simpa using h2,by simpa using h4⟩
  rintro ⟨⟨-,h1,-,-⟩,h2,h4⟩;exact acs
 rw [au h6]
 by_cases h7:k=7
 ·subst h7;rw [ay M,J6]
  simp only [ze,uO (show (17:Int)≠0 by decide),Zb,uW,Int.not_le]
  constructor
  ·rintro ⟨_,⟨h1,rfl⟩,h2,h4⟩;exact ⟨⟨fun h=>absurd h Z,fun h=>absurd h Z,fun _=>h1,fun h=>absurd h Z⟩,by simpa using h2,by simpa using h4⟩
  rintro ⟨⟨-,-,h1,-⟩,h2,h4⟩;exact acs
 rw [au h7,au (show ¬ (k=6∨k=7) by omega),fG]
 by_cases h8:k=8
 ·rw [ay h8,ze,uO Z]
  simp [h3,h6,h7,h8,lY.nil]
 rw [au h8,ze];simp [h3,h6,h7,h8,lY.nil]
theorem aBk {n:Nat} {f:CS->CR} {s s':CS}:nQ n f s=(0,s')↔(n≠0∧n<=256)∧f s=(0,s'):=by
 unfold nQ
 split
 ·rename_i h;simp [h]
 rename_i h
 split
 ·rename_i h2;simp [show ¬ n<=256 by omega]
 rename_i h2;simp [h,show n<=256 by omega]
theorem anP {p:Prop} (h:p:=by
 exact ⟨⟨q1,q3⟩,⟨q2,q4⟩,by rw [iL];congr 1;push_cast;omega⟩):p:=h
theorem anQ {p:Prop} (h:p:=by
 exact ⟨_,⟨q1,q2,M⟩,q3,q4,by rw [iL];congr 1;push_cast;omega⟩):p:=h
theorem VJ {p:Prop} (h:p:=by
 simp only [J6,h1,h2,lY.app]
 constructor
 ·rintro ⟨_,⟨q1,q2,rfl⟩,q3,q4,rfl⟩;exact anP
 rintro ⟨⟨q1,q3⟩,⟨q2,q4⟩,rfl⟩;exact anQ):p:=h
mutual
theorem apd (C:aV) (body note:Bool) (t:Int):∀ (x:ak) (s s':CS),fO C body note t x s=(0,s')↔mh C body note t x∧lY C.us s.bO (rZ x)∧s'=⟨s.n+(uI x:Nat),s.bO++rZ x⟩
 | .mk k c i tx h f r,s,s'=>by
  have hf:=Nk C false true t f;have hr:=aeG C note (t+1) r;rw [fO,mh,rZ,uI]
  simp only [J6,ze,aAA]
  by_cases h6:k=6
  ·subst h6
   simp only [if_true,hf,lY.app,true_or,au (show ¬ (6:Int)=7 by decide),au (show ¬ (6:Int)=1 by decide),fG]
   constructor
   ·rintro ⟨_,⟨h1,rfl⟩,_,⟨h2,h3,rfl⟩,_,⟨h4,rfl⟩,h5,h7,rfl⟩;exact ⟨⟨h1,h2,h4,fun _=>h5,fun h=>absurd h Z⟩,⟨h3,h7⟩,by rw [iL];congr 1;push_cast;omega⟩
   rintro ⟨⟨h1,h2,h4,h5,-⟩,⟨h3,h7⟩,rfl⟩;exact ⟨s,⟨h1,M⟩,_,⟨h2,h3,M⟩,_,⟨h4,M⟩,h5 trivial,h7,by rw [iL];congr 1;push_cast;omega⟩
  by_cases h7:k=7
  ·subst h7
   simp only [if_true,aBk,hr,lY.app,or_true,au (show ¬ (7:Int)=6 by decide),au (show ¬ (7:Int)=1 by decide),jA]
   constructor
   ·rintro ⟨_,⟨h1,rfl⟩,_,⟨h2,h3,rfl⟩,_,⟨h4,rfl⟩,h0,h5,h8,rfl⟩;exact ⟨⟨h1,h2,h4,fun h=>absurd h Z,fun _=>⟨h0,h5⟩⟩,⟨h3,h8⟩,by rw [iL];congr 1;push_cast;omega⟩
   rintro ⟨⟨h1,h2,h4,-,h5⟩,⟨h3,h8⟩,rfl⟩;exact ⟨s,⟨h1,M⟩,_,⟨h2,h3,M⟩,_,⟨h4,M⟩,(h5 trivial).1,(h5 trivial).2,h8,by rw [iL];congr 1;push_cast;omega⟩
  simp only [au h6,au h7,au (show ¬ (k=6∨k=7) by omega),fG,ze]
  constructor
  ·rintro ⟨_,⟨h1,rfl⟩,_,⟨h2,h3,rfl⟩,_,⟨h4,rfl⟩,-,rfl⟩;exact ⟨⟨h1,h2,h4,fun h=>absurd h h6,fun h=>absurd h h7⟩,lY.nil _ _,by simp⟩
  rintro ⟨⟨h1,h2,h4,-,-⟩,h3,rfl⟩;exact ⟨s,⟨h1,M⟩,_,⟨h2,lY.nil _ _,M⟩,_,⟨h4,M⟩,aC,by simp⟩
theorem ape (C:aV) (note:Bool) (t:Int):∀ (x:aO) (s s':CS),Al C note t x s=(0,s')↔pI C note t x∧lY C.us s.bO (wE x)∧s'=⟨s.n+(uR x:Nat),s.bO++wE x⟩
 | .mk h cs,s,s'=>by
  have hc:=aeF C note t cs;rw [Al,pI,wE,uR]
  simp only [J6,ze,hc]
  constructor
  ·rintro ⟨_,⟨h1,rfl⟩,h2,h3⟩;exact ⟨⟨h1,h2⟩,h3⟩
  rintro ⟨⟨h1,h2⟩,h3⟩;exact ⟨s,⟨h1,M⟩,h2,h3⟩
theorem apc (C:aV) (note:Bool) (t:Int):∀ (x:aQ) (s s':CS),cellC C note t x s=(0,s')↔pG C note t x∧lY C.us s.bO (xw x)∧s'=⟨s.n+(uC x:Nat),s.bO++xw x⟩
 | .mk i h f,s,s'=>by
  have hf:=Nk C false note t f;rw [cellC,pG,xw,uC,show i :: jI f=[i]++jI f from rfl]
  simp only [J6,ze,hf,Zb,lY.app]
  constructor
  ·rintro ⟨_,⟨h1,rfl⟩,_,⟨h2,rfl⟩,h3,h4,rfl⟩;exact ⟨⟨h2,h3⟩,⟨h1,h4⟩,by rw [iL]⟩
  rintro ⟨⟨h2,h3⟩,⟨h1,h4⟩,rfl⟩;exact ⟨_,⟨h1,M⟩,_,⟨h2,M⟩,h3,h4,by rw [iL]⟩
theorem Nk (C:aV) (body note:Bool) (t:Int):∀ (l:List ak) (s s':CS),kr C body note t l s=(0,s')↔iN C body note t l∧lY C.us s.bO (jI l)∧s'=⟨s.n+(kM l:Nat),s.bO++jI l⟩
 | [],s,s'=>by rw [kr,iN,jI,kM,ze];simp [lY.nil]
 | x :: r,s,s'=>by
  have h1:=apd C body note t x;have h2:=Nk C body note t r;rw [kr,iN,jI,kM]
  exact VJ
theorem aeG (C:aV) (note:Bool) (t:Int):∀ (l:List aO) (s s':CS),jm C note t l s=(0,s')↔kJ C note t l∧lY C.us s.bO (om l)∧s'=⟨s.n+(pK l:Nat),s.bO++om l⟩
 | [],s,s'=>by rw [jm,kJ,om,pK,ze];simp [lY.nil]
 | x :: r,s,s'=>by
  have h1:=ape C note t x;have h2:=aeG C note t r;rw [jm,kJ,om,pK]
  exact VJ
theorem aeF (C:aV) (note:Bool) (t:Int):∀ (l:List aQ) (s s':CS),rV C note t l s=(0,s')↔lg C note t l∧lY C.us s.bO (oZ l)∧s'=⟨s.n+(qx l:Nat),s.bO++oZ l⟩
 | [],s,s'=>by rw [rV,lg,oZ,qx,ze];simp [lY.nil]
 | x :: r,s,s'=>by
  have h1:=apc C note t x;have h2:=aeF C note t r;rw [rV,lg,oZ,qx]
  exact VJ
end
theorem atT {a b c d:Int}:eG [a,b,c,d]=0↔a=0∧b=0∧c=0∧d=0:=by
 constructor
 ·intro h;have z:=lQ h;exact ⟨z _ (by simp),z _ (by simp),z _ (by simp),z _ (by simp)⟩
 rintro ⟨rfl,rfl,rfl,rfl⟩;rfl
theorem Rt {a b:Int}:eG [a,b]=0↔a=0∧b=0:=by
 constructor
 ·intro h;have z:=lQ h;exact ⟨z _ (by simp),z _ (by simp)⟩
 rintro ⟨rfl,rfl⟩;rfl
theorem yV (d:gX):iQ d=0↔(Nj d.lK=0∧DL d.revs=0)∧(iU d.jT 3 d.fin=0∧vD d.fin.marks=false)∧iN d.jT true false 0 d.flow∧lY [] [] (jI d.flow)∧kM d.flow<=16384:=by
 unfold iQ
 rw [atT,Rt,Rt,uO Z,uO Z,uW]
 constructor
 ·rintro ⟨h1,h2,h3,h4⟩;obtain ⟨q1,q2,q3⟩:=(Nk d.jT true false 0 d.flow ⟨0,[]⟩ _).1 (QM h3);rw [q3] at h4;dsimp only at h4;exact ⟨h1,h2,q1,q2,O⟩
 rintro ⟨h1,h2,q1,q2,q3⟩;have h:=(Nk d.jT true false 0 d.flow ⟨0,[]⟩ _).2 ⟨q1,q2,M⟩;rw [h];exact ⟨h1,h2,M,by dsimp only;omega⟩
def mJ (z y:ak):ak:=.mk z.kind z.code z.id (z.text++y.text) z.head z.flow z.rows
def qG (y:ak):Prop:=(y.kind=7∧y.rows.length=0)∨(y.kind=1∧y.text.size=0)
def pE (z y:ak):Prop:=y.kind=1∧z.kind=1∧z.head=y.head
instance (y:ak):Decidable (qG y):=inferInstanceAs (Decidable (_∨_))
instance (z y:ak):Decidable (pE z y):=inferInstanceAs (Decidable (_∧_∧_))
def addN (out:List ak) (y:ak):List ak :=
 if qG y then out else match out.getLast? with
  | none=>out++[y]
  | some z=>if pE z y then out.dropLast++[mJ z y] else out++[y]
theorem E8 {out:List ak} {y:ak} (h:qG y):addN out y=out:=ay h
theorem AQ {out:List ak} {y:ak} (h:¬ qG y) (hj:∀ o z,out=o++[z]->¬ pE z y):addN out y=out++[y]:=by
 unfold addN
 rw [au h]
 split
 ·rfl
 rename_i z hz
 obtain ⟨o,rfl⟩:=List.getLast?_eq_some_iff.1 hz;rw [au (hj o z M)]
theorem zU {o:List ak} {z y:ak} (h:¬ qG y) (hj:pE z y):addN (o++[z]) y=o++[mJ z y]:=by
 unfold addN
 rw [au h,List.getLast?_concat];dsimp only;rw [ay hj,List.dropLast_concat]
theorem abB (out:List ak) (y:ak):addN out y=out∨addN out y=out++[y]∨∃ o z,out=o++[z]∧z.kind=1∧y.kind=1∧addN out y=o++[mJ z y]:=by
 by_cases h:qG y
 ·exact .inl (E8 h)
 by_cases hj:∃ o z,out=o++[z]∧pE z y
 ·obtain ⟨o,z,rfl,hj⟩:=hj;exact .inr (.inr ⟨o,z,M,hj.2.1,hj.1,zU h hj⟩)
 exact .inr (.inl (AQ h fun o z e hz=>hj ⟨o,z,e,hz⟩))
mutual
/-- What becomes of an item in a normal form, of rows, of cells. -/
def nI:ak->ak
 | .mk k c i t h f r=>.mk k c i t h ((lV f).foldl addN []) (kW r)
def lV:List ak->List ak
 | []=>[]
 | x :: l=>nI x :: lV l
def nR:aO->aO
 | .mk h c=>.mk h (kV c)
def kW:List aO->List aO
 | []=>[]
 | x :: l=>nR x :: kW l
def nC:aQ->aQ
 | .mk i h f=>.mk i h ((lV f).foldl addN [])
def kV:List aQ->List aQ
 | []=>[]
 | x :: l=>nC x :: kV l
end
theorem Jk:∀ l:List ak,lV l=l.map nI
 | []=>by simp [lV]
 | x :: l=>by simp [lV,Jk l]
theorem F6:∀ l:List aO,kW l=l.map nR
 | []=>by simp [kW]
 | x :: l=>by simp [kW,F6 l]
theorem Jj:∀ l:List aQ,kV l=l.map nC
 | []=>by simp [kV]
 | x :: l=>by simp [kV,Jj l]
def vE (l:List ak) (k:Nat):List ak:=((l.take k).map nI).foldl addN []
def iA (l:List ak):List ak:=vE l l.length
theorem SL (x:ak):nI x=.mk x.kind x.code x.id x.text x.head (iA x.flow) (x.rows.map nR):=by
 cases x;rw [nI,Jk,F6];simp [iA,vE,ak.kind,ak.code,ak.id,ak.text,ak.head,ak.flow,ak.rows]
theorem ajC (x:aO):nR x=.mk x.head (x.cells.map nC):=by cases x;rw [nR,Jj];rfl
theorem azs (x:aQ):nC x=.mk x.id x.head (iA x.flow):=by cases x;rw [nC,Jk];simp [iA,vE,aQ.id,aQ.head,aQ.flow]
theorem ajX {l:List ak} {k:Nat} (h:k < l.length):vE l (k+1)=addN (vE l k) (nI l[k]):=by
 unfold vE;rw [jK h,ji,List.foldl_append];rfl
theorem aDm (out:List ak) (y:ak):nA (addN out y)<=nA out+(y.text.size+1):=by
 rcases abB out y with e|e|⟨o,z,rfl,-,-,e⟩ <;> rw [e]
 ·omega
 ·rw [JC];simp [nA]
 rw [JC,JC];have:(mJ z y).text.size=z.text.size+y.text.size:=ByteArray.size_append
 simp only [nA,this];omega
theorem ZT {l:List ak}:∀ {k:Nat},k<=l.length->nA (vE l k)<=nA (l.take k)
 | 0,_=>by simp [vE,nA]
 | k+1,h=>by
  have ih:=ZT (l:=l) (k:=k) O;have h1:=aDm (vE l k) (nI l[k])
  have h2:(nI l[k]).text=l[k].text:=by rw [SL];rfl
  rw [h2] at h1;rw [ajX O,jK O,JC]
  simp only [nA];omega
theorem aAe {l:List ak} {k:Nat} (h:k<=l.length):(vE l k).length<=nA l:=by
 have h1:=Sy (vE l k);have h2:=ZT h;have h3:=aaK l k
 omega
mutual
/-- Tables whose rows all have cells. -/
def Mc:ak->Prop
 | .mk _ _ _ _ _ f r=>xE f∧Ev r
def xE:List ak->Prop
 | []=>True
 | x :: l=>Mc x∧xE l
def F9:aO->Prop
 | .mk _ c=>c≠[]∧F8 c
def Ev:List aO->Prop
 | []=>True
 | x :: l=>F9 x∧Ev l
def F7:aQ->Prop
 | .mk _ _ f=>xE f
def F8:List aQ->Prop
 | []=>True
 | x :: l=>F7 x∧F8 l
end
theorem ajI:∀ {l:List ak},xE l->∀ x∈l,Mc x
 | [],_,_,h=>by cases h
 | y :: l,h,x,hx=>by
  rw [xE] at h
  rcases gu.1 hx with rfl|hx
  ·exact h.1
  exact ajI h.2 x hx
theorem ZO:∀ {l:List aO},Ev l->∀ x∈l,F9 x
 | [],_,_,h=>by cases h
 | y :: l,h,x,hx=>by
  rw [Ev] at h
  rcases gu.1 hx with rfl|hx
  ·exact h.1
  exact ZO h.2 x hx
theorem ajH:∀ {l:List aQ},F8 l->∀ x∈l,F7 x
 | [],_,_,h=>by cases h
 | y :: l,h,x,hx=>by
  rw [F8] at h
  rcases gu.1 hx with rfl|hx
  ·exact h.1
  exact ajH h.2 x hx
theorem azC (x:ak):Mc x=(xE x.flow∧Ev x.rows):=by cases x;rw [Mc];rfl
theorem ajJ (x:aO):F9 x=(x.cells≠[]∧F8 x.cells):=by cases x;rw [F9];rfl
theorem azB (x:aQ):F7 x=xE x.flow:=by cases x;rw [F7];rfl
def zT (s:CS) (z:Nat) (r:CR):Prop:=r.2.bO.length<=s.bO.length+z
theorem zT.and {s:CS} {z y q:Nat} {r:CR} {f:CS->CR} (h:zT s z r) (hq:z+y<=q) (hf:∀ s,zT s y (f s)):zT s q (iZ r f):=by
 unfold zT at *
 unfold iZ
 split
 ·omega
 have:=hf r.2
 omega
theorem zT.zero (s:CS) (e:Int) (q:Nat):zT s q (e,s):=by unfold zT;dsimp only;omega
theorem zT.le {s:CS} {z y:Nat} {r:CR} (h:zT s z r) (hq:z<=y):zT s y r:=by unfold zT at *;omega
structure JL where
 code:Int
 id:Int
 name:ByteArray
 flow:Int
 at_:Int
def JL.dat (x:JL):List Dat:=[li x.code,li x.id,.lf (.string x.name),li x.flow,li x.at_]
abbrev JL.cells (x:JL):List ah:=[vi x.code,vi x.id,.string x.name,vi x.flow,vi x.at_]
abbrev JL.val (x:JL):ah:=.agg #[vi x.code,vi x.id,.string x.name,vi x.flow,vi x.at_]
def CbU (P:Program) (fv:ah) (Gi:GH) (xs:List AP) (J:Nat->GH->OL->Prop):Prop :=
 ∀ k args G L w,xJ xs k args G->(∀ b o,Gi b=some o->G b=some o)->J k G L->gq G L w->uh P fv args w (fM w G L fun _ G' L'=>J (k+1) G' L')
theorem Dq:Ty prog 137 1 8 [.nilFunc] false:=⟨V,V⟩
theorem asS:aR 81:=aS func81 M
theorem EH:Ty prog 41 1 24 [.slice none 0 0] false:=⟨V,V⟩
theorem ayu (G:GH) (n:Int):aX G [li n] [vi n]:=by simp [aX,av,Value.oneCell']
def Po (A:List jF):Int:=A.foldl (fun n f=>n+zB f.items) 0
mutual
theorem aDW (note:Bool) (t:Int):∀ x:ak,(zM note t x).length < bX x.dat
 | .mk k c i tx h f r=>by
  have h4:=uP (.mk k c i tx h f r);have hf:=Ud true t f;have hr:=amk note t r;dsimp only [ak.text,ak.head,ak.flow,ak.rows] at h4;rw [zM]
  split
  ·rw [kR];omega
  split <;> first|omega|(simp only [List.length_nil];omega)
theorem Ud (note:Bool) (t:Int):∀ l:List ak,(lu note t l).length<=bq l
 | []=>by simp [lu]
 | x :: l=>by
  have h1:=aDW note t x;have h2:=Ud note t l;rw [lu,gF]
  simp only [bq,dO,dM] at *;omega
theorem aDZ (note:Bool) (t:Int):∀ x:aO,(zN note t x).length<=bX x.dat
 | .mk h cs=>by
  have h4:=zP (.mk h cs);have hc:=amg note t cs;dsimp only [aO.head,aO.cells] at h4;rw [zN];omega
theorem amk (note:Bool) (t:Int):∀ l:List aO,(rQ note t l).length<=fQ l
 | []=>by simp [rQ]
 | x :: l=>by
  have h1:=aDZ note t x;have h2:=amk note t l;rw [rQ,gF]
  simp only [fQ,dO,dM] at *;omega
theorem aDR (note:Bool) (t:Int):∀ x:aQ,(zL note t x).length<=bX x.dat
 | .mk i h f=>by
  have h4:=zO (.mk i h f);have hf:=Ud note (t+1) f;dsimp only [aQ.head,aQ.flow] at h4;rw [zL,kR];omega
theorem amg (note:Bool) (t:Int):∀ l:List aQ,(sI note t l).length<=gH l
 | []=>by simp [sI]
 | x :: l=>by
  have h1:=aDR note t x;have h2:=amg note t l;rw [sI,gF]
  simp only [gH,dO,dM] at *;omega
end
theorem afl (G:GH) (w0:World) (hG:Hold G w0) (D:kN) (l:List ak) (hv:av G (.sl 11 (l.map ak.dat)) (dh D.f)) (hz:bq l<=4294967296) :
  Calls prog 41 #[D.val] w0 (bE w0 G fun u G'=>av G' (.sl 1 ((qg l).map fun f:jF=>[li f.id])) u):=by
 have hml:4294967299<=maxLen:=by decide
 have hn:(qg l).length<=4294967297:=by
  have:=Ud false 0 l;rw [qg,kR];omega
 refine eN [(0,_)] func41 M ntmps41 M M hG ?_;intro a H;refine cZ (fun _ K1=>?_);refine dZ (cs:=[_,_,_,_,_,_,_,_,_,_,_]) H wn M M M ?_;clear H;intro b1 a w hb1 H;refine kH H (aj K1 M (SR fun _ K2=>?_));clear H K1;intro a H;refine dW EH H wn M ?_;clear H;intro b3 a w hb3 H;refine K2 _ _ ?_;clear K2;refine bL (fun _ K3=>?_);refine bL (fun _ K4=>?_);have H:=H.eD (Pl:=[_,_]) (dK:=[_,_]) [1,0] Z M;refine oQ ?_;refine bQ jN (cs:=[_,_,_,_,_,_,_,_,_,_,_]) H wn M M (H.hp.dG 0 M M) M ?_;clear H;intro a H;refine s_call afY H wn M (ajR _ _ H.ro D l hv hz) M ?_;clear H;rintro v6 G6 a w ⟨ba,bl,bp,rfl,hit⟩ Eo H;refine aD ?_;refine K4 _ _ ?_;clear K4;refine AY ?_;skip;refine QE (ι:=ah × List ah × OL) (κ:=Empty) (Lc:=[(_,_)]) (fun (k:Nat) (gh:ah × List ah × OL)=>[(b3,.cells #[gh.1] 41 (0,0))]) (fun (k:Nat) (gh:ah × List ah × OL)=>gh.2.2) (fun (k:Nat) (gh:ah × List ah × OL) (g:GH)=>bY 3 1 gh.1 k gh.2.1 gh.2.2∧dx g 1 (((qg l).take k).map fun f:jF=>[li f.id]) gh.2.1) (fun x=>x.elim) (fun x=>x.elim) (fun x=>x.elim) (fun x=>x.elim) ((.slice none 0 0,[],[])) (by exact H.Jm (A:=[_,_])) M WQ (hit) (fun _ _ h=>h) M (fun k args g h=>by obtain ⟨_,_,_,_,rfl,_⟩:=Rx h;rfl) (fun k i G G' hm h=>⟨h.1,h.2.mono hm⟩) (fun x=>x.elim) (⟨bY.nil,dx.nil⟩) ?_ ?_ ?_
 ·clear H;intro l3 Da zY bk k args gh G3 w3 F3 B3 a hk3 zw hI avD awS aFu H;obtain ⟨v,xs,Lo⟩:=gh;dsimp only at hI H;obtain ⟨hk,vA,vn,vc,rfl,hfr⟩:=Rx hk3;dsimp only [yP,List.cons_append,List.nil_append] at H;obtain ⟨hrw,fu⟩:=hI;refine kP H (SC (Ra M ?_));clear H;intro a H;refine aD ?_;refine avD _ _ _ _ _ _ (by exact H) ?_;clear H;intro w H;refine kP H (SB (SC (Ro EH 2 M (Rm M ?_))));clear H;intro a H;refine iV mD aF [_] [_] H wn M M M M M (by intro i q h;match i,h with|0,h=>exact h|n+1,h=>simp at h) M M ?_;clear H;intro b11 a w KV H;refine ny (Li:=[_,_,_,_]++bk) (Lo:=Lo) (news:=[vi (qg l)[k].id]) mD aF M M (St.un (A:=[_,_,_,_]) H) wn M M hrw M (H.hp.dG 0 M M) M O O M ?_;clear H;intro v12 amU a w LQ H;obtain ⟨A12,c12,rfl,-,-⟩:=LQ.shape
  simp only [iL,pR,jA] at H
  refine bJ EH 3 (vs:=[_]) H wn M ?_;clear H;intro w H;refine aD ?_;refine awS ((.slice A12 (k+1) c12,xs++[vi (qg l)[k].id],amU)) _ _ _ _ _ (by exact H.eD (Pl:=[_,_,_,_]) (dK:=[_,_,_]) [1,2,3] Z M) ?_;exact ⟨LQ,by rw [jK hk,ji];exact fu.snoc (ayu _ _) M⟩
 ·clear H;intro Dk3 gh Gd3 a w zw hI H;obtain ⟨v,xs,Lo⟩:=gh;dsimp only at hI H;dsimp only [lca,bM] at H;obtain ⟨hrw,fu⟩:=hI;rw [bK] at hrw fu;rw [uV] at fu;refine K3 _ _ ?_;clear K3;refine kP H (SR fun _ K5=>Ro EH 2 M (aj K5 M ?_));clear H K5;intro a H;refine eP ?_;refine (Je H 0 M ?_).1;clear H;intro a w H;dsimp only [List.eraseIdx_cons_succ,List.eraseIdx_cons_zero] at H;refine lv H results41 M ?_;obtain ⟨Gr,hmr,hrep,H⟩:=St.qh (Li:=[_,_]) H hrw (rows:=(qg l).map fun f:jF=>[li f.id]) (by simp) fu;exact H.rt hrep
 intro Dk x;exact x.elim
theorem WY:aR 88:=aS func88 M
mutual
/-- The heads of items, rows and cells, in document order. -/
def Bp:ak->List dD
 | .mk k _ _ _ h f r=>h :: ((if k=6 then kT f else [])++(if k=7 then ql r else []))
def kT:List ak->List dD
 | []=>[]
 | x :: r=>Bp x++kT r
def FC:aO->List dD
 | .mk h c=>h :: ru c
def ql:List aO->List dD
 | []=>[]
 | x :: r=>FC x++ql r
def Fz:aQ->List dD
 | .mk _ h f=>h :: kT f
def ru:List aQ->List dD
 | []=>[]
 | x :: r=>Fz x++ru r
end
theorem ava (x:ak):Bp x=x.head :: ((if x.kind=6 then kT x.flow else [])++(if x.kind=7 then ql x.rows else [])):=by cases x;rw [Bp];rfl
theorem avi (x:aO):FC x=x.head :: ru x.cells:=by cases x;rw [FC];rfl
theorem auw (x:aQ):Fz x=x.head :: kT x.flow:=by cases x;rw [Fz];rfl
def II (h:dD):AP:=fun args G=>∃ p d y:Option Addr × Nat × Nat,args=[.agg #[dh p,vi h.marks.ins,vi h.marks.move,dh d,dh y]]∧jG G h (dh p) (dh d) (dh y)
theorem Yg {G:GH} {h:dD} {pA dA yA:Option Addr} {pn pc dn dc yn yc:Nat} (hr:jG G h (.slice pA pn pc) (.slice dA dn dc) (.slice yA yn yc)):II h [.agg #[.slice pA pn pc,vi h.marks.ins,vi h.marks.move,.slice dA dn dc,.slice yA yn yc]] G:=⟨(pA,pn,pc),(dA,dn,dc),(yA,yn,yc),M,hr⟩
def UD (n:Nat):Prop:=∀ (fv:ah) (Gi:GH) (xs:List AP) (J:Nat->GH->OL->Prop) (G:GH) (L:OL) (w0:World) (j:Nat) (l:List ak) (v:ah),
 (∀ b o,Gi b=some o->G b=some o)->CbU prog fv Gi xs J->ET J->J j G L->gq G L w0->av G (.sl 11 (l.map ak.dat)) v->bq l < n->(∀ i a,(kT l)[i]?=some a->xs[j+i]?=some (II a)) ->
 Calls prog 88 #[v,fv] w0 (fM w0 G L fun _ G' L'=>J (j+(kT l).length) G' L')
set_option maxHeartbeats 4000000 in
theorem avX {n:Nat} (ih:UD n) (hn:n<=4294967296):UD (n+1):=by
 intro fv Gi xs J G L w0 j0 l v hGi hcb tT hJ0 hO hv hz hx0;obtain ⟨A,c,rfl,hc1,hc2,hg⟩:=hv.slice;rw [bK] at *;have hll:=Dw l;refine jc (N:=59) (T:=[(0,_),(1,_)]) func88 M ntmps88 M M hO ?_;intro a H;refine kP H (SR fun _ K1=>Rm M (Rl iB M (Rm M (Kz K1 (SB ?_)))));clear H K1;intro a H;skip;refine fD (ι:=Nat × Nat × OL × GH) (Tc:=[(1,_),(10,_),(11,_)]) (Lc:=[]) (fun gh=>[(12,vi gh.1)]) (fun gh=>[]++gh.2.2.1) (fun gh=>gh.2.2.2) (fun gh=>gh.1<=l.length∧(∀ b o,G b=some o->gh.2.2.2 b=some o)∧Now xs II J (j0+(kT l).length) gh.2.1 (kT (l.drop gh.1)) gh.2.2.2 gh.2.2.1) (fun gh=>l.length - gh.1) ((0,j0,L,G)) (by exact H.sub ⟨M,M,M,M,aC⟩) ?_ ?_
 ·exact ⟨O,fun _ _ h=>h,⟨hJ0,hx0,M⟩⟩
 clear H;rintro ⟨k,j,Lt,g1⟩ a w hI H;dsimp only at hI H;obtain ⟨hk,hgm,iG⟩:=hI;dsimp only [lca,bM] at H;refine kP H (SR fun _ K2=>Rc M (Kz K2 (SQ fun _ K3=>Cd M ?_ ?_))) <;> clear H K2
 ·intro ig a H
  try have sZ:=dT ig
  have hk2:k < l.length:=by omega
  obtain ⟨b,o,pA,pn,pc,dA,dn,dc,yA,yn,yc,fA,fn,fc,rA,rn,rc,rfl,hrow,hhd,hfl,hrw⟩:=DV hk2 hg;replace hrow:=fun j u hj=>aG hgm (hrow j u hj);replace hhd:=hhd.mono hgm;replace hfl:=hfl.mono hgm;replace hrw:=hrw.mono hgm;have hrn:=hrw.len;rw [bK] at hrn;subst hrn;have hsz1:=Uk hk2;rw [nK hk2] at iG
  simp only [kT,ava,iL,pR] at iG
  obtain ⟨x,hx⟩:∃ x,x=l[k]:=⟨_,M⟩;rw [<- hx] at iG hrow hhd hfl hrw hsz1;have hrl:=JH x.rows;refine kP H (Kc K3 (SQ fun _ K4=>SB (SR fun _ K5=>Ri iB eZ M M ?_)));clear H K3;intro a H;refine bQ eZ (cs:=[_,_,_,_,_,_,_,_,_,_,_]) H wn M M (fun j v hj=>H.hp.aI (hrow j v hj)) M ?_;clear H;intro a H;refine dW eZ H wn M ?_;clear H;intro b5 a w hb5 H;refine bJ eZ 0 (vs:=[_,_,_,_,_,_,_,_,_,_,_]) H wn M ?_;clear H;intro w H;refine K5 _ _ ?_;clear K5;refine kP H (SR fun _ K6=>Rm M (Rf wU M ?_));clear H;intro a H;refine bQ gB (cs:=[_,_,_,_,_]) H wn M M (H.hp.dG 0 M M) M ?_;clear H;intro a H;refine BL (Li:=[_]) (L:=Lt) H wn M M (hcb _ _ _ _ _ ⟨_,iG.head,Yg hhd⟩ (fun b o h=>hgm b o (hGi b o h)) iG.now (Hp.owns (Li:=[_]) H.hp)) M ?_;clear H;intro v19 GQ UN a w avb sW H;have yw:=iG.step avb;refine K6 _ _ ?_;clear K6;refine kP H (SR fun _ K7=>bC kF aF 0 M M (Kz K7 (SB (SR fun _ K8=>Rc M (aj K8 M (Cd M ?_ ?_)))))) <;> clear H K7 K8
  ·intro h22 a H
   try have nk:=dT h22
   rw [ay nk,bU,jA] at yw;refine kP H (SC (bC Af jy 0 M M (Rm M ?_)));clear H;intro a H;refine gW WY (Li:=[_]) (L:=UN) H wn M (ih fv Gi xs J _ _ _ (j+1) x.flow _ (fun b o h=>sW b o (hgm b o (hGi b o h))) hcb tT yw.now (Hp.owns (Li:=[_]) H.hp) (hfl.mono sW) O yw.part) M ?_;clear H;intro v27 G27 anc a w avc ahN H;refine kH H (Kn K4 (SC (Rd M (Rm M ?_))));clear H K4;intro a H;refine aD ?_;refine dQ ((k+1,j+1+(kT x.flow).length,anc,G27)) (by exact (H.eD (Pl:=[_]) (dK:=[]) [] Z M).sub ⟨M,M,M,M,aC⟩) ?_
   (try dsimp only);exact ⟨O,fun b o h=>ahN b o (sW b o (hgm b o h)),yw.jump avc⟩
  intro h22 a H
  try have nk:=dF h22
  rw [au nk,jA] at yw;refine kP H (SR fun _ K9=>Rc M (aj K9 M (Cd M ?_ ?_))) <;> clear H K9
  ·intro gG a H
   try have p28:=dT gG
   rw [ay p28] at yw;refine kP H (SR fun _ aT=>bC qd qw 0 M M (Rl mR M (Rm M (Kz aT (SB ?_)))));clear H aT;intro a H;skip;refine fD (ι:=Nat × Nat × OL × GH) (Tc:=[(1,_),(10,_),(11,_),(12,_),(31,_),(32,_)]) (Lc:=[(_,_)]) (fun gh=>[(33,vi gh.1)]) (fun gh=>[]++gh.2.2.1) (fun gh=>gh.2.2.2) (fun gh=>gh.1<=x.rows.length∧(∀ b o,GQ b=some o->gh.2.2.2 b=some o)∧Now xs II J (j0+(kT l).length) gh.2.1 (ql (x.rows.drop gh.1)++kT (l.drop (k+1))) gh.2.2.2 gh.2.2.1) (fun gh=>x.rows.length - gh.1) ((0,j+1,UN,GQ)) (by exact H.sub ⟨M,M,M,M,M,M,M,aC⟩) ?_ ?_
   ·exact ⟨O,fun _ _ h=>h,yw⟩
   clear H;rintro ⟨rk,j3,Lt3,g3⟩ a w hI H;dsimp only at hI H;obtain ⟨hrk,hg3,uK⟩:=hI;dsimp only [lca,bM] at H;refine kP H (SR fun _ bR=>Rc M (Kz bR (SQ fun _ cu=>Cd M ?_ ?_))) <;> clear H bR
   ·intro gN a H
    try have p34:=dT gN
    have hk3:rk < x.rows.length:=by omega
    obtain ⟨b2,o2,qA,qn,qc,eA,en,ec,zA,zn,zc,cA,cn,cc,rfl,hrow,FR,hcl⟩:=OW hk3 ((hrw.mono sW).mono hg3).at_;have hcn:=hcl.len;rw [bK] at hcn;subst hcn;have hsz2:=Ul hk3;have hcs:=JG x.rows[rk].cells;rw [nK hk3] at uK
    simp only [ql,avi,iL,pR] at uK
    obtain ⟨y,hy⟩:∃ y,y=x.rows[rk]:=⟨_,M⟩;rw [<- hy] at uK hrow FR hcl hsz2 hcs;refine kP H (Kc cu (SQ fun _ dw=>SB (SR fun _ dB=>Ri mR jO M M ?_)));clear H cu;intro a H;refine bQ jO (cs:=[_,_,_,_,_,_]) H wn M M (fun j v hj=>H.hp.aI (hrow j v hj)) M ?_;clear H;intro a H;refine dW jO H wn M ?_;clear H;intro b7 a w CB H;refine bJ jO 0 (vs:=[_,_,_,_,_,_]) H wn M ?_;clear H;intro w H;refine dB _ _ ?_;clear dB;refine kP H (SR fun _ dX=>Rm M (Rf KN M ?_));clear H;intro a H;refine bQ gB (cs:=[_,_,_,_,_]) H wn M M (H.hp.dG 0 M M) M ?_;clear H;intro a H;refine BL (Li:=[_,_]) (L:=Lt3) H wn M M (hcb _ _ _ _ _ ⟨_,uK.head,Yg FR⟩ (fun b o h=>hg3 b o (sW b o (hgm b o (hGi b o h)))) uK.now (Hp.owns (Li:=[_,_]) H.hp)) M ?_;clear H;intro v40 ML P7 a w avd En H;have awU:=uK.step avd;refine dX _ _ ?_;clear dX;refine kP H (SR fun _ eu=>bC wm wL 0 M M (Rl oK M (Rm M (Kz eu (SB ?_)))));clear H eu;intro a H;skip;refine fD (ι:=Nat × Nat × OL × GH) (Tc:=[(1,_),(10,_),(11,_),(12,_),(31,_),(32,_),(33,_),(42,_),(43,_)]) (Lc:=[(_,_),(_,_)]) (fun gh=>[(44,vi gh.1)]) (fun gh=>[]++gh.2.2.1) (fun gh=>gh.2.2.2) (fun gh=>gh.1<=y.cells.length∧(∀ b o,ML b=some o->gh.2.2.2 b=some o)∧Now xs II J (j0+(kT l).length) gh.2.1 (ru (y.cells.drop gh.1)++(ql (x.rows.drop (rk+1))++kT (l.drop (k+1)))) gh.2.2.2 gh.2.2.1) (fun gh=>y.cells.length - gh.1) ((0,j3+1,P7,ML)) (by exact H.sub ⟨M,M,M,M,M,M,M,M,M,M,aC⟩) ?_ ?_
    ·exact ⟨O,fun _ _ h=>h,awU⟩
    clear H;rintro ⟨ck,j4,Lt4,g4⟩ a w hI H;dsimp only at hI H;obtain ⟨hck,hg4,xq⟩:=hI;dsimp only [lca,bM] at H;refine kP H (SR fun _ dN=>Rc M (Kz dN (SQ fun _ eO=>Cd M ?_ ?_))) <;> clear H dN
    ·intro h45 a H
     try have p45:=dT h45
     have hk4:ck < y.cells.length:=by omega
     obtain ⟨b3,o3,sA,sn,sc,tA,tn,tc,uA,un,uc,gA,gn,gc,rfl,hrow,hch,hcf⟩:=Ky hk4 ((hcl.mono En).mono hg4).at_;have axH:=Uj hk4;rw [nK hk4] at xq
     simp only [ru,auw,iL,pR] at xq
     refine kP H (Kc eO (SQ fun _ gD=>SB (SR fun _ fF=>Ri oK kL M M ?_)));clear H eO;intro a H;refine bQ kL (cs:=[_,_,_,_,_,_,_]) H wn M M (fun j v hj=>H.hp.aI (hrow j v hj)) M ?_;clear H;intro a H;refine dW kL H wn M ?_;clear H;intro b9 a w CF H;refine bJ kL 0 (vs:=[_,_,_,_,_,_,_]) H wn M ?_;clear H;intro w H;refine fF _ _ ?_;clear fF;refine kP H (SR fun _ gK=>Rm M (Rf Ii M ?_));clear H;intro a H;refine bQ gB (cs:=[_,_,_,_,_]) H wn M M (H.hp.dG 0 M M) M ?_;clear H;intro a H;refine BL (Li:=[_,_,_]) (L:=Lt4) H wn M M (hcb _ _ _ _ _ ⟨_,xq.head,Yg hch⟩ (fun b o h=>hg4 b o (En b o (hg3 b o (sW b o (hgm b o (hGi b o h)))))) xq.now (Hp.owns (Li:=[_,_,_]) H.hp)) M ?_;clear H;intro v51 G51 ane a w ave Yq H;have Yw:=xq.step ave;refine gK _ _ ?_;clear gK;refine kP H (SC (bC Ij jy 0 M M (Rm M ?_)));clear H;intro a H;refine gW WY (Li:=[_,_,_]) (L:=ane) H wn M (ih fv Gi xs J _ _ _ (j4+1) y.cells[ck].flow _ (fun b o h=>Yq b o (hg4 b o (En b o (hg3 b o (sW b o (hgm b o (hGi b o h))))))) hcb tT Yw.now (Hp.owns (Li:=[_,_,_]) H.hp) (hcf.mono Yq) O Yw.part) M ?_;clear H;intro v55 PS anf a w avf Br H;refine kH H (Kn gD (SC (Rd M (Rm M ?_))));clear H gD;intro a H;refine aD ?_;refine dQ ((ck+1,j4+1+(kT y.cells[ck].flow).length,anf,PS)) (by exact (H.eD (Pl:=[_,_,_]) (dK:=[_,_]) [1,2] Z M).sub ⟨M,M,M,M,M,M,M,M,M,M,aC⟩) ?_
     (try dsimp only);exact ⟨O,fun b o h=>Br b o (Yq b o (hg4 b o h)),Yw.jump avf⟩
    intro h45 a H
    try have p45:=dF h45
    refine dY ?_;refine dw _ _ ?_;clear dw;refine kP H (SC (Rd M (Rm M ?_)));clear H;intro a H;refine aD ?_;refine dQ ((rk+1,j4,Lt4,g4)) (by exact (H.eD (Pl:=[_,_]) (dK:=[_]) [1] Z M).sub ⟨M,M,M,M,M,M,M,aC⟩) ?_
    (try dsimp only);exact ⟨O,fun b o h=>hg4 b o (En b o (hg3 b o h)),by rw [rU O,ru,jA] at xq;exact xq⟩
   intro gN a H
   try have p34:=dF gN
   refine dY ?_;refine K4 _ _ ?_;clear K4;refine kP H (SC (Rd M (Rm M ?_)));clear H;intro a H;refine aD ?_;refine dQ ((k+1,j3,Lt3,g3)) (by exact (H.eD (Pl:=[_]) (dK:=[]) [] Z M).sub ⟨M,M,M,M,aC⟩) ?_
   (try dsimp only);exact ⟨O,fun b o h=>hg3 b o (sW b o (hgm b o h)),by rw [rU O,ql,jA] at uK;exact uK⟩
  intro gG a H
  try have p28:=dF gG
  rw [au p28,jA] at yw;refine kP H (Kc K4 (SC (Rd M (Rm M ?_))));clear H K4;intro a H;refine aD ?_;refine dQ ((k+1,j+1,UN,GQ)) (by exact (H.eD (Pl:=[_]) (dK:=[]) [] Z M).sub ⟨M,M,M,M,aC⟩) ?_
  (try dsimp only);exact ⟨O,fun b o h=>sW b o (hgm b o h),yw⟩
 intro ig a H
 try have sZ:=dF ig
 refine dY ?_;refine (leave0 H results88 ?_).2
 exact H.hp.lW (L':=Lt) (by repeat (first|exact kS _|apply List.Sublist.cons)) (by
   rw [rU O,kT] at iG;have:=iG.len
   simp only [List.length_nil,sJ] at this
   rw [<- this];exact iG.now)
theorem ahC:∀ n:Nat,n<=4294967297->UD n
 | 0,_=>fun _ _ _ _ _ _ _ _ _ _ _ _ _ _ _ _ h=>absurd h O
 | n+1,hn=>avX (ahC n O) O
theorem abA {Q:ak->Prop} (hj:∀ z y,Q z->Q y->pE z y->Q (mJ z y)) {out:List ak} {y:ak} (hy:Q y) (ho:∀ z∈out,Q z):∀ z∈addN out y,Q z:=by
 by_cases hd:qG y
 ·rw [E8 hd];exact ho
 by_cases h:∃ o z,out=o++[z]∧pE z y
 ·obtain ⟨o,z,rfl,hz⟩:=h;rw [zU hd hz];intro x hx
  rcases kC.1 hx with h|h
  ·exact ho x (List.mem_append_left _ h)
  rw [qY.1 h];exact hj z y (ho z (by simp)) hy hz
 rw [AQ hd fun o z e hz=>h ⟨o,z,e,hz⟩];intro x hx
 rcases kC.1 hx with h|h
 ·exact ho x h
 rw [qY.1 h];exact hy
theorem Xt {Q:ak->Prop} (hj:∀ z y,Q z->Q y->pE z y->Q (mJ z y)):∀ (A out:List ak),(∀ y∈A,Q y)->(∀ z∈out,Q z)->∀ z∈A.foldl addN out,Q z
 | [],_,_,ho=>ho
 | y :: A,out,hA,ho=>Xt hj A (addN out y) (fun x hx=>hA x (gI _ hx)) (abA hj (hA y dV) ho)
theorem fold_add {γ:Type} {F:List ak->γ} {op:γ->γ->γ} {Q:ak->Prop} (hF:∀ a b,F (a++b)=op (F a) (F b)) (hj:∀ z y,Q z->Q y->pE z y->Q (mJ z y)) (hd:∀ y,Q y->¬ qG y)
  (hg:∀ o z y,Q z->Q y->pE z y->F (o++[mJ z y])=op (F (o++[z])) (F [y])):∀ (A out:List ak),(∀ y∈A,Q y)->(∀ z∈out,Q z)->F (A.foldl addN out)=F (out++A)
 | [],out,_,_=>by rw [fG];rfl
 | y :: A,out,hA,ho=>by
  have hy:=hA y dV;rw [List.foldl_cons,fold_add hF hj hd hg A (addN out y) (fun x hx=>hA x (gI _ hx)) (abA hj hy ho),show out++y :: A=(out++[y])++A by simp,hF,hF (out++[y])]
  congr 1
  by_cases h:∃ o z,out=o++[z]∧pE z y
  ·obtain ⟨o,z,rfl,hz⟩:=h;rw [zU (hd y hy) hz,hg o z y (ho z (by simp)) hy hz,<- hF]
  rw [AQ (hd y hy) fun o z e hz=>h ⟨o,z,e,hz⟩]
theorem Xv {x:ak} (h:kZ x=0) (hk:x.kind=1):x.code=0∧x.id=0∧lX x.text=true∧vk x.text=false∧x.flow=[]∧x.rows=[]:=by
 have h0:=DW h
 unfold kZ at h
 have hc:xU x=false:=by simp [xU,hk]
 have hn:yC x=false:=by simp [yC,hk]
 split at h
 ·cases h
 split at h
 ·cases h
 rename_i h2
 split at h
 ·cases h
 split at h
 ·cases h
 rename_i h4
 rw [hk] at h4
 simp only [wW,hc,hn,Bool.not_false,E9,Bool.or_eq_true,not_or,Bool.not_eq_true,uW,oD] at h2
 refine ⟨h2.1.1.1.1,h2.1.1.1.2,h0.1,?_,h0.2.2.2 O,h0.2.2.1 O⟩
 cases he:vk x.text
 ·rfl
 rw [he] at h4;simp at h4
theorem afr (s:ByteArray):vk s=decide (s.size=0):=by
 unfold vk
 rw [ByteArray.toList_eq,ByteArray.toList_eq,Ck,lD,beq_iff_eq]
 constructor
 ·intro h;have:=cO List.length h
  simpa using this
 intro h;exact List.eq_nil_of_length_eq_zero (by rw [pY];exact h)
theorem auf {z y:ak} (hz:kZ z=0) (hy:kZ y=0) (kz:z.kind=1) (ky:y.kind=1):kZ (mJ z y)=0:=by
 obtain ⟨a1,a2,a3,a4,a5,a6⟩:=Xv hz kz;obtain ⟨b1,b2,b3,b4,b5,b6⟩:=Xv hy ky;have hv:=aaU a3 b3
 have he:vk (z.text++y.text)=false:=by
  rw [afr,uW] at a4 |-;rw [ByteArray.size_append];omega
 unfold kZ mJ codeOk wW Ap Aw xU yC
 simp only [ak.kind,ak.code,ak.id,ak.text,ak.flow,ak.rows] at *
 simp [kz,a1,a2,a5,a6,hv,he,Ap,xU,yC,Aw,ak.kind,ak.code]
theorem aug {k c i:Int} {tx:ByteArray} {h:dD} {f f':List ak} {r r':List aO} (hx:kZ (.mk k c i tx h f r)=0) (hf:k≠6->f=[]->f'=[]) (hr:r'.length=r.length):kZ (.mk k c i tx h f' r')=0:=by
 have h0:=(DW hx).2.2.2
 have e:wW (.mk k c i tx h f' r')=wW (.mk k c i tx h f r):=by
  have hfl:k≠6->f'.length=f.length:=fun h6=>by rw [hf h6 (h0 h6),show f=[] from h0 h6]
  rw [Ck]
  simp only [wW,Bool.or_eq_true,iC,lD]
  have c1:xU (.mk k c i tx h f' r')=xU (.mk k c i tx h f r):=rfl;have c2:yC (.mk k c i tx h f' r')=yC (.mk k c i tx h f r):=rfl;have c3:Aw (.mk k c i tx h f' r')=Aw (.mk k c i tx h f r):=rfl;rw [c1,c2,c3]
  show (((((_∧c≠0)∨(_∧i≠0))∨(_∧(!vk tx)=true))∨(k≠6∧0 < (f'.length:Int)))∨(k≠7∧0 < (r'.length:Int)))↔(((((_∧c≠0)∨(_∧i≠0))∨(_∧(!vk tx)=true))∨(k≠6∧0 < (f.length:Int)))∨(k≠7∧0 < (r.length:Int)))
  rw [hr]
  by_cases h6:k=6
  ·simp [h6]
  rw [hfl h6]
 have e2:codeOk (.mk k c i tx h f' r')=codeOk (.mk k c i tx h f r):=rfl;have e3:Ap (.mk k c i tx h f' r')=Ap (.mk k c i tx h f r):=rfl
 unfold kZ at hx |-
 rw [e,e2,e3];exact hx
theorem Gj {C:aV} {body note:Bool} {t:Int} (x:ak):mh C body note t x↔kZ x=0∧Td body note t x.kind x.id∧iU C x.kind x.head=0∧(x.kind=6->iN C false true t x.flow)∧(x.kind=7->(x.rows.length≠0∧x.rows.length<=256)∧kJ C note (t+1) x.rows):=by
 cases x;rw [mh];rfl
theorem ZP {C:aV} {body note:Bool} {t:Int} (z y:ak) (hz:mh C body note t z) (hy:mh C body note t y) (hj:pE z y):mh C body note t (mJ z y):=by
 rw [Gj] at *;refine ⟨auf hz.1 hy.1 hj.2.1 hj.1,hz.2.1,hz.2.2.1,hz.2.2.2.1,hz.2.2.2.2⟩
theorem ajT {C:aV} {body note:Bool} {t:Int} (y:ak) (hy:mh C body note t y):¬ qG y:=by
 rw [Gj] at hy;rintro (⟨h1,h2⟩|⟨h1,h2⟩)
 ·exact (hy.2.2.2.2 h1).1.1 h2
 have:=(Xv hy.1 h1).2.2.2.1;rw [afr] at this
 simp [h2] at this
theorem ZQ {C:aV} {body note:Bool} {t:Int} {A:List ak} (h:iN C body note t A):iN C body note t (A.foldl addN []):=Aj.2 (Xt ZP A [] (Aj.1 h) (fun _ h=>by cases h))
mutual
theorem aAb (C:aV) (body note:Bool) (t:Int):∀ x:ak,mh C body note t x->mh C body note t (nI x)
 | .mk k c i tx h f r,hx=>by
  have hf:=Jp C false true t f;have hr:=ajV C note (t+1) r;rw [mh] at hx;rw [nI,mh];exact ⟨aug hx.1 (fun _ e=>by rw [e];rfl) (by rw [F6,bK]),hx.2.1,hx.2.2.1,fun e=>ZQ (hf (hx.2.2.2.1 e)),fun e=>⟨by rw [F6,bK];exact (hx.2.2.2.2 e).1,hr (hx.2.2.2.2 e).2⟩⟩
theorem aAc (C:aV) (note:Bool) (t:Int):∀ x:aO,pI C note t x->pI C note t (nR x)
 | .mk h cs,hx=>by
  have hc:=ajU C note t cs;rw [pI] at hx;rw [nR,pI];exact ⟨by rw [Jj,bK];exact hx.1,hc hx.2⟩
theorem aAa (C:aV) (note:Bool) (t:Int):∀ x:aQ,pG C note t x->pG C note t (nC x)
 | .mk i h f,hx=>by
  have hf:=Jp C false note t f;rw [pG] at hx;rw [nC,pG];exact ⟨hx.1,ZQ (hf hx.2)⟩
theorem Jp (C:aV) (body note:Bool) (t:Int):∀ l:List ak,iN C body note t l->iN C body note t (lV l)
 | [],_=>by rw [lV,iN];trivial
 | x :: l,h=>by
  rw [iN] at h;rw [lV,iN];exact ⟨aAb C body note t x h.1,Jp C body note t l h.2⟩
theorem ajV (C:aV) (note:Bool) (t:Int):∀ l:List aO,kJ C note t l->kJ C note t (kW l)
 | [],_=>by rw [kW,kJ];trivial
 | x :: l,h=>by
  rw [kJ] at h;rw [kW,kJ];exact ⟨aAc C note t x h.1,ajV C note t l h.2⟩
theorem ajU (C:aV) (note:Bool) (t:Int):∀ l:List aQ,lg C note t l->lg C note t (kV l)
 | [],_=>by rw [kV,lg];trivial
 | x :: l,h=>by
  rw [lg] at h;rw [kV,lg];exact ⟨aAa C note t x h.1,ajU C note t l h.2⟩
end
theorem wH (l:List ak):iA l=(lV l).foldl addN []:=by simp [iA,vE,Jk]
theorem ajW {C:aV} {body note:Bool} {t:Int} {l:List ak} (h:iN C body note t l):iN C body note t (iA l):=by rw [wH];exact ZQ (Jp C body note t l h)
theorem OE:∀ a b:List ak,jI (a++b)=jI a++jI b
 | [],b=>by rw [jI];rfl
 | x :: a,b=>by rw [pR,jI,jI,OE a b,iL]
theorem Pj:∀ a b:List ak,kM (a++b)=kM a+kM b
 | [],b=>by rw [kM,gZ];rfl
 | x :: a,b=>by rw [pR,kM,kM,Pj a b,Nat.add_assoc]
theorem Za {x:ak} (h:x.kind=1):rZ x=[]:=by
 cases x;dsimp only [ak.kind] at h;subst h;simp [rZ]
theorem aaP {x:ak} (h:x.kind=1):uI x=oU x.text:=by
 cases x;dsimp only [ak.kind] at h;subst h;simp [uI,ak.text]
theorem Zc {C:aV} {body note:Bool} {t:Int} {A:List ak} (h:iN C body note t A):jI (A.foldl addN [])=jI A :=
 (fold_add (F:=jI) OE (ZP (C:=C) (body:=body) (note:=note) (t:=t)) ajT (fun o z y _ _ hj=>by
  rw [OE,OE];simp only [jI];rw [Za hj.2.1,Za hj.1,Za (x:=mJ z y) hj.2.1];simp) A [] (Aj.1 h) (fun _ h=>by cases h))
theorem aaQ {C:aV} {body note:Bool} {t:Int} {A:List ak} (h:iN C body note t A):kM (A.foldl addN [])=kM A :=
 (fold_add (F:=kM) Pj (ZP (C:=C) (body:=body) (note:=note) (t:=t)) ajT (fun o z y hz hy hj=>by
  rw [Gj] at hz hy
  rw [Pj,Pj];simp only [kM];rw [aaP hj.2.1,aaP hj.1,aaP (x:=mJ z y) hj.2.1,show (mJ z y).text=z.text++y.text from rfl,apG (DW hz.1).1 (DW hy.1).1];omega) A [] (Aj.1 h) (fun _ h=>by cases h))
theorem Hy {p:Prop} (h:p:=by
 exact ⟨M,M⟩):p:=h
mutual
theorem ayA (C:aV) (body note:Bool) (t:Int):∀ x:ak,mh C body note t x->rZ (nI x)=rZ x∧uI (nI x)=uI x
 | .mk k c i tx h f r,hx=>by
  have hf:=Sw C false true t f;have hr:=aiY C note (t+1) r;rw [mh] at hx;rw [nI,rZ,rZ,uI,uI]
  by_cases h6:k=6
  ·subst h6;have ho:=hx.2.2.2.1 M;have hn:=Jp C false true t f ho
   simp only [if_true,au (show ¬ (6:Int)=7 by decide)]
   rw [Zc hn,aaQ hn,(hf ho).1,(hf ho).2];exact Hy
  by_cases h7:k=7
  ·subst h7;have ho:=(hx.2.2.2.2 M).2
   simp only [if_true,au (show ¬ (7:Int)=6 by decide)]
   rw [(hr ho).1,(hr ho).2];exact Hy
  simp only [au h6,au h7]
  exact ⟨aC,aC⟩
theorem ayB (C:aV) (note:Bool) (t:Int):∀ x:aO,pI C note t x->wE (nR x)=wE x∧uR (nR x)=uR x
 | .mk h cs,hx=>by
  have hc:=aiX C note t cs;rw [pI] at hx;rw [nR,wE,wE,uR,uR];exact hc hx.2
theorem ayz (C:aV) (note:Bool) (t:Int):∀ x:aQ,pG C note t x->xw (nC x)=xw x∧uC (nC x)=uC x
 | .mk i h f,hx=>by
  have hf:=Sw C false note t f;rw [pG] at hx;have hn:=Jp C false note t f hx.2;rw [nC,xw,xw,uC,uC,Zc hn,aaQ hn,(hf hx.2).1,(hf hx.2).2];exact Hy
theorem Sw (C:aV) (body note:Bool) (t:Int):∀ l:List ak,iN C body note t l->jI (lV l)=jI l∧kM (lV l)=kM l
 | [],_=>by rw [lV];exact ⟨M,M⟩
 | x :: l,h=>by
  rw [iN] at h;have h1:=ayA C body note t x h.1;have h2:=Sw C body note t l h.2;rw [lV,jI,jI,kM,kM,h1.1,h1.2,h2.1,h2.2];exact Hy
theorem aiY (C:aV) (note:Bool) (t:Int):∀ l:List aO,kJ C note t l->om (kW l)=om l∧pK (kW l)=pK l
 | [],_=>by rw [kW];exact ⟨M,M⟩
 | x :: l,h=>by
  rw [kJ] at h;have h1:=ayB C note t x h.1;have h2:=aiY C note t l h.2;rw [kW,om,om,pK,pK,h1.1,h1.2,h2.1,h2.2];exact Hy
theorem aiX (C:aV) (note:Bool) (t:Int):∀ l:List aQ,lg C note t l->oZ (kV l)=oZ l∧qx (kV l)=qx l
 | [],_=>by rw [kV];exact ⟨M,M⟩
 | x :: l,h=>by
  rw [lg] at h;have h1:=ayz C note t x h.1;have h2:=aiX C note t l h.2;rw [kV,oZ,oZ,qx,qx,h1.1,h1.2,h2.1,h2.2];exact Hy
end
theorem ayi {C:aV} {body note:Bool} {t:Int} {l:List ak} (h:iN C body note t l):jI (iA l)=jI l∧kM (iA l)=kM l:=by
 have hn:=Jp C body note t l h;rw [wH,Zc hn,aaQ hn];exact Sw C body note t l h
theorem aDh (z y:ak):bX (mJ z y).dat<=bX z.dat+bX y.dat:=by
 rw [ak.sN,ak.sN,ak.sN]
 simp only [mJ,ak.kind,ak.code,ak.id,ak.text,ak.head,ak.flow,ak.rows,bX,nU,ByteArray.size_append]
 omega
theorem Pz (a b:List ak):bq (a++b)=bq a+bq b:=by rw [bq,ji,Dp]
theorem abf (y:ak):bq [y]=1+bX y.dat:=by simp [bq,dM]
theorem aEb (out:List ak) (y:ak):bq (addN out y)<=bq out+bq [y]:=by
 rcases abB out y with e|e|⟨o,z,rfl,-,-,e⟩ <;> rw [e]
 ·omega
 ·rw [Pz];exact dS _
 have:=aDh z y;rw [Pz,Pz,abf,abf,abf];omega
theorem Um:∀ (A out:List ak),bq (A.foldl addN out)<=bq out+bq A
 | [],out=>Nat.le_add_right _ _
 | y :: A,out=>by
  have h1:=Um A (addN out y);have h2:=aEb out y;have h3:=Pz [y] A;rw [List.singleton_append] at h3;rw [List.foldl_cons,h3];omega
theorem VW {p:Prop} (h:p:=by
 induction a with
 | nil=>simp [bX]
 | cons x a ih=>simp only [pR,bX,ih];omega):p:=h
mutual
theorem aEd:∀ x:ak,bX (nI x).dat<=bX x.dat
 | .mk k c i tx h f r=>by
  have hf:=Un f;have hr:=amH r;have hd:=Um (lV f) [];have h0:bq []=0:=rfl
  have O9:∀ (a b:List Dat),bX (a++b)=bX a+bX b:=fun a b=>by
   exact VW
  rw [nI,ak.sN,ak.sN]
  simp only [ak.kind,ak.code,ak.id,ak.text,ak.head,ak.flow,ak.rows,bX,nU,O9]
  unfold bq at *
  unfold fQ at hr
  omega
theorem aEe:∀ x:aO,bX (nR x).dat<=bX x.dat
 | .mk h cs=>by
  have hc:=amG cs
  have O9:∀ (a b:List Dat),bX (a++b)=bX a+bX b:=fun a b=>by
   exact VW
  rw [nR,aO.sN,aO.sN]
  simp only [aO.head,aO.cells,bX,nU,O9]
  unfold gH at hc
  omega
theorem aEc:∀ x:aQ,bX (nC x).dat<=bX x.dat
 | .mk i h f=>by
  have hf:=Un f;have hd:=Um (lV f) [];have h0:bq []=0:=rfl
  have O9:∀ (a b:List Dat),bX (a++b)=bX a+bX b:=fun a b=>by
   exact VW
  rw [nC,aQ.sN,aQ.sN]
  simp only [aQ.id,aQ.head,aQ.flow,bX,nU,O9]
  unfold bq at *
  omega
theorem Un:∀ l:List ak,bq (lV l)<=bq l
 | []=>by rw [lV];exact dS _
 | x :: l=>by
  have h1:=aEd x;have h2:=Un l;rw [lV]
  simp only [bq,dO,dM] at *
  omega
theorem amH:∀ l:List aO,fQ (kW l)<=fQ l
 | []=>by rw [kW];exact dS _
 | x :: l=>by
  have h1:=aEe x;have h2:=amH l;rw [kW]
  simp only [fQ,dO,dM] at *
  omega
theorem amG:∀ l:List aQ,gH (kV l)<=gH l
 | []=>by rw [kV];exact dS _
 | x :: l=>by
  have h1:=aEc x;have h2:=amG l;rw [kV]
  simp only [gH,dO,dM] at *
  omega
end
theorem abe (l:List ak):bq (iA l)<=bq l:=by
 have h1:=Um (lV l) [];have h2:=Un l;have h0:bq []=0:=rfl;rw [wH];omega
end Go.Proofs.YtdiflmikikiedaaGreat
