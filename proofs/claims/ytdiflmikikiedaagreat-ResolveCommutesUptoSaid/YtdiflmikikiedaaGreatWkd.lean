/-
  What the claim stands on, part 4: Hea Frm Itc Vis Okd Rws Itm Its Rvs Chd Ck13 Nf Vc Ubf Av16 Frs Hds Np13 Nq13 Rs24 Iat Bi13 Mk24 Mg24 Gco.
-/
import Derived.Test.YtdiflmikikiedaaGreatWkc
namespace Go.Proofs.YtdiflmikikiedaaGreat
set_option linter.all false
open Go.Proofs.Tryz
open Go.RowKit
section
theorem LX:Ty prog 123 1 8 [.pointer none] false:=⟨V,V⟩
theorem aoB:aS 132:=aT func132 M
theorem Es:Ty prog 27 4 64 [.int .i64 0,.int .i64 0,.slice none 0 0,.slice none 0 0] true:=⟨V,V⟩
theorem EO:dP prog 159 0 0:=⟨V⟩
theorem afu:dP prog 159 1 1:=⟨V⟩
theorem aoA:aS 131:=aT func131 M
variable {us:List Int}
theorem avU {G:GH} {st:List bY} {li:List fC} {rv:List bV} {b ms ml mr mb mu:Nat} {n:Int} (hck:xw us G st li rv ms ml mr mu) (hb:G b=some (gY b ms ml mr mb mu n).2)
  {x3 x4 x11:Nat} {e:Int} {l:List bZ} {v:ah} (h3:aH G x3 0=some (aK b 0)) (h4:aH G x4 0=some (vi e)) (h11:aH G x11 3=some v) (hv:ak G (.sl 4 (l.map bZ.dat)) v) :
  vJ (.func (.func 131) #[] #[(aK x3 0),(aK x4 0),(aK x11 0)]) G l.length (xZ (bL us st li rv) e l):=by
 intro k hk G1 w0 hm hG;refine jy (caps:=[(aK x3 0),(aK x4 0),(aK x11 0)]) aoA ?_;replace h3:=aC hm h3;replace h4:=aC hm h4;replace h11:=aC hm h11;replace hv:=hv.mono hm;obtain ⟨vA,vn,vc,rfl⟩:=hv.form;refine eN [(0,_),(1,_),(2,_),(3,_)] func131 M ntmps131 M M hG ?_;intro a H;refine kP H (SR fun _ K1=>aj K1 M (SR fun _ K2=>Rg LX M (by assumption) ?_));clear H K1;intro a H;refine kH H (Rg aF M (by assumption) ?_);clear H;intro a H;refine kH H (Rf Au M (Rg BA M (by assumption) ?_));clear H;intro a H;refine kH H (Rm M ?_);clear H;intro a H;refine s_call aoB H wn M (avW _ _ H.ro st li rv b ms ml mr mb mu n (hck.mono hm) (hm _ _ hb) e l _ hv k hk) M ?_;clear H;rintro v11 zx a w rfl DY H;exact kH H (aj K2 M (LR results131 M fun H=>H.rt M))
def zl (C:bE) (l:List aO):Int:=dO (l.map fun p=>yB C.st C.nM p.key p.value)
def jX (C:bE) (m:zC):Int:=if m.ins≠0∧m.ins∉C.kM then 22 else if ¬ (0<=m.move∧m.move<=1073741824)∨(m.move≠0∧m.ins=0) then 21 else if 16 < (m.bK.length:Int) then 9 else 0
def uT (C:bE) (k:Nat) (x:gG) (pr:Int):Int:=if x.rev∉C.kM then 22 else if 0 < k∧x.rev<=pr then 6 else if ¬ (0<=x.move∧x.move<=1073741824) then 21 else 0
def uo (C:bE) (l:List gG) (k:Nat):Int:=match l[k]? with|some x=>uT C k x ((l[k - 1]?.map gG.rev).getD 0)|none=>0
def iG (C:bE) (e:Int) (h:dN):Int:=dO [qU e h.props,zl C h.props,jX C h.marks,iX (uo C h.marks.bK) h.marks.bK.length,dL (decide (64 < (h.marks.layers.length:Int))) 9,iX (xZ C e h.marks.layers) h.marks.layers.length]
theorem atS {C:bE} {e:Int} {h:dN} (h1:qU e h.props≠0):iG C e h=qU e h.props:=by simp [iG,dO,h1]
theorem atT {C:bE} {e:Int} {h:dN} (h1:qU e h.props=0) (h2:zl C h.props≠0):iG C e h=zl C h.props:=by simp [iG,dO,h1,h2]
theorem DV {C:bE} {e:Int} {h:dN} (h1:qU e h.props=0) (h2:zl C h.props=0) (h3:jX C h.marks≠0):iG C e h=jX C h.marks:=by simp [iG,dO,h1,h2,h3]
theorem atU {C:bE} {e:Int} {h:dN} (h1:qU e h.props=0) (h2:zl C h.props=0) (h3:jX C h.marks=0) (h4:iX (uo C h.marks.bK) h.marks.bK.length≠0):iG C e h=iX (uo C h.marks.bK) h.marks.bK.length:=by simp [iG,dO,h1,h2,h3,h4]
theorem atV {C:bE} {e:Int} {h:dN} (h1:qU e h.props=0) (h2:zl C h.props=0) (h3:jX C h.marks=0) (h4:iX (uo C h.marks.bK) h.marks.bK.length=0) (h5:64 < (h.marks.layers.length:Int)):iG C e h=9:=by simp [iG,dO,h1,h2,h3,h4,dL,h5]
theorem atW {C:bE} {e:Int} {h:dN} (h1:qU e h.props=0) (h2:zl C h.props=0) (h3:jX C h.marks=0) (h4:iX (uo C h.marks.bK) h.marks.bK.length=0) (h5:¬ 64 < (h.marks.layers.length:Int)):iG C e h=iX (xZ C e h.marks.layers) h.marks.layers.length:=by simp [iG,dO,h1,h2,h3,h4,dL,h5];exact Eq.symm
theorem aiR {C:bE} {l:List aO} {k:Nat} (h:k < l.length):dO ((l.map fun p=>yB C.st C.nM p.key p.value).drop k)=if yB C.st C.nM l[k].key l[k].value≠0 then yB C.st C.nM l[k].key l[k].value else dO ((l.map fun p=>yB C.st C.nM p.key p.value).drop (k+1)):=by
 rw [Q6 (by simpa using h)];simp
theorem alJ {p:Prop} (h:p:=by
 exact fin H iJ (by show _=_;first|rfl|exact gH decide_not.symm)):p:=h
theorem abn {p:Prop} (h:p:=by
 exact ⟨O,by rw [Gn hk2,av (by rw [hde];simpa using agt)] at heq;exact heq,hGk⟩):p:=h
theorem acI {p:Prop} (h:p:=by
 refine Dj 7 48 9 50 3 44 M M fun _ a w G1 hG HT H fin=>?_;refine Bw (zv:=.bool false) xu mF V H (wg H M M (aI c0)) M M (H.ro _ _ (hG _ _ hck.rev)) M ?_;clear H;intro a H;rw [FC] at H;exact JE):p:=h
theorem ado {p:Prop} (h:p:=by
 refine eT 10 51 3 44 M M fun _ a w G1 hG HT H fin=>?_;refine kH H (YN (aI c0) M ?_);clear H;intro a H;exact alJ):p:=h
theorem Ql {p:Prop} (h:p:=by
 refine zo _ H (wg H M M (aI c3)) M M M O O M ?_;exact MR):p:=h
theorem atX (G:GH) (w0:World) (hG:Hold G w0) (st:List bY) (li:List fC) (rv:List bV) (b ms ml mr mb mu:Nat) (n:Int) (hck:xw us G st li rv ms ml mr mu) (hb:G b=some (gY b ms ml mr mb mu n).2)
  (e:Int) (h:dN) (p d l:ah) (hh:jr G h p d l) (hz:mX h<=4294967296) :
  Calls prog 70 #[(aK b 0),vi e,sj h p d l] w0 (bG w0 G fun u G'=>u=vi (iG (bL us st li rv) e h)):=by
 obtain ⟨pA,pc,rfl,-,-,-⟩:=hh.props.slice;obtain ⟨dA,dc,rfl,-,-,-⟩:=hh.bK.slice;obtain ⟨lA,lc,rfl,-,-,-⟩:=hh.layers.slice;have hml:maxLen=9223372036854775807:=rfl;have hzz:=FU h;have hz1:=pK (h.props.map aO.dat);have hz2:=pK (h.marks.bK.map gG.dat);have hz3:=pK (h.marks.layers.map bZ.dat)
 simp only [bS] at hh hz1 hz2 hz3 |-
 generalize mX h=zz at hz hzz
 refine eN [(0,_),(1,_),(2,_)] func70 M ntmps70 M M hG ?_;intro a H;refine dz (fun _ K1=>?_);refine dR (cs:=[_]) H wn M M M ?_;clear H;intro b3 a w hb3 H;refine dR (cs:=[_]) H wn M M M ?_;clear H;intro b4 a w hb4 H;refine dR (cs:=[_,_,_,_,_]) H wn M M M ?_;clear H;intro b5 a w hb5 H;refine kH H (aj K1 M (SQ fun _ K2=>SQ fun _ K3=>?_));clear H K1;intro a H;obtain ⟨Ga5,RI,zP,H⟩:=H.fF;obtain ⟨Ga4,KI,AV,H⟩:=H.fF;obtain ⟨Ga,Fp,tF,H⟩:=H.fF;replace zP:=Fp _ _ (KI _ _ zP);replace AV:=Fp _ _ AV;have hma:∀ b o,G b=some o->Ga b=some o:=fun b o h=>Fp _ _ (KI _ _ (RI _ _ h));clear Fp KI RI;replace hck:=hck.mono hma;replace hb:=hma _ _ hb;replace hh:=hh.mono hma
 have g3:aH Ga b3 0=some (aK b 0):=by unfold aH;rw [tF];rfl
 have g4:aH Ga b4 0=some (vi e):=by unfold aH;rw [AV];rfl
 have g50:aH Ga b5 0=some (.slice pA h.props.length pc):=by unfold aH;rw [zP];rfl
 have g51:∀ (j:Nat) (u:ah),[vi h.marks.ins,vi h.marks.move,.slice dA h.marks.bK.length dc,.slice lA h.marks.layers.length lc][j]?=some u->aH Ga b5 (1+j)=some u:=by
  intro j u hj
  unfold aH;rw [zP]
  match j,hj with
  | 0,hj=>exact hj
  | 1,hj=>exact hj
  | 2,hj=>exact hj
  | 3,hj=>exact hj
  | n+4,hj=>simp at hj
 have hc2:aH Ga b 2=some (.map (some mr)):=by unfold aH;rw [hb];rfl
 refine kP H (SC (Rg aF M (by assumption) ?_));clear H;intro a H;refine kH H (Rf yR M (Rg tO M (by assumption) ?_));clear H;intro a H;refine s_call aeH H wn M (aaO (aiH _ _ H.ro e h.props _ hh.props)) M ?_;clear H;rintro v17 _ a w ⟨⟨_,rfl⟩,rfl⟩ - H;refine kH H (bD K3 M (SR fun _ K4=>Rm M (Rc M (Kz K4 (Cd M ?_ ?_))))) <;> clear H K3 K4
 ·intro h19 a H
  try have rF:=dT h19
  refine bO (fun _ K5=>?_);have hE:=atS (C:=bL us st li rv) (e:=e) (h:=h) rF;exact kP H (SC (Rm M (bD K5 M (LR results70 M fun H=>H.rt (by rw [hE])))))
 intro h19 a H
 try have rF:=dF h19
 have e1:qU e h.props=0:=by simpa using rF
 refine kP H (Kc K2 (SQ fun _ K6=>SR fun _ K7=>Rf yR M (Rg tO M (by assumption) ?_)));clear H K2;intro a H;refine kH H (Rl gV M (Rm M (Kz K7 (SB ?_))));clear H K7;intro a H;skip;refine eX (ι:=Nat) (Tc:=[(3,_),(4,_),(5,_),(22,_),(23,_)]) (Lc:=[]) (fun gh=>[(24,vi gh)]) (fun gh=>[]) (fun gh=>Ga) (fun gh=>gh<=h.props.length∧dO ((h.props.map fun p=>yB st (li.map fC.id) p.key p.value).drop gh)=zl (bL us st li rv) h.props) (fun gh=>h.props.length - gh) (0) (by exact H.sub ⟨M,M,M,M,M,M,aB⟩) ?_ ?_
 ·exact JC
 clear H;intro k a w hI H;obtain ⟨hk,heq⟩:=hI;dsimp only [lca,bM] at H;refine kP H (SR fun _ K8=>Rc M (Kz K8 (SQ fun _ K9=>Cd M ?_ ?_))) <;> clear H K8
 ·intro jH a H
  try have p25:=dT jH
  have hk2:k < h.props.length:=by omega
  obtain ⟨xb,xo,rfl,hrow⟩:=IU hh.props hk2;refine kP H (Kc K9 (SQ fun _ aR=>SB (SR fun _ bq=>Ri gV iA M M ?_)));clear H K9;intro a H;refine aU iA (cs:=[_,_]) H wn M M (fun j v hj=>H.hp.aH (hrow j v hj)) M ?_;clear H;intro a H;refine dJ iA H wn M ?_;clear H;intro b9 a w uz H;refine bC iA 0 (vs:=[_,_]) H wn M ?_;clear H;intro w H;refine bq _ _ ?_;clear bq;refine kP H (SR fun _ bP=>Rg LX M (by assumption) ?_);clear H;intro a H;refine kH H (bQ xP aF 0 M M (bQ QX aF 0 M M ?_));clear H;intro a H;refine s_call aeI H wn M (adM _ _ H.ro st li rv b ms ml mr mb mu n h.props[k].key h.props[k].value hck hb) M ?_;clear H;rintro v33 _ a w ⟨rfl,rfl⟩ - H;refine kH H (aj bP M (SR fun _ bU=>Rm M (Rc M (Kz bU (Cd M ?_ ?_))))) <;> clear H bP bU
  ·intro iw a H
   try have p35:=dT iw
   refine bO (fun _ dh=>?_)
   have hr:zl (bL us st li rv) h.props=yB st (li.map fC.id) h.props[k].key h.props[k].value:=by rw [<- heq];exact (aiR (C:=bL us st li rv) hk2).trans (aD p35)
   have hE:=(atT (C:=bL us st li rv) (e:=e) (h:=h) e1 (by rw [hr];exact p35)).trans hr;exact kP H (SC (Rm M (bD dh M (LR results70 M fun H=>H.rt (by rw [hE])))))
  intro iw a H
  try have p35:=dF iw
  refine kP H (Kc aR (SC (Rd M (Rm M ?_))));clear H aR;intro a H;refine aG ?_;refine dY ((k+1)) (by exact (H.fH (Pl:=[_]) (eD:=[]) [] Z M).sub ⟨M,M,M,M,M,M,aB⟩) ?_
  exact ⟨O,by rw [aiR (C:=bL us st li rv) hk2,av (by simpa using p35)] at heq;exact heq⟩
 intro jH a H
 try have p25:=dF jH
 refine dQ ?_;refine K6 _ _ ?_;clear K6;refine bO (fun _ dZ=>?_)
 have e2:zl (bL us st li rv) h.props=0:=by rw [<- heq,uh (by rw [bS];omega)];rfl
 refine kP H (SC (Rf qo M ?_));clear H;intro a H;refine aU Es (cs:=[vi h.marks.ins,vi h.marks.move,.slice dA h.marks.bK.length dc,.slice lA h.marks.layers.length lc]) H wn M M (fun j v hj=>H.hp.aH (g51 j v hj)) M ?_;clear H;intro a H;refine dJ Es H wn M ?_;clear H;intro b11 a w Kt H;refine bC Es 0 (vs:=[_,_,_,_]) H wn M ?_;clear H;intro w H;obtain ⟨Gb,hmb,Cr,H⟩:=H.fF;replace hck:=hck.mono hmb;replace hb:=hmb _ _ hb;replace hh:=hh.mono hmb;replace g3:=aC hmb g3;replace g4:=aC hmb g4;replace hc2:=aC hmb hc2
 have q0:aH Gb b11 0=some (vi h.marks.ins):=by unfold aH;rw [Cr];rfl
 have q1:aH Gb b11 1=some (vi h.marks.move):=by unfold aH;rw [Cr];rfl
 have q2:aH Gb b11 2=some (.slice dA h.marks.bK.length dc):=by unfold aH;rw [Cr];rfl
 have q3:aH Gb b11 3=some (.slice lA h.marks.layers.length lc):=by unfold aH;rw [Cr];rfl
 have hcb:=avU hck hb g3 g4 q3 hh.layers;refine aG ?_;refine dZ _ _ ?_;clear dZ;refine uj (ι:=GH) (Tc:=[(3,_),(4,_),(11,_)]) (Lc:=[]) (fun gh=>[]) (fun gh=>[]) (fun gh=>gh) (fun gh=>jX (bL us st li rv) h.marks=0∧(∀ b o,Gb b=some o->gh b=some o)) (by exact H.sub ⟨M,M,M,aB⟩) ?_ ?_
 ·skip;refine EL ?_;refine bO (fun _ eu=>?_)
  by_cases c0:h.marks.ins≠0
  ·skip
   by_cases c1:h.marks.ins∉rv.map bV.id
   ·skip;refine dI hmx [[],[0],[0,1],[0,1,2],ra 0 4,ra 0 5,ra 0 6,ra 0 7,ra 0 4,[0,1,2,3,8],ra 0 10,ra 0 11,ra 0 12,ra 0 13] [13] V [_,_,_,_,_,(aK b 0),_,_,_,_,.bool (decide (h.marks.ins∈rv.map bV.id)),.bool (decide (h.marks.ins∉rv.map bV.id)),_] H (ay (Z0 M (Rf sV M)) (X1 0 41 M fun hG=>Rg aF M (aC hG q0)) (Z1 1 42 M (Rc M)) (Z1 2 43 M (Rm M)) (ay (X1 3 44 M fun hG=>YR LX (aI c0) M (aC hG g3)) ?_ (Z2 5 46 3 44 M (YF Ns (aI c0) M)) (X2 6 47 3 44 M fun hG=>YR vC (aI c0) M (aC hG hc2)) (ay (Z1 3 44 M (YF sV (aI c0) M)) (X2 8 49 3 44 M fun hG=>YR aF (aI c0) M (aC hG q0)) ?_ ?_ (bN (Z2 3 44 11 52 M (Pt (aI c0) M)) (bN (bT M) dB))))) ?_
    ·refine eT 4 45 3 44 M M fun _ a w G1 hG HT H fin=>?_;exact Qm
    ·exact acI
    ·exact ado
    clear H;intro a w G oQ H hv;have H:=H.aN (hv 12 53 M M) M;clear hv;refine kH H (Ra M ?_);clear H;intro a H;refine aG ⟨M,?_⟩;refine eu _ _ ?_;clear eu;refine Cc H M (aI c1) ?_;refine bO (fun _ dS=>?_);have e3:jX (bL us st li rv) h.marks=22:=aD ⟨c0,c1⟩;have hE:=(DV (C:=bL us st li rv) (e:=e) (h:=h) e1 e2 (by rw [e3];decide)).trans e3;exact kP H (SC (bD dS M (LR results70 M fun H=>H.rt (by rw [hE]))))
   skip;refine dI hmx [[],[0],[0,1],[0,1,2],ra 0 4,ra 0 5,ra 0 6,ra 0 7,ra 0 4,[0,1,2,3,8],ra 0 10,ra 0 11,ra 0 12,ra 0 13] [13] V [_,_,_,_,_,(aK b 0),_,_,_,_,.bool (decide (h.marks.ins∈rv.map bV.id)),.bool (decide (h.marks.ins∉rv.map bV.id)),_] H (ay (Z0 M (Rf sV M)) (X1 0 41 M fun hG=>Rg aF M (aC hG q0)) (Z1 1 42 M (Rc M)) (Z1 2 43 M (Rm M)) (ay (X1 3 44 M fun hG=>YR LX (aI c0) M (aC hG g3)) ?_ (Z2 5 46 3 44 M (YF Ns (aI c0) M)) (X2 6 47 3 44 M fun hG=>YR vC (aI c0) M (aC hG hc2)) (ay (Z1 3 44 M (YF sV (aI c0) M)) (X2 8 49 3 44 M fun hG=>YR aF (aI c0) M (aC hG q0)) ?_ ?_ (bN (Z2 3 44 11 52 M (Pt (aI c0) M)) (bN (bT M) dB))))) ?_
   ·refine eT 4 45 3 44 M M fun _ a w G1 hG HT H fin=>?_;exact Qm
   ·exact acI
   ·exact ado
   clear H;intro a w G oQ H hv;have H:=H.aN (hv 12 53 M M) M;clear hv;refine kH H (Ra M ?_);clear H;intro a H;refine aG ⟨M,?_⟩;refine eu _ _ ?_;clear eu;refine sQ H M (aY c1) ?_;refine bO (fun _ eY=>?_)
   have hno:¬ (h.marks.ins≠0∧h.marks.ins∉(bL us st li rv).kM):=by first|exact fun h=>c1 h.2|exact fun h=>c0 h.1
   replace q0:=aC oQ q0;replace q1:=aC oQ q1;replace q2:=aC oQ q2;refine kP H (SC (Rf Ci M (Rg aF M (by assumption) ?_)));clear H;intro a H;refine s_call yO H wn M (za _ _ H.ro h.marks.move 0 1073741824) M ?_;clear H;rintro v57 _ a w ⟨rfl,rfl⟩ - H;refine kH H (Rn M (Rm M (Sp 59 M ?_ ?_))) <;> clear H
   ·intro jg a H
    try have p59:=dT jg
    refine kH H (aL jg M (aL jg M (Ku M (Ku M (Ku M (Ks jg M (Pt jg M (bD eY M (Ct M M (SQ fun _ gU=>?_))))))))));clear H eY;intro a H
    have e3:jX (bL us st li rv) h.marks=21:=by unfold jX;rw [av hno,aD (by first|(simp_all;done)|(simp_all;omega))]
    have hE:=(DV (C:=bL us st li rv) (e:=e) (h:=h) e1 e2 (by rw [e3];decide)).trans e3;exact kP H (SC (bD gU M (LR results70 M fun H=>H.rt (by rw [hE]))))
   intro jg a H
   try have p59:=dF jg
   refine kH H (YF Ci jg M (YR aF jg M (by assumption) ?_));clear H;intro a H;refine kH H (YC jg M (YM jg M (Sp 63 M ?_ ?_))) <;> clear H
   ·intro h63 a H
    try have p63:=dT h63
    refine kH H (YF sV h63 M (YR aF h63 M (by assumption) ?_));clear H;intro a H;refine kH H (YC h63 M (PT jg h63 M (Pf jg M (bD eY M (Cd M ?_ ?_))))) <;> clear H eY
    ·intro iF a H
     try have p54:=dT iF
     refine bO (fun _ fJ=>?_)
     have e3:jX (bL us st li rv) h.marks=21:=by unfold jX;rw [av hno,aD (by first|(simp_all;done)|(simp_all;omega))]
     have hE:=(DV (C:=bL us st li rv) (e:=e) (h:=h) e1 e2 (by rw [e3];decide)).trans e3;exact kP H (SC (bD fJ M (LR results70 M fun H=>H.rt (by rw [hE]))))
    intro iF a H
    try have p54:=dF iF
    refine bO (fun _ iD=>?_)
    have hn2:¬ (¬ (0<=h.marks.move∧h.marks.move<=1073741824)∨(h.marks.move≠0∧h.marks.ins=0)):=by first|(simp_all;done)|(simp_all;omega)
    refine kP H (SC (Rf uq M (Rg uK M (by assumption) ?_)));clear H;intro a H;refine kH H (Rl oK M (Rc M (bD iD M (Cd M ?_ ?_)))) <;> clear H iD
    ·intro qG a H
     refine bO (fun _ jL=>?_)
     have e3:jX (bL us st li rv) h.marks=9:=by unfold jX;rw [av hno,av hn2,aD (by simpa using qG)]
     have hE:=(DV (C:=bL us st li rv) (e:=e) (h:=h) e1 e2 (by rw [e3];decide)).trans e3;exact kP H (SC (bD jL M (LR results70 M fun H=>H.rt (by rw [hE]))))
    intro qG a H
    have e3:jX (bL us st li rv) h.marks=0:=by unfold jX;rw [av hno,av hn2,av (by simpa using qG)]
    refine iE ?_;refine ⟨_,by exact H.sub ⟨M,M,M,aB⟩,?_⟩;exact ⟨e3,oQ⟩
   intro h63 a H
   try have p63:=dF h63
   refine kH H (aP h63 M (PF jg h63 M (Pf jg M (bD eY M (Cf M M (SQ fun _ mM=>?_))))));clear H eY;intro a H
   have hn2:¬ (¬ (0<=h.marks.move∧h.marks.move<=1073741824)∨(h.marks.move≠0∧h.marks.ins=0)):=by first|(simp_all;done)|(simp_all;omega)
   refine kP H (SC (Rf uq M (Rg uK M (by assumption) ?_)));clear H;intro a H;refine kH H (Rl oK M (Rc M (bD mM M (Cd M ?_ ?_)))) <;> clear H mM
   ·intro qG a H
    refine bO (fun _ mH=>?_)
    have e3:jX (bL us st li rv) h.marks=9:=by unfold jX;rw [av hno,av hn2,aD (by simpa using qG)]
    have hE:=(DV (C:=bL us st li rv) (e:=e) (h:=h) e1 e2 (by rw [e3];decide)).trans e3;exact kP H (SC (bD mH M (LR results70 M fun H=>H.rt (by rw [hE]))))
   intro qG a H
   have e3:jX (bL us st li rv) h.marks=0:=by unfold jX;rw [av hno,av hn2,av (by simpa using qG)]
   refine iE ?_;refine ⟨_,by exact H.sub ⟨M,M,M,aB⟩,?_⟩;exact ⟨e3,oQ⟩
  skip;refine dI hmx [[],[0],[0,1],[0,1,2],ra 0 4,ra 0 5,ra 0 6,ra 0 7,ra 0 4,[0,1,2,3,8],ra 0 10,ra 0 11,ra 0 12,ra 0 13] [13] V [_,_,_,_,undef,undef,undef,undef,undef,undef,undef,undef,_] H (ay (Z0 M (Rf sV M)) (X1 0 41 M fun hG=>Rg aF M (aC hG q0)) (Z1 1 42 M (Rc M)) (Z1 2 43 M (Rm M)) (ay (aZ 3 (aY c0) M M) (aZ 3 (aY c0) M M) (aZ 3 (aY c0) M M) (aZ 3 (aY c0) M M) (ay (aZ 3 (aY c0) M M) (aZ 3 (aY c0) M M) (aZ 3 (aY c0) M M) (aZ 3 (aY c0) M M) (bN (Z2 3 44 11 52 M (Pf (aY c0) M)) (bN (bT M) dB))))) ?_
  clear H;intro a w G oQ H hv;have H:=H.aN (hv 12 53 M M) M;clear hv;refine kH H (Ra M ?_);clear H;intro a H;refine aG ⟨M,?_⟩;refine eu _ _ ?_;clear eu;refine sQ H M M ?_;refine bO (fun _ kX=>?_)
  have hno:¬ (h.marks.ins≠0∧h.marks.ins∉(bL us st li rv).kM):=by first|exact fun h=>c1 h.2|exact fun h=>c0 h.1
  replace q0:=aC oQ q0;replace q1:=aC oQ q1;replace q2:=aC oQ q2;refine kP H (SC (Rf Ci M (Rg aF M (by assumption) ?_)));clear H;intro a H;refine s_call yO H wn M (za _ _ H.ro h.marks.move 0 1073741824) M ?_;clear H;rintro v57 _ a w ⟨rfl,rfl⟩ - H;refine kH H (Rn M (Rm M (Sp 59 M ?_ ?_))) <;> clear H
  ·intro jg a H
   try have p59:=dT jg
   refine kH H (aL jg M (aL jg M (Ku M (Ku M (Ku M (Ks jg M (Pt jg M (bD kX M (Ct M M (SQ fun _ ou=>?_))))))))));clear H kX;intro a H
   have e3:jX (bL us st li rv) h.marks=21:=by unfold jX;rw [av hno,aD (by first|(simp_all;done)|(simp_all;omega))]
   have hE:=(DV (C:=bL us st li rv) (e:=e) (h:=h) e1 e2 (by rw [e3];decide)).trans e3;exact kP H (SC (bD ou M (LR results70 M fun H=>H.rt (by rw [hE]))))
  intro jg a H
  try have p59:=dF jg
  refine kH H (YF Ci jg M (YR aF jg M (by assumption) ?_));clear H;intro a H;refine kH H (YC jg M (YM jg M (Sp 63 M ?_ ?_))) <;> clear H
  ·intro h63 a H
   try have p63:=dT h63
   refine kH H (YF sV h63 M (YR aF h63 M (by assumption) ?_));clear H;intro a H;refine kH H (YC h63 M (PT jg h63 M (Pf jg M (bD kX M (Cd M ?_ ?_))))) <;> clear H kX
   ·intro iF a H
    try have p54:=dT iF
    refine bO (fun _ ow=>?_)
    have e3:jX (bL us st li rv) h.marks=21:=by unfold jX;rw [av hno,aD (by first|(simp_all;done)|(simp_all;omega))]
    have hE:=(DV (C:=bL us st li rv) (e:=e) (h:=h) e1 e2 (by rw [e3];decide)).trans e3;exact kP H (SC (bD ow M (LR results70 M fun H=>H.rt (by rw [hE]))))
   intro iF a H
   try have p54:=dF iF
   refine bO (fun _ kY=>?_)
   have hn2:¬ (¬ (0<=h.marks.move∧h.marks.move<=1073741824)∨(h.marks.move≠0∧h.marks.ins=0)):=by first|(simp_all;done)|(simp_all;omega)
   refine kP H (SC (Rf uq M (Rg uK M (by assumption) ?_)));clear H;intro a H;refine kH H (Rl oK M (Rc M (bD kY M (Cd M ?_ ?_)))) <;> clear H kY
   ·intro qG a H
    refine bO (fun _ qj=>?_)
    have e3:jX (bL us st li rv) h.marks=9:=by unfold jX;rw [av hno,av hn2,aD (by simpa using qG)]
    have hE:=(DV (C:=bL us st li rv) (e:=e) (h:=h) e1 e2 (by rw [e3];decide)).trans e3;exact kP H (SC (bD qj M (LR results70 M fun H=>H.rt (by rw [hE]))))
   intro qG a H
   have e3:jX (bL us st li rv) h.marks=0:=by unfold jX;rw [av hno,av hn2,av (by simpa using qG)]
   refine iE ?_;refine ⟨_,by exact H.sub ⟨M,M,M,aB⟩,?_⟩;exact ⟨e3,oQ⟩
  intro h63 a H
  try have p63:=dF h63
  refine kH H (aP h63 M (PF jg h63 M (Pf jg M (bD kX M (Cf M M (SQ fun _ qB=>?_))))));clear H kX;intro a H
  have hn2:¬ (¬ (0<=h.marks.move∧h.marks.move<=1073741824)∨(h.marks.move≠0∧h.marks.ins=0)):=by first|(simp_all;done)|(simp_all;omega)
  refine kP H (SC (Rf uq M (Rg uK M (by assumption) ?_)));clear H;intro a H;refine kH H (Rl oK M (Rc M (bD qB M (Cd M ?_ ?_)))) <;> clear H qB
  ·intro qG a H
   refine bO (fun _ qO=>?_)
   have e3:jX (bL us st li rv) h.marks=9:=by unfold jX;rw [av hno,av hn2,aD (by simpa using qG)]
   have hE:=(DV (C:=bL us st li rv) (e:=e) (h:=h) e1 e2 (by rw [e3];decide)).trans e3;exact kP H (SC (bD qO M (LR results70 M fun H=>H.rt (by rw [hE]))))
  intro qG a H
  have e3:jX (bL us st li rv) h.marks=0:=by unfold jX;rw [av hno,av hn2,av (by simpa using qG)]
  refine iE ?_;refine ⟨_,by exact H.sub ⟨M,M,M,aB⟩,?_⟩;exact ⟨e3,oQ⟩
 clear H;intro g a w hI H;obtain ⟨e3,xX⟩:=hI;replace hck:=hck.mono xX;replace hb:=xX _ _ hb;replace hh:=hh.mono xX;replace g3:=aC xX g3;replace q2:=aC xX q2;replace q3:=aC xX q3;replace hc2:=aC xX hc2;replace hcb:=hcb.mono xX;dsimp only [lca,bM] at H;refine kP H (SQ fun _ rO=>SR fun _ qP=>Rf uq M (Rg uK M (by assumption) ?_));clear H;intro a H;refine kH H (Rl oK M (Rm M (Kz qP (SB ?_))));clear H qP;intro a H;skip;refine eX (ι:=Nat × GH) (Tc:=[(3,_),(4,_),(11,_),(75,_),(76,_)]) (Lc:=[]) (fun gh=>[(77,vi gh.1)]) (fun gh=>[]) (fun gh=>gh.2) (fun gh=>gh.1<=h.marks.bK.length∧dO (((List.range h.marks.bK.length).map (uo (bL us st li rv) h.marks.bK)).drop gh.1)=iX (uo (bL us st li rv) h.marks.bK) h.marks.bK.length∧(∀ b o,g b=some o->gh.2 b=some o)) (fun gh=>h.marks.bK.length - gh.1) ((0,g)) (by exact H.sub ⟨M,M,M,M,M,M,aB⟩) ?_ ?_
 ·exact EJ
 clear H;rintro ⟨k,g2⟩ a w hI H;dsimp only at hI H;obtain ⟨hk,heq,hgm⟩:=hI;dsimp only [lca,bM] at H;refine kP H (SR fun _ rP=>Rc M (Kz rP (SQ fun _ vK=>Cd M ?_ ?_))) <;> clear H rP
 ·intro Xq a H
  try have p78:=dT Xq
  have hk2:k < h.marks.bK.length:=by omega
  have hd2:=hh.bK.mono hgm;obtain ⟨xb,xo,rfl,hrow⟩:=QK hd2 hk2
  have hk1:k - 1 < h.marks.bK.length:=by omega
  obtain ⟨b',o',he',hrow'⟩:=QK hd2 hk1
  injection he' with he'
  injection he' with e1 e2
  subst e1;subst e2
  have hde:uo (bL us st li rv) h.marks.bK k=uT (bL us st li rv) k h.marks.bK[k] h.marks.bK[k - 1].rev:=by unfold uo;rw [eB hk2,eB hk1];rfl
  have hX:∀ v,uT (bL us st li rv) k h.marks.bK[k] h.marks.bK[k - 1].rev=v->v≠0->iG (bL us st li rv) e h=v:=fun v h1 h2=>by
   have h4:iX (uo (bL us st li rv) h.marks.bK) h.marks.bK.length=v:=by rw [<- heq,Gn hk2,hde,h1,aD h2]
   exact (atU e1 e2 e3 (by rw [h4];exact h2)).trans h4
  have hp:=hrow' 0 _ M;have g3':=aC hgm g3;have hc2':=aC hgm hc2;have q2':=aC hgm q2;refine kP H (Kc vK (SQ fun _ sM=>SB (SR fun _ xB=>Rm M (Ri oK oJ M M ?_))));clear H vK;intro a H;refine aU oJ (cs:=h.marks.bK[k].cells) H wn M M (fun j v hj=>H.hp.aH (hrow j v hj)) M ?_;clear H;intro a H;refine dJ oJ H wn M ?_;clear H;intro b13 a w NK H;refine kH H (Ra M ?_);clear H;intro a H;refine bC oJ 0 (vs:=[_,_]) H wn M ?_;clear H;intro w H;refine xB _ _ ?_;clear xB;refine EL ?_;refine bO (fun _ BJ=>?_);refine dI hmx [[],[0],[0,1],[0,1,2],[],[4],ra 0 6,ra 0 7,ra 0 8] [8] V [_,_,_,_,_,vi h.marks.bK[k].rev,.bool (decide (h.marks.bK[k].rev∈rv.map bV.id)),_] H (ay (X0 M fun hG=>Rg LX M (aC hG g3')) (Z1 0 83 M (Rk M)) (Z1 1 84 M (Rf Ns M)) (X1 2 85 M fun hG=>Rg vC M (aC hG hc2')) (ay (Z0 M (Rf EO M)) (Z1 4 87 M (Ro aF 0 M)) ?_ (Z1 6 89 M (Rn M)) (bN (bT M) dB))) ?_
  ·refine eT 3 86 5 88 M M fun _ a w G1 hG HT H fin=>?_;refine Bw (zv:=.bool false) xu mF V H wn M M (H.ro _ _ (hG _ _ (hgm _ _ hck.rev))) M ?_;clear H;intro a H;rw [FC] at H;exact JE
  clear H;intro a w G E9 H hv;have H:=H.aN (hv 7 90 M M) M;clear hv;refine kH H (Ra M ?_);clear H;intro a H;refine aG ⟨M,?_⟩;refine BJ _ _ ?_;clear BJ;refine jw H M ?_ ?_
  ·intro xS
   refine bO (fun _ BK=>?_);have hE:=hX 22 (by unfold uT;rw [aD (by simpa using xS)]) Z;exact kP H (SC (bD BK M (LR results70 M fun H=>H.rt (by rw [hE]))))
  intro xS
  try have p82:=dF xS
  have N9:¬ (h.marks.bK[k].rev∉(bL us st li rv).kM):=by simpa using xS
  refine bO (fun _ qC=>?_);replace hp:=aC E9 hp;replace q2':=aC E9 q2'
  by_cases c3:0 < (k:Int)
  ·skip
   by_cases c4:h.marks.bK[k].rev<=h.marks.bK[k - 1].rev
   ·skip;refine dI hmx [[],[0],[0,1],[0,1,2],ra 0 4,[0,1,2],[0,1,2,5],[0,1,2],[0,1,2,7],[0,1,2,5,6,7,8],[0,1,2,5,6,7,8,9],([0,1,2]++ra 5 6),ra 0 12,ra 0 13,ra 0 14] [14] V [_,_,_,_,vi h.marks.bK[k].rev,_,_,_,vi ((k - 1:Nat):Int),_,_,_,_,_] H (ay (Z0 M (Rm M)) (Z1 0 92 M (Rc M)) (Z1 1 93 M (Rm M)) (Z1 2 94 M (YF EO (aI c3) M)) (ay (Z2 3 95 2 94 M (YO aF 0 (aI c3) M)) (Z1 2 94 M (YF uq (aI c3) M)) (X2 5 97 2 94 M fun hG=>YR uK (aI c3) M (aC hG q2')) (Z1 2 94 M (YM (aI c3) M)) (ay ?_ (Z3 6 98 8 100 2 94 M (YI oK oJ (aI c3) M M)) (Z2 9 101 2 94 M (YF EO (aI c3) M)) (X2 10 102 2 94 M fun hG=>YR aF (aI c3) M (aC hG hp)) (bN (Z3 4 96 11 103 2 94 M (YC (aI c3) M)) (bN (Z2 2 94 12 104 M (Pt (aI c3) M)) (bN (bT M) dB)))))) ?_
    ·refine eT 7 99 2 94 M M fun _ a w G1 hG HT H fin=>?_;exact Ql
    clear H;intro a w G Rj H hv;have H:=H.aN (hv 13 105 M M) M;clear hv;refine kH H (Ra M ?_);clear H;intro a H;refine aG ⟨M,?_⟩;refine qC _ _ ?_;clear qC;refine Cc H M (aI c4) ?_;refine bO (fun _ Dh=>?_);have hz:0 < k∧h.marks.bK[k].rev<=h.marks.bK[k - 1].rev:=⟨O,c4⟩;have hE:=hX 6 (by unfold uT;rw [av N9,aD hz]) Z;exact kP H (SC (bD Dh M (LR results70 M fun H=>H.rt (by rw [hE]))))
   skip;refine dI hmx [[],[0],[0,1],[0,1,2],ra 0 4,[0,1,2],[0,1,2,5],[0,1,2],[0,1,2,7],[0,1,2,5,6,7,8],[0,1,2,5,6,7,8,9],([0,1,2]++ra 5 6),ra 0 12,ra 0 13,ra 0 14] [14] V [_,_,_,_,vi h.marks.bK[k].rev,_,_,_,vi ((k - 1:Nat):Int),_,_,_,_,_] H (ay (Z0 M (Rm M)) (Z1 0 92 M (Rc M)) (Z1 1 93 M (Rm M)) (Z1 2 94 M (YF EO (aI c3) M)) (ay (Z2 3 95 2 94 M (YO aF 0 (aI c3) M)) (Z1 2 94 M (YF uq (aI c3) M)) (X2 5 97 2 94 M fun hG=>YR uK (aI c3) M (aC hG q2')) (Z1 2 94 M (YM (aI c3) M)) (ay ?_ (Z3 6 98 8 100 2 94 M (YI oK oJ (aI c3) M M)) (Z2 9 101 2 94 M (YF EO (aI c3) M)) (X2 10 102 2 94 M fun hG=>YR aF (aI c3) M (aC hG hp)) (bN (Z3 4 96 11 103 2 94 M (YC (aI c3) M)) (bN (Z2 2 94 12 104 M (Pt (aI c3) M)) (bN (bT M) dB)))))) ?_
   ·refine eT 7 99 2 94 M M fun _ a w G1 hG HT H fin=>?_;exact Ql
   clear H;intro a w G Rj H hv;have H:=H.aN (hv 13 105 M M) M;clear hv;refine kH H (Ra M ?_);clear H;intro a H;refine aG ⟨M,?_⟩;refine qC _ _ ?_;clear qC;refine sQ H M (aY c4) ?_;refine bO (fun _ BL=>?_)
   have hz:¬ (0 < k∧h.marks.bK[k].rev<=h.marks.bK[k - 1].rev):=by first|exact fun h=>c4 h.2|exact fun h=>c3 O
   refine kP H (SC (bQ afu aF 0 M M ?_));clear H;intro a H;refine s_call yO H wn M (za _ _ H.ro h.marks.bK[k].move 0 1073741824) M ?_;clear H;rintro v109 _ a w ⟨rfl,rfl⟩ - H;refine kH H (Rn M (bD BL M (Cd M ?_ ?_))) <;> clear H BL
   ·intro Ay a H
    try have Zn:=dT Ay
    refine bO (fun _ F7=>?_);have hE:=hX 21 (by unfold uT;rw [av N9,av hz,aD (by have h0:=Ay;simp at h0;omega)]) Z;exact kP H (SC (bD F7 M (LR results70 M fun H=>H.rt (by rw [hE]))))
   intro Ay a H
   try have Zn:=dF Ay
   have agt:uT (bL us st li rv) k h.marks.bK[k] h.marks.bK[k - 1].rev=0:=by unfold uT;rw [av N9,av hz,av (by have h0:=Ay;simp at h0;omega)]
   have hGk:=fun b o h=>Rj b o (E9 b o (hgm b o h));refine kP H (Kc sM (SC (Rd M (Rm M ?_))));clear H sM;intro a H;refine aG ?_;refine dY ((k+1,G)) (by exact (H.fH (Pl:=[_]) (eD:=[]) [] Z M).sub ⟨M,M,M,M,M,M,aB⟩) ?_
   (try dsimp only);exact abn
  skip;refine dI hmx [[],[0],[0,1],[0,1,2],ra 0 4,[0,1,2],[0,1,2,5],[0,1,2],[0,1,2,7],[0,1,2,5,6,7,8],[0,1,2,5,6,7,8,9],([0,1,2]++ra 5 6),ra 0 12,ra 0 13,ra 0 14] [14] V [_,_,_,undef,undef,undef,undef,undef,undef,undef,undef,undef,undef,_] H (ay (Z0 M (Rm M)) (Z1 0 92 M (Rc M)) (Z1 1 93 M (Rm M)) (aZ 2 (aY c3) M M) (ay (aZ 2 (aY c3) M M) (aZ 2 (aY c3) M M) (aZ 2 (aY c3) M M) (aZ 2 (aY c3) M M) (ay (aZ 2 (aY c3) M M) (aZ 2 (aY c3) M M) (aZ 2 (aY c3) M M) (aZ 2 (aY c3) M M) (bN (aZ 2 (aY c3) M M) (bN (Z2 2 94 12 104 M (Pf (aY c3) M)) (bN (bT M) dB)))))) ?_
  clear H;intro a w G Rj H hv;have H:=H.aN (hv 13 105 M M) M;clear hv;refine kH H (Ra M ?_);clear H;intro a H;refine aG ⟨M,?_⟩;refine qC _ _ ?_;clear qC;refine sQ H M M ?_;refine bO (fun _ EF=>?_)
  have hz:¬ (0 < k∧h.marks.bK[k].rev<=h.marks.bK[k - 1].rev):=by first|exact fun h=>c4 h.2|exact fun h=>c3 O
  refine kP H (SC (bQ afu aF 0 M M ?_));clear H;intro a H;refine s_call yO H wn M (za _ _ H.ro h.marks.bK[k].move 0 1073741824) M ?_;clear H;rintro v109 _ a w ⟨rfl,rfl⟩ - H;refine kH H (Rn M (bD EF M (Cd M ?_ ?_))) <;> clear H EF
  ·intro Ay a H
   try have Zn:=dT Ay
   refine bO (fun _ F8=>?_);have hE:=hX 21 (by unfold uT;rw [av N9,av hz,aD (by have h0:=Ay;simp at h0;omega)]) Z;exact kP H (SC (bD F8 M (LR results70 M fun H=>H.rt (by rw [hE]))))
  intro Ay a H
  try have Zn:=dF Ay
  have agt:uT (bL us st li rv) k h.marks.bK[k] h.marks.bK[k - 1].rev=0:=by unfold uT;rw [av N9,av hz,av (by have h0:=Ay;simp at h0;omega)]
  have hGk:=fun b o h=>Rj b o (E9 b o (hgm b o h));refine kP H (Kc sM (SC (Rd M (Rm M ?_))));clear H sM;intro a H;refine aG ?_;refine dY ((k+1,G)) (by exact (H.fH (Pl:=[_]) (eD:=[]) [] Z M).sub ⟨M,M,M,M,M,M,aB⟩) ?_
  (try dsimp only);exact abn
 intro Xq a H
 try have p78:=dF Xq
 refine dQ ?_;refine rO _ _ ?_;clear rO;refine bO (fun _ EG=>?_);refine bO (fun _ Mr=>?_)
 have e4:iX (uo (bL us st li rv) h.marks.bK) h.marks.bK.length=0:=by rw [<- heq,uh (by simp;omega)];rfl
 replace q3:=aC hgm q3;refine kP H (SC (Rf Au M (Rg BA M (by assumption) ?_)));clear H;intro a H;refine kH H (Rl lU M (Rc M (Kn Mr (Cd M ?_ ?_)))) <;> clear H Mr
 ·intro Xi a H
  try have Zo:=dT Xi
  refine bO (fun _ PX=>?_);have hE:=atV (C:=bL us st li rv) (e:=e) (h:=h) e1 e2 e3 e4 Zo;exact kP H (SC (bD PX M (LR results70 M fun H=>H.rt (by rw [hE]))))
 intro Xi a H
 try have Zo:=dF Xi
 refine iE ?_;refine EG _ _ ?_;clear EG;refine bO (fun _ PY=>?_);have hE:=atW (C:=bL us st li rv) (e:=e) (h:=h) e1 e2 e3 e4 Zo;refine kP H (SC (Rf Au M (Rg BA M (by assumption) ?_)));clear H;intro a H;refine kH H (Rl lU M ?_);clear H;intro a H;refine uJ H wn M M ?_;clear H;intro a H;refine s_call JZ H wn M (MI _ _ H.ro h.marks.layers.length (xZ (bL us st li rv) e h.marks.layers) _ O (hcb.mono hgm)) M ?_;clear H;rintro aCE aBu a w rfl aBJ H;exact kH H (bD PY M (LR results70 M fun H=>H.rt (by rw [hE])))
end
theorem GY:dP prog 68 1 1:=⟨V⟩
def codeOk (x:au):Bool:=if x.kind=4 then decide (1<=x.code∧x.code<=3) else if x.kind=6 then decide (1<=x.code∧x.code<=2) else if x.kind=8 then decide (1<=x.code∧x.code<=4) else true
def Aa (x:au):Bool:=decide (x.kind=8∧x.code=1)
def Ae (x:au):Bool:=decide (x.kind=1∨x.kind=5) || Aa x
def yj (x:au):Bool:=decide (x.kind=6∨x.kind=7∨x.kind=8)
def xL (x:au):Bool:=decide (x.kind=4∨x.kind=6∨x.kind=8)
def vT (s:ByteArray):Bool:=s.toList == (⟨#[]⟩:ByteArray).toList
def wP (x:au):Bool:=!xL x && decide (x.code≠0) || !yj x && decide (x.id≠0) || !Ae x && !vT x.text || decide (x.kind≠6) && decide (0 < (x.flow.length:Int)) || decide (x.kind≠7) && decide (0 < (x.rows.length:Int))
def lu (x:au):Int :=
 if (!decide (1<=x.kind∧x.kind<=8) || !codeOk x)=true then 3 else if wP x=true then 15 else if sI x.text=false then 12 else if (decide (x.kind=1∨x.kind=5) && vT x.text)=true then 11
 else if (decide (x.kind=5) && decide (1024 < (x.text.size:Int)))=true then 10 else if (Aa x && !xM x.text)=true then 13 else 0
theorem yJ {p:Prop} (h:p:=by
 first|(simp_all;done)):p:=h
theorem GD {p:Prop} (h:p:=by
 clear hst hwd hnm hck hcd;(try clear hq1);(try clear hq2);(try clear hq3);(try clear hq0);(try clear hq4);(try clear KO);(try clear KP);(try clear KQ);simp_all):p:=h
theorem ama {p:Prop} (h:p:=by
 (try clear hq1);(try clear hq2);(try clear hq3);(try clear hq0);(try clear hq4);(try clear KO);(try clear KP);(try clear KQ);simp_all):p:=h
theorem abR {p:Prop} (h:p:=by
 clear hst hwd hnm hck hcd;(try clear hq1);(try clear hq2);(try clear hq3);(try clear hq0);(try clear hq4);(try clear KO);(try clear KP);(try clear KQ);simp_all [vT]):p:=h
theorem acz {p:Prop} (h:p:=by
 (try clear hq1);(try clear hq2);(try clear hq3);(try clear hq0);(try clear hq4);(try clear KO);(try clear KP);(try clear KQ);simp_all [vT]):p:=h
theorem VD {p:Prop} (h:p:=by
 refine kH H (Ra M ?_);clear H;intro a H;refine aG ?_;refine ⟨_,by exact H.sub ⟨M,M,M,M,M,aB⟩,?_⟩
 unfold codeOk;exact yJ):p:=h
theorem GA {p:Prop} (h:p:=by
 clear hst hwd hnm hck hcd;exact ama):p:=h
theorem aci {p:Prop} (h:p:=by
 clear H;intro a H;refine afY (_) _ _ ?_ (by exact H.sub ⟨M,M,M,aB⟩);rw [<- hwd];clear hst hwd hnm hck hcd;exact acz):p:=h
theorem aco {p:Prop} (h:p:=by
 clear H;intro a H;refine agc (_) _ _ ?_ (by exact H.sub ⟨M,M,M,aB⟩);clear hst hwd hnm hck hcd;exact acz):p:=h
theorem acu {p:Prop} (h:p:=by
 clear H;intro a H;refine aga (_) _ _ ?_ (by exact H.sub ⟨M,M,M,aB⟩);rw [show wP x=(q4 || decide (x.kind≠7) && decide (0 < (x.rows.length:Int))) by rw [hq4,hq3,hq2,hq1];rfl];clear hq4;exact GA):p:=h
theorem acw {p:Prop} (h:p:=by
 clear H;intro a H;refine agb (_) _ _ ?_ (by exact H.sub ⟨M,M,M,M,aB⟩);rw [<- hnm];exact GA):p:=h
theorem acy {p:Prop} (h:p:=by
 clear H;intro a H;refine afZ (_) _ _ ?_ (by exact H.sub ⟨M,M,M,aB⟩);exact GA):p:=h
theorem asl (G:GH) (w0:World) (hG:Hold G w0) (x:au) (p d l:ah) (fA rA:Option Addr) (fc rc:Nat) (hs:x.text.size < 4611686018427387904) :
  Calls prog 196 #[.agg #[vi x.kind,vi x.code,vi x.id,.string x.text,p,vi x.head.marks.ins,vi x.head.marks.move,d,l,.slice fA x.flow.length fc,.slice rA x.rows.length rc]] w0 (bG w0 G fun u G'=>u=vi (lu x)∧G=G'):=by
 refine eN [(0,_)] func196 M ntmps196 M M hG ?_;intro a H;refine dz (fun _ K1=>?_);refine dR (cs:=[_,_,_,_,_,_,_,_,_,_,_]) H wn M M M ?_;clear H;intro b1 a w hb1 H;refine kH H (aj K1 M ?_);clear H K1;intro a H;refine uj (ι:=Bool) (Tc:=[(1,_)]) (Lc:=[(_,_)]) (fun gh=>[(3,.bool gh)]) (fun gh=>[]) (fun gh=>G) (fun gh=>gh=Aa x) (by exact H.sub ⟨M,aB⟩) ?_ ?_
 ·skip;refine kP H (SC (bQ lM aF 0 M M (Rc M (Rm M (Sp 11 M ?_ ?_))))) <;> clear H
  ·intro h11 a H
   try have sD:=dT h11
   refine kH H (YF GY h11 M (YO aF 0 h11 M (YC h11 M (Pt h11 M (Ra M ?_)))));clear H;intro a H;refine aG ?_;refine ⟨_,by exact H.sub ⟨M,M,aB⟩,?_⟩
   unfold Aa;exact yJ
  intro h11 a H
  try have sD:=dF h11
  refine kH H (aP h11 M (Pf h11 M (Ra M ?_)));clear H;intro a H;refine aG ?_;refine ⟨_,by exact H.sub ⟨M,M,aB⟩,?_⟩
  unfold Aa;exact yJ
 clear H;intro st a w hI H;have hst:=hI;dsimp only [lca,bM] at H;refine uj (ι:=Bool) (Tc:=[(1,_),(3,_)]) (Lc:=[(_,_)]) (fun gh=>[(4,.bool gh)]) (fun gh=>[]) (fun gh=>G) (fun gh=>gh=Ae x) (by exact H.sub ⟨M,M,aB⟩) ?_ ?_
 ·skip;refine kP H (SC (bQ lM aF 0 M M (Rc M (Rm M (Sp 19 M ?_ ?_))))) <;> clear H
  ·intro h19 a H
   try have rF:=dT h19
   refine kH H (aP h19 M (Pt h19 M (Rm M (Ks M M (Pt M M (Ra M ?_))))));clear H;intro a H;refine aG ?_;refine ⟨_,by exact H.sub ⟨M,M,M,aB⟩,?_⟩
   unfold Ae;exact yJ
  intro h19 a H
  try have rF:=dF h19
  refine kH H (YF lM h19 M (YO aF 0 h19 M (YC h19 M (Pf h19 M (Rm M (Sp 24 M ?_ ?_)))))) <;> clear H
  ·intro cK a H
   try have kV:=dT cK
   refine kH H (Ks cK M (Pt cK M (Ra M ?_)));clear H;intro a H;refine aG ?_;refine ⟨_,by exact H.sub ⟨M,M,M,aB⟩,?_⟩
   unfold Ae;exact yJ
  intro cK a H
  try have kV:=dF cK
  refine kH H (YM cK M (Pf cK M (Ra M ?_)));clear H;intro a H;refine aG ?_;refine ⟨_,by exact H.sub ⟨M,M,M,aB⟩,?_⟩
  unfold Ae;exact yJ
 clear H;intro wd a w hI H;have hwd:=hI;dsimp only [lca,bM] at H;refine uj (ι:=Bool) (Tc:=[(1,_),(3,_),(4,_)]) (Lc:=[(_,_)]) (fun gh=>[(5,.bool gh)]) (fun gh=>[]) (fun gh=>G) (fun gh=>gh=yj x) (by exact H.sub ⟨M,M,M,aB⟩) ?_ ?_
 ·skip;refine kP H (SC (bQ lM aF 0 M M (Rc M (Rm M (Sp 30 M ?_ ?_))))) <;> clear H
  ·intro jl a H
   try have p30:=dT jl
   refine kH H (aP jl M (Pt jl M (Rm M (aP M M (Pt M M (Ra M ?_))))));clear H;intro a H;refine aG ?_;refine ⟨_,by exact H.sub ⟨M,M,M,M,aB⟩,?_⟩
   unfold yj;exact yJ
  intro jl a H
  try have p30:=dF jl
  refine kH H (YF lM jl M (YO aF 0 jl M (YC jl M (Pf jl M (Rm M (Sp 35 M ?_ ?_)))))) <;> clear H
  ·intro iw a H
   try have p35:=dT iw
   refine kH H (aP iw M (Pt iw M (Ra M ?_)));clear H;intro a H;refine aG ?_;refine ⟨_,by exact H.sub ⟨M,M,M,M,aB⟩,?_⟩
   unfold yj;exact yJ
  intro iw a H
  try have p35:=dF iw
  refine kH H (YF lM iw M (YO aF 0 iw M (YC iw M (Pf iw M (Ra M ?_)))));clear H;intro a H;refine aG ?_;refine ⟨_,by exact H.sub ⟨M,M,M,M,aB⟩,?_⟩
  unfold yj;exact yJ
 clear H;intro nm a w hI H;have hnm:=hI;dsimp only [lca,bM] at H;refine kP H (SR fun _ K2=>aj K2 M ?_);clear H K2;intro a H;refine uj (ι:=Bool) (Tc:=[(1,_),(3,_),(4,_),(5,_)]) (Lc:=[(_,_)]) (fun gh=>[(6,.bool gh)]) (fun gh=>[]) (fun gh=>G) (fun gh=>gh=codeOk x) (by exact H.sub ⟨M,M,M,M,aB⟩) ?_ ?_
 ·skip;refine kP H (SR fun _ K3=>bQ lM aF 0 M M (Kz K3 (SB (SR fun _ K4=>Rc M (aj K4 M (Cd M ?_ ?_)))))) <;> clear H K3 K4
  ·intro jR a H
   try have p42:=dT jR
   refine kP H (SC (bQ GY aF 0 M M ?_));clear H;intro a H;refine s_call yO H wn M (za _ _ H.ro x.code 1 3) M ?_;clear H;rintro v46 _ a w ⟨rfl,rfl⟩ - H;exact VD
  intro jR a H
  try have p42:=dF jR
  refine kP H (SR fun _ K5=>Rc M (aj K5 M (Cd M ?_ ?_))) <;> clear H K5
  ·intro h47 a H
   try have p47:=dT h47
   refine kP H (SC (bQ GY aF 0 M M ?_));clear H;intro a H;refine s_call yO H wn M (za _ _ H.ro x.code 1 2) M ?_;clear H;rintro v51 _ a w ⟨rfl,rfl⟩ - H;exact VD
  intro h47 a H
  try have p47:=dF h47
  refine kP H (SR fun _ K6=>Rc M (aj K6 M (Cd M ?_ ?_))) <;> clear H K6
  ·intro qw a H
   try have p52:=dT qw
   refine kP H (SC (bQ GY aF 0 M M ?_));clear H;intro a H;refine s_call yO H wn M (za _ _ H.ro x.code 1 4) M ?_;clear H;rintro v56 _ a w ⟨rfl,rfl⟩ - H;exact VD
  intro qw a H
  try have p52:=dF qw
  refine iE ?_;refine ⟨_,by exact H.sub ⟨M,M,M,M,M,aB⟩,?_⟩
  unfold codeOk;exact yJ
 clear H;intro ck a w hI H;have hck:=hI;dsimp only [lca,bM] at H;refine uj (ι:=Bool) (Tc:=[(1,_),(3,_),(4,_),(5,_),(6,_)]) (Lc:=[(_,_)]) (fun gh=>[(7,.bool gh)]) (fun gh=>[]) (fun gh=>G) (fun gh=>gh=xL x) (by exact H.sub ⟨M,M,M,M,M,aB⟩) ?_ ?_
 ·skip;refine kP H (SC (bQ lM aF 0 M M (Rc M (Rm M (Sp 60 M ?_ ?_))))) <;> clear H
  ·intro kI a H
   try have p60:=dT kI
   refine kH H (aP kI M (Pt kI M (Rm M (aP M M (Pt M M (Ra M ?_))))));clear H;intro a H;refine aG ?_;refine ⟨_,by exact H.sub ⟨M,M,M,M,M,M,aB⟩,?_⟩
   unfold xL;exact yJ
  intro kI a H
  try have p60:=dF kI
  refine kH H (YF lM kI M (YO aF 0 kI M (YC kI M (Pf kI M (Rm M (Sp 65 M ?_ ?_)))))) <;> clear H
  ·intro uW a H
   try have p65:=dT uW
   refine kH H (aP uW M (Pt uW M (Ra M ?_)));clear H;intro a H;refine aG ?_;refine ⟨_,by exact H.sub ⟨M,M,M,M,M,M,aB⟩,?_⟩
   unfold xL;exact yJ
  intro uW a H
  try have p65:=dF uW
  refine kH H (YF lM uW M (YO aF 0 uW M (YC uW M (Pf uW M (Ra M ?_)))));clear H;intro a H;refine aG ?_;refine ⟨_,by exact H.sub ⟨M,M,M,M,M,M,aB⟩,?_⟩
  unfold xL;exact yJ
 clear H;intro cd a w hI H;have hcd:=hI;dsimp only [lca,bM] at H;refine kP H (SQ fun _ K7=>SB (SR fun _ K8=>?_));clear H;intro a H;refine Eu (ι:=Bool) (Tc:=[(1,_),(3,_),(4,_),(5,_),(7,_)]) 8 (fun (q0:Bool)=>[(78,.bool q0)]) (fun (q0:Bool)=>q0=(!decide (1<=x.kind∧x.kind<=8) || !codeOk x)) (by exact H.sub ⟨M,M,M,M,M,aB⟩) ?_ ?_
 ·intro afW;refine kH H (bQ lM aF 0 M M ?_);clear H;intro a H;refine s_call yO H wn M (za _ _ H.ro x.kind 1 8) M ?_;clear H;rintro v73 _ a w ⟨rfl,rfl⟩ - H;refine kH H (Rn M (Rm M (Sp 75 M ?_ ?_))) <;> clear H
  ·intro zN a H
   try have p75:=dT zN
   refine kH H (aL zN M (Pt zN M ?_));clear H;intro a H;refine afW (_) _ _ ?_ (by exact H.sub ⟨M,M,M,M,M,M,aB⟩);rw [<- hck];exact GA
  intro zN a H
  try have p75:=dF zN
  refine kH H (YM zN M (YN zN M (Pf zN M ?_)));clear H;intro a H;refine afW (_) _ _ ?_ (by exact H.sub ⟨M,M,M,M,M,M,aB⟩);rw [<- hck];exact GD
 clear H;intro q0 a w hI H;dsimp only [lca,bM] at H;simp only [xG,wI];have hq0:=hI;refine kH H (aj K8 M (Cd M ?_ ?_)) <;> clear H K8
 ·intro Rh a H
  refine bO (fun _ K9=>?_)
  have e:lu x=3:=by unfold lu;rw [aD (by rw [<- hq0];exact Rh)]
  exact kP H (SC (bD K9 M (LR results196 M fun H=>H.rt ⟨by rw [e],M⟩)))
 intro Rh a H
 try have p70:=dF Rh
 have f0:¬ (!decide (1<=x.kind∧x.kind<=8) || !codeOk x)=true:=by rw [<- hq0,Rh];decide
 refine dz (fun _ aR=>?_);refine Eu (ι:=Bool) (Tc:=[(1,_),(3,_),(4,_),(5,_)]) 7 (fun (q1:Bool)=>[(86,.bool q1)]) (fun (q1:Bool)=>q1=(!xL x && decide (x.code≠0))) (by exact H.sub ⟨M,M,M,M,aB⟩) ?_ ?_
 ·intro afX;refine kH H (Rm M (Rn M (Rm M (Sp 82 M ?_ ?_)))) <;> clear H
  ·intro xS a H
   try have p82:=dT xS
   refine kH H (YF GY xS M (YO aF 0 xS M (YC xS M (Pt xS M ?_))));clear H;intro a H;refine afX (_) _ _ ?_ (by exact H.sub ⟨M,M,M,M,M,aB⟩);rw [<- hcd];exact GA
  intro xS a H
  try have p82:=dF xS
  refine kH H (aP xS M (Pf xS M ?_));clear H;intro a H;refine afX (_) _ _ ?_ (by exact H.sub ⟨M,M,M,M,M,aB⟩);rw [<- hcd];exact GD
 clear H;intro q1 a w hI H;dsimp only [lca,bM] at H;simp only [xG,wI];have hq1:=hI;refine Eu (ι:=Bool) (Tc:=[(1,_),(3,_),(4,_)]) 9 (fun (q2:Bool)=>[(95,.bool q2)]) (fun (q2:Bool)=>q2=(q1 || !yj x && decide (x.id≠0))) (by exact H.sub ⟨M,M,M,aB⟩) ?_ ?_
 ·intro agb;refine kH H (Rm M (Sp 87 M ?_ ?_)) <;> clear H
  ·intro h87 a H
   try have Zr:=dT h87
   refine kH H (aP h87 M (Ku M (Ku M (Ku M (Ks h87 M (Pt h87 M ?_))))));exact acw
  intro h87 a H
  try have Zr:=dF h87
  refine kH H (YM h87 M (YN h87 M (YM h87 M (Sp 90 M ?_ ?_)))) <;> clear H
  ·intro DL a H
   try have p90:=dT DL
   refine kH H (YF J9 DL M (YO aF 0 DL M (YC DL M (PT h87 DL M (Pf h87 M ?_)))));exact acw
  intro DL a H
  try have p90:=dF DL
  refine kH H (aP DL M (PF h87 DL M (Pf h87 M ?_)));clear H;intro a H;refine agb (_) _ _ ?_ (by exact H.sub ⟨M,M,M,M,aB⟩);rw [<- hnm];exact GD
 clear H;intro q2 a w hI H;dsimp only [lca,bM] at H;simp only [xG,wI];have hq2:=hI;refine Eu (ι:=Bool) (Tc:=[(1,_),(3,_)]) 9 (fun (q3:Bool)=>[(104,.bool q3)]) (fun (q3:Bool)=>q3=(q2 || !Ae x && !vT x.text)) (by exact H.sub ⟨M,M,aB⟩) ?_ ?_
 ·intro afY;refine kH H (Rm M (Sp 96 M ?_ ?_)) <;> clear H
  ·intro uX a H
   try have OE:=dT uX
   refine kH H (aP uX M (Ku M (Ku M (Ku M (Ks uX M (Pt uX M ?_))))));exact aci
  intro uX a H
  try have OE:=dF uX
  refine kH H (YM uX M (YN uX M (YM uX M (Sp 99 M ?_ ?_)))) <;> clear H
  ·intro DN a H
   try have p99:=dT DN
   refine kH H (YF vY DN M (YO iP 0 DN M ?_));clear H;intro a H;refine azl H (wg H M M DN) M M M ?_;clear H;intro a H;refine kH H (PT uX DN M (Pf uX M ?_));exact aci
  intro DN a H
  try have p99:=dF DN
  refine kH H (aP DN M (PF uX DN M (Pf uX M ?_)));clear H;intro a H;refine afY (_) _ _ ?_ (by exact H.sub ⟨M,M,M,aB⟩);rw [<- hwd];exact abR
 clear H;intro q3 a w hI H;dsimp only [lca,bM] at H;simp only [xG,wI];have hq3:=hI;refine Eu (ι:=Bool) (Tc:=[(1,_),(3,_)]) 11 (fun (q4:Bool)=>[(115,.bool q4)]) (fun (q4:Bool)=>q4=(q3 || decide (x.kind≠6) && decide (0 < (x.flow.length:Int)))) (by exact H.sub ⟨M,M,aB⟩) ?_ ?_
 ·intro afZ;refine kH H (Rm M (Sp 105 M ?_ ?_)) <;> clear H
  ·intro sZ a H
   try have Ll:=dT sZ
   refine kH H (aL sZ M (aL sZ M (Ku M (Ku M (Ku M (Ku M (Ks sZ M (Pt sZ M ?_))))))));exact acy
  intro sZ a H
  try have Ll:=dF sZ
  refine kH H (YF lM sZ M (YO aF 0 sZ M (YC sZ M (YM sZ M (Sp 109 M ?_ ?_))))) <;> clear H
  ·intro Az a H
   try have axo:=dT Az
   refine kH H (YF zL Az M (YO kW 0 Az M (YL jq Az M (YC Az M (PT sZ Az M (Pf sZ M ?_))))));exact acy
  intro Az a H
  try have axo:=dF Az
  refine kH H (aL Az M (aL Az M (PF sZ Az M (Pf sZ M ?_))));clear H;intro a H;refine afZ (_) _ _ ?_ (by exact H.sub ⟨M,M,M,aB⟩);exact GD
 clear H;intro q4 a w hI H;dsimp only [lca,bM] at H;simp only [xG,wI];have hq4:=hI;refine Eu (ι:=Bool) (Tc:=[(1,_),(3,_)]) 11 (fun (q5:Bool)=>[(126,.bool q5)]) (fun (q5:Bool)=>q5=wP x) (by exact H.sub ⟨M,M,aB⟩) ?_ ?_
 ·intro aga;refine kH H (Rm M (Sp 116 M ?_ ?_)) <;> clear H
  ·intro h116 a H
   try have axr:=dT h116
   refine kH H (aL h116 M (aL h116 M (Ku M (Ku M (Ku M (Ku M (Ks h116 M (Pt h116 M ?_))))))));exact acu
  intro h116 a H
  try have axr:=dF h116
  refine kH H (YF lM h116 M (YO aF 0 h116 M (YC h116 M (YM h116 M (Sp 120 M ?_ ?_))))) <;> clear H
  ·intro AA a H
   try have axu:=dT AA
   refine kH H (YF uw AA M (YO uL 0 AA M (YL nO AA M (YC AA M (PT h116 AA M (Pf h116 M ?_))))));exact acu
  intro AA a H
  try have axu:=dF AA
  refine kH H (aL AA M (aL AA M (PF h116 AA M (Pf h116 M ?_))));clear H;intro a H;refine aga (_) _ _ ?_ (by exact H.sub ⟨M,M,M,aB⟩);rw [show wP x=(q4 || decide (x.kind≠7) && decide (0 < (x.rows.length:Int))) by rw [hq4,hq3,hq2,hq1];rfl];clear hq4;exact GD
 clear H;intro q5 a w hI H;dsimp only [lca,bM] at H;simp only [xG,wI];have KO:=hI;refine kH H (aj aR M (Cd M ?_ ?_)) <;> clear H aR
 ·intro E5 a H
  refine bO (fun _ bq=>?_)
  have e:lu x=15:=by unfold lu;rw [av f0,aD (by rw [<- KO];exact E5)]
  exact kP H (SC (bD bq M (LR results196 M fun H=>H.rt ⟨by rw [e],M⟩)))
 intro E5 a H
 try have Zq:=dF E5
 have f1:¬ wP x=true:=by rw [<- KO,E5];decide
 refine kP H (SR fun _ bP=>bQ vY iP 0 M M ?_);clear H;intro a H;refine s_call Nk H wn M (Pk _ _ H.ro x.text hs) M ?_;clear H;rintro v130 _ a w ⟨rfl,rfl⟩ - H;refine kH H (Rn M (aj bP M (Cd M ?_ ?_))) <;> clear H bP
 ·intro h127 a H
  refine bO (fun _ bU=>?_)
  have e:lu x=12:=by unfold lu;rw [av f0,av f1,aD (by simpa using h127)]
  exact kP H (SC (bD bU M (LR results196 M fun H=>H.rt ⟨by rw [e],M⟩)))
 intro h127 a H
 try have aCy:=dF h127
 have f2:¬ sI x.text=false:=by simpa using h127
 refine dz (fun _ dh=>?_);refine Eu (ι:=Bool) (Tc:=[(1,_),(3,_)]) 13 (fun (q6:Bool)=>[(145,.bool q6)]) (fun (q6:Bool)=>q6=(decide (x.kind=1∨x.kind=5) && vT x.text)) (by exact H.sub ⟨M,M,aB⟩) ?_ ?_
 ·intro agc;refine kH H (bQ lM aF 0 M M (Rc M (Rm M (Sp 136 M ?_ ?_)))) <;> clear H
  ·intro DF a H
   try have axw:=dT DF
   refine kH H (aP DF M (Pt DF M (Rm M ?_)));clear H;intro a H;refine LK vY H (wg H M M M) M M ?_;clear H;intro a H;refine rG iP H (wg H M M M) M (H.hp.yu 0 M M) M ?_;clear H;intro a H;refine CV H (wg H M M M) M M M ?_;clear H;intro a H;refine kH H (Pt M M ?_);exact aco
  intro DF a H
  try have axw:=dF DF
  refine kH H (YF lM DF M (YO aF 0 DF M (YC DF M (Pf DF M (Rm M (Sp 141 M ?_ ?_)))))) <;> clear H
  ·intro DI a H
   try have axy:=dT DI
   refine kH H (YF vY DI M (YO iP 0 DI M ?_));clear H;intro a H;refine CV H (wg H M M DI) M M M ?_;clear H;intro a H;refine kH H (Pt DI M ?_);exact aco
  intro DI a H
  try have axy:=dF DI
  refine kH H (aP DI M (Pf DI M ?_));clear H;intro a H;refine agc (_) _ _ ?_ (by exact H.sub ⟨M,M,M,aB⟩);exact abR
 clear H;intro q6 a w hI H;dsimp only [lca,bM] at H;simp only [xG,wI];have KP:=hI;refine kH H (aj dh M (Cd M ?_ ?_)) <;> clear H dh
 ·intro EZ a H
  refine bO (fun _ dZ=>?_)
  have e:lu x=11:=by unfold lu;rw [av f0,av f1,av f2,aD (by rw [<- KP];exact EZ)]
  exact kP H (SC (bD dZ M (LR results196 M fun H=>H.rt ⟨by rw [e],M⟩)))
 intro EZ a H
 try have aiE:=dF EZ
 have f3:¬ (decide (x.kind=1∨x.kind=5) && vT x.text)=true:=by rw [<- KP,EZ];decide
 refine dz (fun _ eu=>?_);refine Eu (ι:=Bool) (Tc:=[(1,_),(3,_)]) 9 (fun (q7:Bool)=>[(155,.bool q7)]) (fun (q7:Bool)=>q7=(decide (x.kind=5) && decide (1024 < (x.text.size:Int)))) (by exact H.sub ⟨M,M,aB⟩) ?_ ?_
 ·intro agd;refine kH H (bQ lM aF 0 M M (Rc M (Rm M (Sp 150 M ?_ ?_)))) <;> clear H
  ·intro AB a H
   try have axz:=dT AB
   refine kH H (YF vY AB M (YO iP 0 AB M ?_));clear H;intro a H;refine FM iY H (wg H M M AB) M M ?_;clear H;intro a H;refine kH H (YC AB M (Pt AB M ?_));clear H;intro a H;refine agd (_) _ _ ?_ (by exact H.sub ⟨M,M,M,aB⟩);exact GA
  intro AB a H
  try have axz:=dF AB
  refine kH H (aL AB M (aL AB M (Pf AB M ?_)));clear H;intro a H;refine agd (_) _ _ ?_ (by exact H.sub ⟨M,M,M,aB⟩);exact GD
 clear H;intro q7 a w hI H;dsimp only [lca,bM] at H;simp only [xG,wI];have KQ:=hI;refine kH H (aj eu M (Cd M ?_ ?_)) <;> clear H eu
 ·intro Q9 a H
  refine bO (fun _ dS=>?_)
  have e:lu x=10:=by unfold lu;rw [av f0,av f1,av f2,av f3,aD (by rw [<- KQ];exact Q9)]
  exact kP H (SC (bD dS M (LR results196 M fun H=>H.rt ⟨by rw [e],M⟩)))
 intro Q9 a H
 try have aCz:=dF Q9
 have f4:¬ (decide (x.kind=5) && decide (1024 < (x.text.size:Int)))=true:=by rw [<- KQ,Q9];decide
 refine dz (fun _ eY=>?_);refine Eu (ι:=Bool) (Tc:=[]) 7 (fun (q8:Bool)=>[(163,.bool q8)]) (fun (q8:Bool)=>q8=(Aa x && !xM x.text)) (by exact H.sub trivial) ?_ ?_
 ·intro agf;refine kH H (Rm M (Rm M (Sp 158 M ?_ ?_))) <;> clear H
  ·intro AJ a H
   try have axA:=dT AJ
   refine kH H (YF vY AJ M (YO iP 0 AJ M ?_));clear H;intro a H;refine s_call aeP H (wg H M M AJ) M (aeb _ _ H.ro x.text hs) M ?_;clear H;rintro aCH _ a w ⟨rfl,rfl⟩ - H;refine kH H (YN AJ M (Pt AJ M ?_));clear H;intro a H;refine agf (_) _ _ ?_ (by exact H.sub ⟨M,aB⟩);rw [<- hst];exact GA
  intro AJ a H
  try have axA:=dF AJ
  refine kH H (aL AJ M (aL AJ M (Pf AJ M ?_)));clear H;intro a H;refine agf (_) _ _ ?_ (by exact H.sub ⟨M,aB⟩);rw [<- hst];exact GD
 clear H;intro q8 a w hI H;dsimp only [lca,bM] at H;simp only [xG,wI];have hq8:=hI;refine kH H (aj eY M (Cd M ?_ ?_)) <;> clear H eY
 ·intro Xm a H
  refine bO (fun _ gU=>?_)
  have e:lu x=13:=by unfold lu;rw [av f0,av f1,av f2,av f3,av f4,aD (by rw [<- hq8];exact Xm)]
  exact kP H (SC (bD gU M (LR results196 M fun H=>H.rt ⟨by rw [e],M⟩)))
 intro Xm a H
 refine iE ?_;refine K7 _ _ ?_;clear K7;refine bO (fun _ fJ=>?_)
 have e:lu x=0:=by unfold lu;rw [av f0,av f1,av f2,av f3,av f4,av (by rw [<- hq8,Xm];decide)]
 exact kP H (SC (bD fJ M (LR results196 M fun H=>H.rt ⟨by rw [e],M⟩)))
structure CS where
 n:Int
 bR:List Int
abbrev CR:=Int × CS
def iR (r:CR) (f:CS->CR):CR:=if r.1≠0 then r else f r.2
theorem Jz {r:CR} {f:CS->CR} (h:r.1=0):iR r f=f r.2:=by rw [iR,av (fun h'=>h' h)]
theorem Qd {r:CR} {f:CS->CR} (h:r.1≠0):iR r f=r:=by rw [iR,aD h]
def oW (C:bE) (s:CS) (x:Int):CR:=(rD C.us s.bR x,⟨s.n,nW C.us s.bR x⟩)
def sF (C:bE) (body note:Bool) (t k i:Int) (s:CS):CR :=
 if k=3 then (dL (!body) 19,s) else if k=6 then iR (dL note 19,s) fun s=>oW C s i else if k=7 then iR (dL (decide (4<=t)) 17,s) fun s=>oW C s i else if k=8 then (dL (!decide (1<=i∧i<=1073741824)) 18,s) else (0,s)
def Ej (C:bE) (h:dN) (n:Nat):Int:=dO [iG C 9 h,dL (decide ((n:Int)=0)) 11,dL (decide (32 < (n:Int))) 9]
def nN (n:Nat) (f:CS->CR) (s:CS):CR:=if n=0 then (11,s) else if 256 < n then (9,s) else f s
mutual
def fO (C:bE) (body note:Bool) (t:Int):au->CS->CR
 | .mk k c i tx h f r,s =>
  iR (lu (.mk k c i tx h f r),s) fun s=>iR (sF C body note t k i ⟨s.n+(if k=1 then uS tx else 1:Nat),s.bR⟩) fun s=>iR (iG C k h,s) fun s =>
   if k=6 then jT C false true t f s else if k=7 then nN r.length (fun s=>jd C note (t+1) r s) s else (0,s)
def zX (C:bE) (note:Bool) (t:Int):aV->CS->CR
 | .mk h cs,s=>iR (Ej C h cs.length,s) fun s=>qR C note t cs s
def cellC (C:bE) (note:Bool) (t:Int):aX->CS->CR
 | .mk i h f,s=>iR (oW C s i) fun s=>iR (iG C 10 h,s) fun s=>jT C false note t f s
def jT (C:bE) (body note:Bool) (t:Int):List au->CS->CR
 | [],s=>(0,s)
 | x :: r,s=>iR (fO C body note t x s) fun s=>jT C body note t r s
def jd (C:bE) (note:Bool) (t:Int):List aV->CS->CR
 | [],s=>(0,s)
 | x :: r,s=>iR (zX C note t x s) fun s=>jd C note t r s
def qR (C:bE) (note:Bool) (t:Int):List aX->CS->CR
 | [],s=>(0,s)
 | x :: r,s=>iR (cellC C note t x s) fun s=>qR C note t r s
end
theorem ahD (C:bE) (body note:Bool) (t:Int) (x:au) (s:CS):fO C body note t x s=iR (lu x,s) fun s=>iR (sF C body note t x.kind x.id ⟨s.n+(kg x:Nat),s.bR⟩) fun s=>iR (iG C x.kind x.head,s) fun s =>
  if x.kind=6 then jT C false true t x.flow s else if x.kind=7 then nN x.rows.length (fun s=>jd C note (t+1) x.rows s) s else (0,s):=by cases x;rw [fO];rfl
theorem Tn (C:bE) (note:Bool) (t:Int) (x:aV) (s:CS):zX C note t x s=iR (Ej C x.head x.cells.length,s) fun s=>qR C note t x.cells s:=by cases x;rw [zX];rfl
theorem Qx (C:bE) (note:Bool) (t:Int) (x:aX) (s:CS):cellC C note t x s=iR (oW C s x.id) fun s=>iR (iG C 10 x.head,s) fun s=>jT C false note t x.flow s:=by cases x;rw [cellC];rfl
def Up (s:CS) (z:Nat) (r:CR):Prop:=s.n<=r.2.n∧r.2.n<=s.n+z
theorem Up.and {s:CS} {z y q:Nat} {r:CR} {f:CS->CR} (h:Up s z r) (hq:z+y<=q) (hf:∀ s,Up s y (f s)):Up s q (iR r f):=by
 obtain ⟨h1,h2⟩:=h
 unfold iR
 split
 ·exact ⟨h1,O⟩
 obtain ⟨h3,h4⟩:=hf r.2;exact ⟨O,O⟩
theorem Up.zero (s:CS) (e:Int) (q:Nat):Up s q (e,s):=⟨Int.le_refl _,by dsimp only;omega⟩
theorem Up.le {s:CS} {z y:Nat} {r:CR} (h:Up s z r) (hq:z<=y):Up s y r:=⟨h.1,by have:=h.2;omega⟩
theorem akh (C:bE) (s:CS) (x:Int) (q:Nat):Up s q (oW C s x):=⟨Int.le_refl _,by dsimp only [oW];omega⟩
theorem aAS (C:bE) (body note:Bool) (t k i:Int) (s:CS) (q:Nat):Up s q (sF C body note t k i s):=by
 unfold sF
 (repeat' split) <;> first|exact Up.zero _ _ _|exact (Up.zero _ _ 0).and (y:=0) O fun s=>akh _ _ _ _
mutual
theorem aki (C:bE) (body note:Bool) (t:Int):∀ (x:au) (s:CS),Up s (dD x.dat) (fO C body note t x s)
 | .mk k c i tx h f r,s=>by
  have hz:=Ag (.mk k c i tx h f r);have hf:=Ub C false true t f;have hr:=akj C note (t+1) r;rw [fO];obtain ⟨u,hu'⟩:∃ u,u=(if k=1 then uS tx else 1:Nat):=⟨_,M⟩
  have hu:u<=tx.size+1:=by
   have:=adW tx
   rw [hu'];split <;> omega
  rw [<- hu'];dsimp only [au.text,au.flow,au.rows,au.head] at hz;refine (Up.zero s _ 0).and (Nat.le_of_eq (gy _)) fun s=>?_
  have h2:Up s (u) (sF C body note t k i ⟨s.n+(u:Nat),s.bR⟩):=by
   obtain ⟨h3,h4⟩:=aAS C body note t k i ⟨s.n+(u:Nat),s.bR⟩ 0;dsimp only at h3 h4;exact ⟨O,O⟩
  refine h2.and (y:=dH f+iK r) O fun s=>(Up.zero s _ 0).and (Nat.le_of_eq (gy _)) fun s=>?_
  by_cases h6:k=6
  ·rw [aD h6];exact (hf s).le O
  rw [av h6]
  by_cases h7:k=7
  ·rw [aD h7]
   unfold nN
   by_cases c1:r.length=0
   ·rw [aD c1];exact Up.zero _ _ _
   rw [av c1]
   by_cases c2:256 < r.length
   ·rw [aD c2];exact Up.zero _ _ _
   rw [av c2];exact (hr s).le O
  rw [av h7];exact Up.zero _ _ _
theorem aAT (C:bE) (note:Bool) (t:Int):∀ (x:aV) (s:CS),Up s (dD x.dat) (zX C note t x s)
 | .mk h cs,s=>by
  have hz:=Ew (.mk h cs);have hc:=akg C note t cs;rw [Tn];dsimp only [aV.cells,aV.head] at hz |-;exact (Up.zero s _ 0).and (y:=ji cs) O fun s=>hc s
theorem aAR (C:bE) (note:Bool) (t:Int):∀ (x:aX) (s:CS),Up s (dD x.dat) (cellC C note t x s)
 | .mk i h f,s=>by
  have hz:=Ev (.mk i h f);have hf:=Ub C false note t f;rw [Qx];dsimp only [aX.flow,aX.head,aX.id] at hz |-;exact (akh C s _ 0).and (y:=dH f) O fun s=>(Up.zero s _ 0).and (Nat.le_of_eq (gy _)) fun s=>hf s
theorem Ub (C:bE) (body note:Bool) (t:Int):∀ (l:List au) (s:CS),Up s (dH l) (jT C body note t l s)
 | [],s=>by rw [jT];exact Up.zero _ _ _
 | x :: r,s=>by
  rw [jT];exact (aki C body note t x s).and (y:=dH r) (by simp only [dH,fD,fu];omega) fun s=>Ub C body note t r s
theorem akj (C:bE) (note:Bool) (t:Int):∀ (l:List aV) (s:CS),Up s (iK l) (jd C note t l s)
 | [],s=>by rw [jd];exact Up.zero _ _ _
 | x :: r,s=>by
  rw [jd];exact (aAT C note t x s).and (y:=iK r) (by simp only [iK,fD,fu];omega) fun s=>akj C note t r s
theorem akg (C:bE) (note:Bool) (t:Int):∀ (l:List aX) (s:CS),Up s (ji l) (qR C note t l s)
 | [],s=>by rw [qR];exact Up.zero _ _ _
 | x :: r,s=>by
  rw [qR];exact (aAR C note t x s).and (y:=ji r) (by simp only [ji,fD,fu];omega) fun s=>akg C note t r s
end
def sG {α:Type} (f:α->CS->CR) (l:List α) (s:CS):Nat->CS
 | 0=>s
 | i+1=>match l[i]? with|some x=>(f x (sG f l s i)).2|none=>sG f l s i
def Dz {α:Type} (f:α->CS->CR) (l:List α) (s:CS) (i:Nat):Int:=match l[i]? with|some x=>(f x (sG f l s i)).1|none=>0
theorem Z4 {α:Type} (f:α->CS->CR) (x:α) (l:List α) (s:CS):∀ i,sG f (x :: l) s (i+1)=sG f l (f x s).2 i
 | 0=>rfl
 | i+1=>by
  have ih:=Z4 f x l s i
  simp only [sG,List.getElem?_cons_succ] at ih |-
  rw [ih]
theorem arv {α:Type} (f:α->CS->CR) (x:α) (l:List α) (s:CS) (i:Nat):Dz f (x :: l) s (i+1)=Dz f l (f x s).2 i:=by
 unfold Dz
 simp only [List.getElem?_cons_succ,Z4]
theorem alo (E:Nat->Int) (n:Nat):iX E (n+1)=if E 0≠0 then E 0 else iX (fun i=>E (i+1)) n:=by
 unfold iX
 rw [List.range_succ_eq_map,fD,dO,List.map_map]
 rfl
theorem ahE (C:bE) (body note:Bool) (t:Int):∀ (l:List au) (s:CS),(jT C body note t l s).1=iX (Dz (fO C body note t) l s) l.length∧((jT C body note t l s).1=0->(jT C body note t l s).2=sG (fO C body note t) l s l.length)
 | [],s=>by rw [jT];exact ⟨M,fun _=>rfl⟩
 | x :: r,s=>by
  obtain ⟨h1,h2⟩:=ahE C body note t r (fO C body note t x s).2;have e0:Dz (fO C body note t) (x :: r) s 0=(fO C body note t x s).1:=rfl;rw [jT,lW,alo,e0,Z4]
  simp only [arv]
  unfold iR
  split
  ·next h=>exact ⟨M,fun h0=>absurd h0 h⟩
  exact ⟨h1,h2⟩
theorem akk (C:bE) (body note:Bool) (t:Int) (l:List au) (s:CS):∀ i,i<=l.length->s.n<=(sG (fO C body note t) l s i).n∧(sG (fO C body note t) l s i).n+(dH (l.drop i):Nat)<=s.n+(dH l:Nat)
 | 0,_=>⟨Int.le_refl _,Int.le_refl _⟩
 | i+1,hi=>by
  have hi':i < l.length:=hi;obtain ⟨h1,h2⟩:=akk C body note t l s i O
  have hs:sG (fO C body note t) l s (i+1)=(fO C body note t l[i] (sG (fO C body note t) l s i)).2:=by rw [sG,eB hi']
  have hd:dH (l.drop i)=1+dD l[i].dat+dH (l.drop (i+1)):=by
   simp only [dH];rw [rR hi',fD,fu]
  obtain ⟨h3,h4⟩:=aki C body note t l[i] (sG (fO C body note t) l s i);rw [hs];exact ⟨O,O⟩
mutual
/-- The ids in items, in document order. -/
def rC:au->List Int
 | .mk k _ i _ _ f r=>(if k=6∨k=7 then [i] else [])++((if k=6 then jD f else [])++(if k=7 then nV r else []))
def jD:List au->List Int
 | []=>[]
 | x :: r=>rC x++jD r
def wu:aV->List Int
 | .mk _ c=>oV c
def nV:List aV->List Int
 | []=>[]
 | x :: r=>wu x++nV r
def wT:aX->List Int
 | .mk i _ f=>i :: jD f
def oV:List aX->List Int
 | []=>[]
 | x :: r=>wT x++oV r
end
theorem nT {r:CR} {f:CS->CR} {s':CS} (h:iR r f=(0,s')):r.1=0∧f r.2=(0,s'):=by
 unfold iR at h
 split at h
 ·rename_i h1;rw [h] at h1;exact absurd M h1
 rename_i h1;exact ⟨oN.1 h1,h⟩
theorem V9 {r:CR} (h:r.1=0):r=(0,r.2):=Prod.ext h M
structure nQ (a b c:List Int):Prop where
 eq:c=a++b
 nd:a.Nodup->c.Nodup
 pos:∀ i∈b,1<=i∧i<=1073741824
theorem nQ.nil (a:List Int):nQ a [] a:=⟨by simp,fun h=>h,fun i h=>by cases h⟩
theorem nQ.trans {a b c d e:List Int} (h:nQ a b c) (g:nQ c d e):nQ a (b++d) e:=⟨by rw [g.eq,h.eq,jv],fun h1=>g.nd (h.nd h1),fun i hi=>(jQ.1 hi).elim (h.pos i) (g.pos i)⟩
theorem nQ.id {us a:List Int} {x:Int} (h:rD us a x=0):nQ a [x] (nW us a x):=by
 unfold nW
 rw [aD h]
 unfold rD at h
 by_cases h0:¬ (1<=x∧x<=1073741824)∨x∈us
 ·rw [aD h0] at h;cases h
 rw [av h0] at h;have h1:1<=x∧x<=1073741824:=oN.1 fun h'=>h0 (.inl h')
 by_cases h2:x∈a
 ·rw [aD h2] at h;cases h
 exact ⟨M,fun h3=>List.nodup_append.2 ⟨h3,by simp,fun u hu v hv=>by rw [oC.1 hv];exact fun e=>h2 (e ▸ hu)⟩,fun i hi=>by rw [oC.1 hi];exact h1⟩
theorem nQ.oW {C:bE} {s s':CS} {x:Int} (h:oW C s x=(0,s')):nQ s.bR [x] s'.bR:=by
 unfold Go.Proofs.YtdiflmikikiedaaGreat.oW at h
 injection h with h1 h2
 rw [<- h2];exact nQ.id h1
theorem axF {C:bE} {body note:Bool} {t k i:Int} {s s':CS} (h:sF C body note t k i s=(0,s')):nQ s.bR (if k=6∨k=7 then [i] else []) s'.bR:=by
 unfold sF at h
 by_cases h3:k=3
 ·rw [aD h3] at h;injection h with _ h2;rw [dK,<- h2];exact nQ.nil _
 rw [av h3] at h
 by_cases h6:k=6
 ·rw [aD h6] at h;rw [aD (.inl h6)];exact nQ.oW (nT h).2
 rw [av h6] at h
 by_cases h7:k=7
 ·rw [aD h7] at h;rw [aD (.inr h7)];exact nQ.oW (nT h).2
 rw [av h7] at h;rw [dK]
 by_cases h8:k=8
 ·rw [aD h8] at h;injection h with _ h2;rw [<- h2];exact nQ.nil _
 rw [av h8] at h;injection h with _ h2;rw [<- h2];exact nQ.nil _
theorem Zx {n:Nat} {f:CS->CR} {s s':CS} (h:nN n f s=(0,s')):n≠0∧f s=(0,s'):=by
 unfold nN at h
 split at h
 ·cases h
 rename_i h1
 split at h
 ·cases h
 exact ⟨h1,h⟩
theorem abP {p:Prop} (h:p:=by
 rw [aD h6] at e |-;rw [av (show ¬ k=7 by omega),ig];exact hf _ _ e):p:=h
mutual
theorem arA (C:bE) (body note:Bool) (t:Int):∀ (x:au) (s s':CS),fO C body note t x s=(0,s')->nQ s.bR (rC x) s'.bR
 | .mk k c i tx h f r,s,s',e=>by
  have hf:=QU C false true t f;have hr:=afm C note (t+1) r;rw [fO] at e;obtain ⟨-,e⟩:=nT e;obtain ⟨e1,e⟩:=nT e;obtain ⟨-,e⟩:=nT e;have h1:=axF (V9 e1);rw [rC];refine h1.trans ?_
  by_cases h6:k=6
  ·exact abP
  rw [av h6] at e |-;rw [mO]
  by_cases h7:k=7
  ·rw [aD h7] at e |-;exact hr _ _ (Zx e).2
  rw [av h7] at e |-
  injection e with _ e
  rw [<- e];exact nQ.nil _
theorem arB (C:bE) (note:Bool) (t:Int):∀ (x:aV) (s s':CS),zX C note t x s=(0,s')->nQ s.bR (wu x) s'.bR
 | .mk h cs,s,s',e=>by
  have hc:=afl C note t cs;rw [Tn] at e;rw [wu];exact hc _ _ (nT e).2
theorem arz (C:bE) (note:Bool) (t:Int):∀ (x:aX) (s s':CS),cellC C note t x s=(0,s')->nQ s.bR (wT x) s'.bR
 | .mk i h f,s,s',e=>by
  have hf:=QU C false note t f;rw [Qx] at e;dsimp only [aX.id,aX.head,aX.flow] at e;obtain ⟨e1,e⟩:=nT e;have h1:=nQ.oW (s':=(oW C s i).2) (Prod.ext e1 M);rw [wT];exact h1.trans (hf _ _ (nT e).2)
theorem QU (C:bE) (body note:Bool) (t:Int):∀ (l:List au) (s s':CS),jT C body note t l s=(0,s')->nQ s.bR (jD l) s'.bR
 | [],s,s',e=>by rw [jT] at e;injection e with _ e;rw [<- e];exact nQ.nil _
 | x :: r,s,s',e=>by
  rw [jT] at e;obtain ⟨e1,e⟩:=nT e;rw [jD];exact (arA C body note t x s _ (Prod.ext e1 M)).trans (QU C body note t r _ _ e)
theorem afm (C:bE) (note:Bool) (t:Int):∀ (l:List aV) (s s':CS),jd C note t l s=(0,s')->nQ s.bR (nV l) s'.bR
 | [],s,s',e=>by rw [jd] at e;injection e with _ e;rw [<- e];exact nQ.nil _
 | x :: r,s,s',e=>by
  rw [jd] at e;obtain ⟨e1,e⟩:=nT e;rw [nV];exact (arB C note t x s _ (Prod.ext e1 M)).trans (afm C note t r _ _ e)
theorem afl (C:bE) (note:Bool) (t:Int):∀ (l:List aX) (s s':CS),qR C note t l s=(0,s')->nQ s.bR (oV l) s'.bR
 | [],s,s',e=>by rw [qR] at e;injection e with _ e;rw [<- e];exact nQ.nil _
 | x :: r,s,s',e=>by
  rw [qR] at e;obtain ⟨e1,e⟩:=nT e;rw [oV];exact (arz C note t x s _ (Prod.ext e1 M)).trans (afl C note t r _ _ e)
end
def sO (l:List au):Prop:=∃ (C:bE) (body note:Bool) (t:Int) (s s':CS),jT C body note t l s=(0,s')
structure Jo (x:au):Prop where
 txt:sI x.text=true
 kd:1<=x.kind∧x.kind<=8
 rw0:x.kind≠7->x.rows=[]
 fl0:x.kind≠6->x.flow=[]
 fl:sO x.flow
 rw:∀ r∈x.rows,∀ c∈r.cells,sO c.flow
theorem axd:sO []:=⟨⟨[],[],[],[]⟩,false,false,0,⟨0,[]⟩,⟨0,[]⟩,by rw [jT]⟩
theorem He {x:au} (h:lu x=0):sI x.text=true∧(1<=x.kind∧x.kind<=8)∧(x.kind≠7->x.rows=[])∧(x.kind≠6->x.flow=[]):=by
 unfold lu at h
 split at h
 ·cases h
 rename_i h1
 split at h
 ·cases h
 rename_i h2
 split at h
 ·cases h
 rename_i h3
 have hk:decide (1<=x.kind∧x.kind<=8)=true:=by
  cases hd:decide (1<=x.kind∧x.kind<=8)
  ·rw [hd] at h1;exact absurd M h1
  rfl
 refine ⟨by simpa using h3,pQ hk,fun h7=>?_,fun h6=>?_⟩
 ·rw [Bool.not_eq_true] at h2
  unfold wP at h2
  simp only [Bool.or_eq_false_iff] at h2
  have h4:=h2.2;rw [mP h7,MF,vO] at h4;exact List.length_eq_zero_iff.1 O
 rw [Bool.not_eq_true] at h2
 unfold wP at h2
 simp only [Bool.or_eq_false_iff] at h2
 have h4:=h2.1.2;rw [mP h6,MF,vO] at h4;exact List.length_eq_zero_iff.1 O
theorem cells_ok {C:bE} {note:Bool} {t:Int}:∀ {l:List aX} {s s':CS},qR C note t l s=(0,s')->∀ c∈l,sO c.flow
 | [],_,_,_,_,h=>by cases h
 | x :: r,s,s',e,c,h=>by
  rw [qR] at e;obtain ⟨e1,e⟩:=nT e
  rcases gK.1 h with rfl|h
  ·have e2:cellC C note t c s=(0,(cellC C note t c s).2):=Prod.ext e1 M
   generalize (cellC C note t c s).2=s2 at e2
   rw [Qx] at e2;exact ⟨C,false,note,t,_,_,(nT (nT e2).2).2⟩
  exact cells_ok e c h
theorem aiZ {C:bE} {note:Bool} {t:Int}:∀ {l:List aV} {s s':CS},jd C note t l s=(0,s')->∀ r∈l,∀ c∈r.cells,sO c.flow
 | [],_,_,_,_,h=>by cases h
 | x :: r,s,s',e,q,h=>by
  rw [jd] at e;obtain ⟨e1,e⟩:=nT e
  rcases gK.1 h with rfl|h
  ·have e2:zX C note t q s=(0,(zX C note t q s).2):=Prod.ext e1 M
   generalize (zX C note t q s).2=s2 at e2
   rw [Tn] at e2;exact cells_ok (nT e2).2
  exact aiZ e q h
theorem sO.head {x:au} {l:List au} (h:sO (x :: l)):Jo x∧sO l:=by
 obtain ⟨C,body,note,t,s,s',e⟩:=h;rw [jT] at e;obtain ⟨e1,e⟩:=nT e;have e2:fO C body note t x s=(0,(fO C body note t x s).2):=Prod.ext e1 M
 generalize (fO C body note t x s).2=s2 at e2
 refine ⟨?_,⟨C,body,note,t,_,_,e⟩⟩;rw [ahD] at e2;obtain ⟨f1,e2⟩:=nT e2;(iterate 2 obtain ⟨-,e2⟩:=nT e2);obtain ⟨h1,h2,h3,h4⟩:=He f1;refine ⟨h1,h2,h3,h4,?_,?_⟩
 ·by_cases h6:x.kind=6
  ·rw [aD h6] at e2;exact ⟨_,_,_,_,_,_,e2⟩
  rw [h4 h6];exact axd
 by_cases h7:x.kind=7
 ·rw [dK,aD h7] at e2;exact aiZ (Zx e2).2
 rw [h3 h7];exact fun _ h=>by cases h
theorem sO.tail {x:au} {l:List au} (h:sO (x :: l)):sO l:=h.head.2
theorem sO.mem:∀ {l:List au} {x:au},sO l->x∈l->Jo x
 | y :: l,x,h,hx=>by
  rcases gK.1 hx with rfl|hx
  ·exact h.head.1
  exact sO.mem h.head.2 hx
theorem Jo.e {x:au} (h:Jo x):Pg x=0:=by unfold Pg Me;rw [aD h.txt];split <;> rfl
theorem Jo.n1 {x:au} (h:Jo x):n1 x=kg x:=by unfold Go.Proofs.YtdiflmikikiedaaGreat.n1;rw [aD h.e]
theorem sO.div {l:List au} (h:sO l):QL l=true:=by
 unfold QL
 rw [jE];exact fun x hx=>mP (h.mem hx).e
theorem sO.len {l:List au} (h:sO l):FB l=I4 l:=by unfold FB;rw [aD h.div]
mutual
theorem aBb (note:Bool) (t:Int):∀ x:au,((Po note t x).map qN.id).Sublist (rC x)
 | .mk k c i tx h f r=>by
  have hf:=Ug true t f;have hr:=aku note t r;rw [Po,rC]
  by_cases h6:k=6
  ·rw [aD h6,aD (.inl h6),aD h6,dK,ig];exact List.Sublist.cons_cons _ hf
  rw [av h6,av h6,mO]
  by_cases h7:k=7
  ·rw [aD h7,aD h7,aD (.inr h7)];exact List.Sublist.cons _ hr
  rw [av h7];exact List.nil_sublist _
theorem Ug (note:Bool) (t:Int):∀ l:List au,((Da note t l).map qN.id).Sublist (jD l)
 | []=>by rw [Da];exact List.nil_sublist _
 | x :: l=>by
  rw [Da,jD,kR];exact (aBb note t x).append (Ug note t l)
theorem aBd (note:Bool) (t:Int):∀ x:aV,((Pp note t x).map qN.id).Sublist (wu x)
 | .mk h cs=>by rw [Pp,wu];exact akt note t cs
theorem aku (note:Bool) (t:Int):∀ l:List aV,((FT note t l).map qN.id).Sublist (nV l)
 | []=>by rw [FT];exact List.nil_sublist _
 | x :: l=>by
  rw [FT,nV,kR];exact (aBd note t x).append (aku note t l)
theorem aBa (note:Bool) (t:Int):∀ x:aX,((Pm note t x).map qN.id).Sublist (wT x)
 | .mk i h f=>by rw [Pm,wT];exact List.Sublist.cons_cons _ (Ug note (t+1) f)
theorem akt (note:Bool) (t:Int):∀ l:List aX,((FR note t l).map qN.id).Sublist (oV l)
 | []=>by rw [FR];exact List.nil_sublist _
 | x :: l=>by
  rw [FR,oV,kR];exact (aBa note t x).append (akt note t l)
end
structure P7 (l:List au):Prop where
 ok:sO l
 nd:(jD l).Nodup
 pos:∀ i∈jD l,1<=i∧i<=1073741824
theorem P7.of {C:bE} {body note:Bool} {t n:Int} {l:List au} {s':CS} (h:jT C body note t l ⟨n,[]⟩=(0,s')):P7 l:=by
 have he:=QU C body note t l _ _ h;have hn:=he.nd List.nodup_nil;rw [he.eq] at hn;exact ⟨⟨C,body,note,t,_,_,h⟩,by simpa using hn,he.pos⟩
theorem P7.ids {l:List au} (h:P7 l):((Ki l).map qN.id).Nodup:=by
 have hs:=Ug false 0 l;rw [Ki,fD,List.nodup_cons];exact ⟨fun hm=>by have:=h.pos _ (hs.subset hm);dsimp only at this;omega,hs.nodup h.nd⟩
section
theorem QT:aS 70:=aT func70 M
theorem Wx:aS 198:=aT func198 M
theorem Np:aS 72:=aT func72 M
variable {us:List Int}
theorem RA (G:GH) (L:OL) (w0:World) (st:List bY) (li:List fC) (rv:List bV) (b ms ml mr mb mu:Nat) (n:Int) (hck:xw us G st li rv ms ml mr mu) (hO:gJ G (gY b ms ml mr mb mu n :: L) w0)
  (e:Int) (h:dN) (p d l:ah) (hh:jr G h p d l) (hz:mX h<=4294967296) :
  Calls prog 70 #[(aK b 0),vi e,sj h p d l] w0 (fV w0 G (gY b ms ml mr mb mu n :: L) fun v G' L'=>G=G'∧L'=gY b ms ml mr mb mu n :: L∧v=vi (iG (bL us st li rv) e h)):=by
 have hm:=GH.Ju G (o:=(gY b ms ml mr mb mu n).2) (hO.sep _ dX);exact (atX (G.add b (gY b ms ml mr mb mu n).2) w0 hO.add st li rv b ms ml mr mb mu n (hck.mono hm) (GH.Jv _ _ _) e h p d l (hh.mono hm) hz).mono fun _ _=>aym (b:=b) (o:=(gY b ms ml mr mb mu n).2) (R':=fun v=>v=vi (iG (bL us st li rv) e h)) hO fun _ _ h=>h
abbrev PK (b ms ml mr mb mu:Nat) (L:OL) (r:CR):ah->OL->Prop:=fun u L'=>∃ s:CS,u=vi r.1∧L'=gY b ms ml mr mb mu s.n :: (mb,fG (gq s.bR)) :: L∧(r.1=0->s=r.2)
def Jk (us:List Int) (m:Nat):Prop:=∀ (G:GH) (L:OL) (w0:World) (st:List bY) (li:List fC) (rv:List bV) (b ms ml mr mb mu:Nat) (s:CS) (l:List au) (v:ah) (body note:Bool) (t:Int),
 xw us G st li rv ms ml mr mu->gJ G (gY b ms ml mr mb mu s.n :: (mb,fG (gq s.bR)) :: L) w0->ak G (.sl 11 (l.map au.dat)) v->dH l < m->0<=t->t<=4->0<=s.n->s.n+(dH l:Nat)<=1099511627776 ->
 Calls prog 72 #[(aK b 0),v,.agg #[.bool body,.bool note,vi t]] w0 (fV w0 G (gY b ms ml mr mb mu s.n :: (mb,fG (gq s.bR)) :: L) fun u G' L'=>G=G'∧PK b ms ml mr mb mu L (jT (bL us st li rv) body note t l s) u L')
theorem rows_ok {m:Nat} (ih:Jk us m) (hm:m<=4294967296) (Gt:GH) (L:OL) (w0:World) (st:List bY) (li:List fC) (rv:List bV) (b ms ml mr mb mu:Nat) (s:CS) (l:List aV) (v:ah) (note:Bool) (t:Int)
  (hck:xw us Gt st li rv ms ml mr mu) (hO:gJ Gt (gY b ms ml mr mb mu s.n :: (mb,fG (gq s.bR)) :: L) w0) (hv:ak Gt (.sl 6 (l.map aV.dat)) v) (hz:iK l < m) (ht0:0<=t) (Bg:t<=4) (hs0:0<=s.n) (hs1:s.n+(iK l:Nat)<=1099511627776) :
  Calls prog 199 #[(aK b 0),v,.agg #[.bool false,.bool note,vi t]] w0 (fV w0 Gt (gY b ms ml mr mb mu s.n :: (mb,fG (gq s.bR)) :: L) fun u G' L'=>PK b ms ml mr mb mu L (nN l.length (fun s=>jd (bL us st li rv) note t l s) s) u L'):=by
 obtain ⟨A,c,rfl,hc1,hc2,hg⟩:=hv.slice;rw [bS] at *;have hll:=Pz l;refine jA (N:=77) (T:=[(0,_),(1,_),(2,_)]) func199 M ntmps199 M M hO ?_;intro a H;refine dz (fun _ K1=>?_);refine dR (cs:=[_,_,_]) H wn M M M ?_;clear H;intro b5 a w hb5 H;refine kH H (aj K1 M (SQ fun _ K2=>SR fun _ K3=>Rm M (Rl nO M (Rc M (Kz K3 (Cd M ?_ ?_)))))) <;> clear H K1 K3
 ·intro cu a H
  try have lI:=dT cu
  refine bO (fun _ K4=>?_);have hE:nN l.length (fun s=>jd (bL us st li rv) note t l s) s=(11,s):=nk;exact kP H (SC (bD K4 M (LR results199 M fun H=>H.hp.mW (L':=gY b ms ml mr mb mu s.n :: (mb,fG (gq s.bR)) :: L) (by repeat (first|exact lX _|apply List.Sublist.cons)) ⟨s,by rw [hE],M,fun h=>by rw [hE]⟩)))
 intro cu a H
 try have lI:=dF cu
 refine kP H (Kc K2 (SQ fun _ K5=>SR fun _ K6=>Rm M (Rl nO M (Rc M (Kz K6 (Cd M ?_ ?_)))))) <;> clear H K2 K6
 ·intro h20 a H
  try have IK:=dT h20
  refine bO (fun _ K7=>?_)
  have hE:nN l.length (fun s=>jd (bL us st li rv) note t l s) s=(9,s):=by rw [nN,dK,nk]
  exact kP H (SC (bD K7 M (LR results199 M fun H=>H.hp.mW (L':=gY b ms ml mr mb mu s.n :: (mb,fG (gq s.bR)) :: L) (by repeat (first|exact lX _|apply List.Sublist.cons)) ⟨s,by rw [hE],M,fun h=>by rw [hE]⟩)))
 intro h20 a H
 try have IK:=dF h20
 refine kP H (Kc K5 (SQ fun _ K8=>SQ fun _ K9=>?_));clear H K5;intro a H
 have hE:nN l.length (fun s=>jd (bL us st li rv) note t l s) s=jd (bL us st li rv) note t l s:=by rw [nN,dK,dK]
 refine kP H (SC (Rm M (Rl nO M (Rm M (Kn K9 (SB ?_))))));clear H K9;intro a H;skip;refine eX (ι:=Nat × CS × GH) (Tc:=[(0,_),(5,_),(21,_),(22,_)]) (Lc:=[(_,_)]) (fun gh=>[(23,vi gh.1)]) (fun gh=>[gY b ms ml mr mb mu gh.2.1.n,(mb,fG (gq gh.2.1.bR))]++L) (fun gh=>gh.2.2) (fun gh=>gh.1<=l.length∧(∀ b o,Gt b=some o->gh.2.2 b=some o)∧jd (bL us st li rv) note t l s=jd (bL us st li rv) note t (l.drop gh.1) gh.2.1∧0<=gh.2.1.n∧gh.2.1.n+(iK (l.drop gh.1):Nat)<=1099511627776) (fun gh=>l.length - gh.1) ((0,s,Gt)) (by exact H.sub ⟨M,M,M,M,M,aB⟩) ?_ ?_
 ·exact ⟨lg _,fun _ _ h=>h,M,hs0,hs1⟩
 clear H;rintro ⟨k,s1,g⟩ a w hI H;dsimp only at hI H;obtain ⟨hk,hgm,hR,hn0,hn1⟩:=hI;dsimp only [lca,bM] at H;refine kP H (SR fun _ aR=>Rc M (Kz aR (SQ fun _ bq=>Cd M ?_ ?_))) <;> clear H aR
 ·intro cK a H
  try have kV:=dT cK
  have hk2:k < l.length:=by omega
  have hsz:=Uj hk2;have hcs:=Px l[k].cells
  have hdz:iK (l.drop k)=1+dD l[k].dat+iK (l.drop (k+1)):=by simp only [iK];rw [rR hk2,fD,fu]
  have hrz:=Ew l[k];obtain ⟨xb,xo,qA,qn,qc,eA,en,ec,zA,zn,zc,cA,cn,cc,rfl,hrow,Im,hcl⟩:=Tq hk2 hg;replace hrow:=fun j u hj=>aC hgm (hrow j u hj);replace Im:=Im.mono hgm;replace hcl:=hcl.mono hgm;have hcn:=hcl.len;rw [bS] at hcn;subst hcn;have atH:=hck.mono hgm;rw [rR hk2,jd,Tn] at hR;refine kP H (Kc bq (SQ fun _ bP=>SB (SR fun _ bU=>Ri nO jK M M ?_)));clear H bq;intro a H;refine aU jK (cs:=[_,_,_,_,_,_]) H wn M M (fun j v hj=>H.hp.aH (hrow j v hj)) M ?_;clear H;intro a H;refine dJ jK H wn M ?_;clear H;intro b8 a w DU H;refine bC jK 0 (vs:=[_,_,_,_,_,_]) H wn M ?_;clear H;intro w H;refine bU _ _ ?_;clear bU;refine bO (fun _ dh=>?_);refine bO (fun _ dZ=>?_);refine dI hmx [[],[],[1],[0,1,2],[],[4],[4,5],[4,5,6],ra 0 8,[],[9],[9,10],[9,10,11],ra 0 13,ra 0 14,ra 0 15,ra 0 16] [14,15,16] V [_,_,sj l[k].head (.slice qA qn qc) (.slice eA en ec) (.slice zA zn zc),vi (iG (bL us st li rv) 9 l[k].head),_,.slice cA l[k].cells.length cc,_,_,vi (dL (decide ((l[k].cells.length:Int)=0)) 11),_,.slice cA l[k].cells.length cc,_,_,vi (dL (decide (32 < (l[k].cells.length:Int))) 9)] H (ay (Z0 M (Rm M)) (Z0 M (Rf Ka M)) ?_ ?_ (ay (Z0 M (Rf zM M)) (Z1 4 31 M (Ro Ad 0 M)) (Z1 5 32 M (Rl qh M)) (Z1 6 33 M (Rc M)) (ay ?_ (Z0 M (Rf zM M)) (Z1 9 36 M (Ro Ad 0 M)) (Z1 10 37 M (Rl qh M)) (ay (Z1 11 38 M (Rc M)) ?_ (bT M) (bT M) (bN (bT M) dB))))) ?_
  ·refine gN 1 28 M M fun _ a w G1 hG HT H fin=>?_;refine aU fB (cs:=[_,_,_,_,_]) H wn M M (H.hp.cB 0 M M) M ?_;exact jG
  ·refine eT 0 27 2 29 M M fun _ a w G1 hG HT H fin=>?_;refine gM QT (Li:=[_,_]) (L:=gY b ms ml mr mb mu s1.n :: (mb,fG (gq s1.bR)) :: L) H wn M (RA _ _ _ st li rv b ms ml mr mb mu _ (atH.mono hG) (Hp.owns (Li:=[_,_]) H.hp) 9 l[k].head _ _ _ (Im.mono hG) O) M ?_;clear H;rintro v30 _ _ a w ⟨rfl,rfl,rfl⟩ Xw H;dsimp only [lca,bM] at H;exact fin H Xw (rfl)
  ·refine gN 7 34 M M fun _ a w G1 hG HT H fin=>?_;refine s_call ng H wn M (nE _ _ H.ro _ 11) M ?_;clear H;rintro v35 Uu a w ⟨rfl,-⟩ Xx H;exact fin H Xx (rfl)
  ·refine gN 12 39 M M fun _ a w G1 hG HT H fin=>?_;refine s_call ng H wn M (nE _ _ H.ro _ 9) M ?_;clear H;rintro v40 Ml a w ⟨rfl,-⟩ asN H;exact fin H asN (rfl)
  clear H;intro a w G tC H hv;have H:=H.aN (hv 3 30 M M) M;have H:=H.aN (hv 8 35 M M) M;have H:=H.aN (hv 13 40 M M) M;clear hv;refine iC rM jo [_,_,_] [_,_,_] H wn M M M M M (by intro i q h;match i,h with|0,h=>exact h|1,h=>exact h|2,h=>exact h|n+3,h=>simp at h) M M ?_;clear H;intro b41 a w aBT H;obtain ⟨Jh,wS,atr,H⟩:=H.fF;have agx:∀ b o,Gt b=some o->Jh b=some o:=fun b o h=>wS _ _ (tC _ _ (hgm _ _ h));refine s_call sU H wn M (sW _ _ H.ro _ _ (Iu [iG (bL us st li rv) 9 l[k].head,dL (decide ((l[k].cells.length:Int)=0)) 11,dL (decide (32 < (l[k].cells.length:Int))) 9] atr (show 3<=maxLen by decide))) rfl ?_;clear H;rintro v42 _ a w ⟨rfl,rfl⟩ - H;refine kH H (Ra M ?_);clear H;intro a H;refine aG ⟨M,?_⟩;refine dZ _ _ ?_;clear dZ;refine kP H (SR fun _ eu=>Rm M (Rc M (Kz eu (Cd M ?_ ?_)))) <;> clear H eu
  ·intro DJ a H
   try have p44:=dT DJ
   have e44:Ej (bL us st li rv) l[k].head l[k].cells.length≠0:=p44
   have hF1:(nN l.length (fun s=>jd (bL us st li rv) note t l s) s).1=Ej (bL us st li rv) l[k].head l[k].cells.length:=by rw [hE,hR,Qd (r:=(Ej (bL us st li rv) l[k].head l[k].cells.length,s1)) e44,Qd e44]
   have hF2:(nN l.length (fun s=>jd (bL us st li rv) note t l s) s).1=0->s1=(nN l.length (fun s=>jd (bL us st li rv) note t l s) s).2:=fun h=>absurd (hF1.symm.trans h) e44;exact kP H (SR fun _ dS=>Rm M (aj dS M (LR results199 M fun H=>H.hp.mW (L':=gY b ms ml mr mb mu s1.n :: (mb,fG (gq s1.bR)) :: L) (by repeat (first|exact lX _|apply List.Sublist.cons)) ⟨s1,cZ vi hF1.symm,M,hF2⟩)))
  intro DJ a H
  try have p44:=dF DJ
  have e44:Ej (bL us st li rv) l[k].head l[k].cells.length=0:=oN.1 p44;rw [Jz (r:=(Ej (bL us st li rv) l[k].head l[k].cells.length,s1)) e44] at hR;dsimp only at hR;have atI:=hck.mono agx;replace hcl:=hcl.mono (fun b o h=>wS _ _ (tC b o h));refine kP H (Kc dh (SR fun _ eY=>bQ zM Ad 0 M M (Rl qh M (Rm M (Kz eY (SB ?_))))));clear H dh eY;intro a H;skip;refine eX (ι:=Nat × CS × GH) (Tc:=[(0,_),(5,_),(21,_),(22,_),(23,_),(47,_),(48,_)]) (Lc:=[(_,_),(_,_)]) (fun gh=>[(49,vi gh.1)]) (fun gh=>[gY b ms ml mr mb mu gh.2.1.n,(mb,fG (gq gh.2.1.bR))]++L) (fun gh=>gh.2.2) (fun gh=>gh.1<=l[k].cells.length∧(∀ b o,Jh b=some o->gh.2.2 b=some o)∧jd (bL us st li rv) note t l s=iR (qR (bL us st li rv) note t (l[k].cells.drop gh.1) gh.2.1) (fun s=>jd (bL us st li rv) note t (l.drop (k+1)) s)∧0<=gh.2.1.n∧gh.2.1.n+(ji (l[k].cells.drop gh.1):Nat)+(iK (l.drop (k+1)):Nat)<=1099511627776) (fun gh=>l[k].cells.length - gh.1) ((0,s1,Jh)) (by exact H.sub ⟨M,M,M,M,M,M,M,M,aB⟩) ?_ ?_
  ·exact ⟨lg _,fun _ _ h=>h,hR,hn0,by dsimp only;rw [wI];omega⟩
  clear H;rintro ⟨c,s2,g2⟩ a w hI H;dsimp only at hI H;obtain ⟨hc,RB,hR2,hm0,hm1⟩:=hI;have lQ:=fun b o h=>RB b o (agx b o h);dsimp only [lca,bM] at H;refine kP H (SR fun _ gU=>Rc M (Kz gU (SQ fun _ fJ=>Cd M ?_ ?_))) <;> clear H gU
  ·intro h50 a H
   try have p50:=dT h50
   have hk4:c < l[k].cells.length:=by omega
   have avd:=Ui hk4
   have atQ:ji (l[k].cells.drop c)=1+dD l[k].cells[c].dat+ji (l[k].cells.drop (c+1)):=by simp only [ji];rw [rR hk4,fD,fu]
   have hcz:=Ev l[k].cells[c];obtain ⟨b3',o3,sA,sn,sc,tA,tn,tc,uA,un,uc,gA,gn,gc,rfl,hrow,hch,hcf⟩:=Qy hk4 (hcl.mono RB).at_;have XM:=atI.mono RB;rw [rR hk4,qR,Qx] at hR2;obtain ⟨y,hy⟩:∃ y,y=l[k].cells[c]:=⟨_,M⟩;rw [<- hy] at hR2 hrow hch hcf hcz avd atQ;refine kP H (Kc fJ (SQ fun _ iD=>SB (SR fun _ jL=>Ri qh kE M M ?_)));clear H fJ;intro a H;refine aU kE (cs:=[_,_,_,_,_,_,_]) H wn M M (fun j v hj=>H.hp.aH (hrow j v hj)) M ?_;clear H;intro a H;refine dJ kE H wn M ?_;clear H;intro b11 a w Kt H;refine bC kE 0 (vs:=[_,_,_,_,_,_,_]) H wn M ?_;clear H;intro w H;refine jL _ _ ?_;clear jL;refine kP H (SQ fun _ mM=>SR fun _ mH=>Rm M (bQ NA aF 0 M M ?_));clear H;intro a H;refine gM Wx (Li:=[_,_,_]) (L:=gY b ms ml mr mb mu s2.n :: (mb,fG (gq s2.bR)) :: L) H wn M (V3 _ _ _ st li rv b ms ml mr mb mu _ s2.bR y.id XM (Hp.owns (Li:=[_,_,_]) H.hp)) M ?_;clear H;rintro v56 _ _ a w ⟨rfl,rfl,rfl⟩ - H;dsimp only [lca,bM] at H;refine kH H (aj mH M (SR fun _ kX=>Rm M (Rc M (Kz kX (Cd M ?_ ?_))))) <;> clear H mH kX
   ·intro mh a H
    try have p58:=dT mh
    have hF1:(nN l.length (fun s=>jd (bL us st li rv) note t l s) s).1=rD us s2.bR y.id:=by rw [hE,hR2];simp [iR,oW,p58]
    have hF2:(nN l.length (fun s=>jd (bL us st li rv) note t l s) s).1=0->(⟨s2.n,nW us s2.bR y.id⟩:CS)=(nN l.length (fun s=>jd (bL us st li rv) note t l s) s).2:=fun h=>absurd (hF1.symm.trans h) p58;exact kP H (SR fun _ ou=>Rm M (aj ou M (LR results199 M fun H=>H.hp.mW (L':=gY b ms ml mr mb mu s2.n :: (mb,fG (gq (nW us s2.bR y.id))) :: L) (by repeat (first|exact lX _|apply List.Sublist.cons)) ⟨⟨s2.n,nW us s2.bR y.id⟩,cZ vi hF1.symm,M,hF2⟩)))
   intro mh a H
   try have p58:=dF mh
   have e58:rD us s2.bR y.id=0:=oN.1 p58;refine kP H (Kc mM (SQ fun _ ow=>SR fun _ kY=>Rm M (Rf Ke M ?_)));clear H mM;intro a H;refine aU fB (cs:=[_,_,_,_,_]) H wn M M (H.hp.cB 0 M M) M ?_;clear H;intro a H;refine gM QT (Li:=[_,_,_]) (L:=gY b ms ml mr mb mu s2.n :: (mb,fG (gq (nW us s2.bR y.id))) :: L) H wn M (RA _ _ _ st li rv b ms ml mr mb mu _ XM (Hp.owns (Li:=[_,_,_]) H.hp) 10 y.head _ _ _ hch O) M ?_;clear H;rintro v63 _ _ a w ⟨rfl,rfl,rfl⟩ - H;dsimp only [lca,bM] at H;refine kH H (aj kY M (SR fun _ qj=>Rm M (Rc M (Kz qj (Cd M ?_ ?_))))) <;> clear H kY qj
   ·intro uW a H
    try have p65:=dT uW
    have hF1:(nN l.length (fun s=>jd (bL us st li rv) note t l s) s).1=iG (bL us st li rv) 10 y.head:=by rw [hE,hR2];simp [iR,oW,e58,p65]
    have hF2:(nN l.length (fun s=>jd (bL us st li rv) note t l s) s).1=0->(⟨s2.n,nW us s2.bR y.id⟩:CS)=(nN l.length (fun s=>jd (bL us st li rv) note t l s) s).2:=fun h=>absurd (hF1.symm.trans h) p65;exact kP H (SR fun _ qB=>Rm M (aj qB M (LR results199 M fun H=>H.hp.mW (L':=gY b ms ml mr mb mu s2.n :: (mb,fG (gq (nW us s2.bR y.id))) :: L) (by repeat (first|exact lX _|apply List.Sublist.cons)) ⟨⟨s2.n,nW us s2.bR y.id⟩,cZ vi hF1.symm,M,hF2⟩)))
   intro uW a H
   try have p65:=dF uW
   have e65:iG (bL us st li rv) 10 y.head=0:=oN.1 p65;refine kP H (Kc ow (SR fun _ qO=>Rm M (bQ GZ kW 0 M M ?_)));clear H ow;intro a H;refine aU ajW (cs:=[_,_,_]) H wn M M (H.hp.cB 2 M M) M ?_;clear H;intro a H;refine gM Np (Li:=[_,_,_]) (L:=gY b ms ml mr mb mu s2.n :: (mb,fG (gq (nW us s2.bR y.id))) :: L) H wn M (ih _ _ _ st li rv b ms ml mr mb mu ⟨s2.n,nW us s2.bR y.id⟩ y.flow _ false note t XM (Hp.owns (Li:=[_,_,_]) H.hp) hcf O ht0 Bg hm0 (by dsimp only;omega)) rfl ?_;clear H;rintro v71 _ _ a w ⟨rfl,s3,rfl,rfl,h3⟩ - H;dsimp only [lca,bM] at H;refine kH H (aj qO M (SR fun _ rO=>Rm M (Rc M (Kz rO (Cd M ?_ ?_))))) <;> clear H qO rO
   ·intro Co a H
    try have p73:=dT Co
    have hF1:(nN l.length (fun s=>jd (bL us st li rv) note t l s) s).1=(jT (bL us st li rv) false note t y.flow ⟨s2.n,nW us s2.bR y.id⟩).1:=by rw [hE,hR2];simp [iR,oW,e58,e65,p73]
    have hF2:(nN l.length (fun s=>jd (bL us st li rv) note t l s) s).1=0->s3=(nN l.length (fun s=>jd (bL us st li rv) note t l s) s).2:=fun h=>absurd (hF1.symm.trans h) p73;exact kP H (SR fun _ qP=>Rm M (aj qP M (LR results199 M fun H=>H.hp.mW (L':=gY b ms ml mr mb mu s3.n :: (mb,fG (gq s3.bR)) :: L) (by repeat (first|exact lX _|apply List.Sublist.cons)) ⟨s3,cZ vi hF1.symm,M,hF2⟩)))
   intro Co a H
   try have p73:=dF Co
   have Ws:(jT (bL us st li rv) false note t y.flow ⟨s2.n,nW us s2.bR y.id⟩).1=0:=oN.1 p73;obtain ⟨hu1,hu2⟩:=Ub (bL us st li rv) false note t y.flow ⟨s2.n,nW us s2.bR y.id⟩;rw [<- h3 Ws] at hu1 hu2;dsimp only at hu1 hu2
   have hS:iR (iR (iR (oW (bL us st li rv) s2 y.id) fun s=>iR (iG (bL us st li rv) 10 y.head,s) fun s=>jT (bL us st li rv) false note t y.flow s) fun s=>qR (bL us st li rv) note t (l[k].cells.drop (c+1)) s) (fun s=>jd (bL us st li rv) note t (l.drop (k+1)) s)=iR (qR (bL us st li rv) note t (l[k].cells.drop (c+1)) s3) (fun s=>jd (bL us st li rv) note t (l.drop (k+1)) s):=by
    rw [h3 Ws];simp [iR,oW,e58,e65,Ws]
   refine kP H (Kc iD (SC (Rd M (Rm M ?_))));clear H iD;intro a H;refine aG ?_;refine dY ((c+1,s3,g2)) (by exact (H.fH (Pl:=[_,_,_,_,_]) (eD:=[_,_,_,_]) [1,2,3,4] Z M).sub ⟨M,M,M,M,M,M,M,M,aB⟩) ?_
   (try dsimp only);exact ⟨O,RB,hR2.trans hS,O,O⟩
  intro h50 a H
  try have p50:=dF h50
  refine dQ ?_;refine bP _ _ ?_;clear bP;refine kP H (SC (Rd M (Rm M ?_)));clear H;intro a H;refine aG ?_;refine dY ((k+1,s2,g2)) (by exact (H.fH (Pl:=[_,_,_,_]) (eD:=[_,_,_]) [1,2,3] Z M).sub ⟨M,M,M,M,M,aB⟩) ?_
  (try dsimp only);exact ⟨O,lQ,by rw [hR2,uh O,qR,Jz M],hm0,O⟩
 intro cK a H
 try have kV:=dF cK
 refine dQ ?_;refine K8 _ _ ?_;clear K8;refine bO (fun _ rP=>?_)
 have hF1:(nN l.length (fun s=>jd (bL us st li rv) note t l s) s).1=0:=by rw [hE,hR,uh O,jd]
 have hF2:(nN l.length (fun s=>jd (bL us st li rv) note t l s) s).1=0->s1=(nN l.length (fun s=>jd (bL us st li rv) note t l s) s).2:=fun h=>by rw [hE,hR,uh O,jd]
 exact kP H (SC (bD rP M (LR results199 M fun H=>H.hp.mW (L':=gY b ms ml mr mb mu s1.n :: (mb,fG (gq s1.bR)) :: L) (by repeat (first|exact lX _|apply List.Sublist.cons)) ⟨s1,cZ vi hF1.symm,M,hF2⟩)))
end
section
theorem apv:aS 199:=aT func199 M
theorem apt:aS 196:=aT func196 M
theorem GX:dP prog 133 5 5:=⟨V⟩
theorem arJ:dP prog 129 0 0:=⟨V⟩
variable {us:List Int}
theorem axh {G:GH} {b:Nat} {x:Int} (h:G b=some (.cells #[vi x] 49 (0,0))):ak G (.sl 1 ([x].map fun k=>[li k])) (.slice (some ⟨b,0,none⟩) 1 1):=Iu [x] h (show 1<=maxLen by decide)
theorem Vi {p:Prop} (h:p:=by
 (try dsimp only)
 first
 | exact ⟨by simp_all [sF,dL,iR,oW],fun _ _ h=>h,M,fun h7=>by first|omega|(exfalso;simp_all)⟩
 | exact ⟨by simp_all [sF,dL,iR,oW],Bb,M,fun h7=>by first|omega|(exfalso;simp_all)⟩):p:=h
theorem Vt {p:Prop} (h:p:=by
 refine ⟨(⟨s.n+(kg x:Nat),s.bR⟩,Gt),by exact H.sub ⟨M,M,M,aB⟩,?_⟩;exact Vi):p:=h
theorem avL {m:Nat} (ih:Jk us m) (hm:m<=4294967296) (Gt:GH) (L:OL) (w0:World) (st:List bY) (li:List fC) (rv:List bV) (b ms ml mr mb mu:Nat) (s:CS) (x:au) (p d y f r:ah) (body note:Bool) (t:Int)
  (hck:xw us Gt st li rv ms ml mr mu) (hO:gJ Gt (gY b ms ml mr mb mu s.n :: (mb,fG (gq s.bR)) :: L) w0) (hh:jr Gt x.head p d y) (hf:ak Gt (.sl 11 (x.flow.map au.dat)) f) (hr:ak Gt (.sl 6 (x.rows.map aV.dat)) r) (hz:dD x.dat<=m) (ht0:0<=t) (Bg:t<=4) (hs0:0<=s.n) (hs1:s.n+(dD x.dat:Nat)<=1099511627776) :
  Calls prog 134 #[(aK b 0),.agg #[vi x.kind,vi x.code,vi x.id,.string x.text,p,vi x.head.marks.ins,vi x.head.marks.move,d,y,f,r],.agg #[.bool body,.bool note,vi t]] w0 (fV w0 Gt (gY b ms ml mr mb mu s.n :: (mb,fG (gq s.bR)) :: L) fun u G' L'=>PK b ms ml mr mb mu L (fO (bL us st li rv) body note t x s) u L'):=by
 obtain ⟨pA,pn,pc,rfl⟩:=hh.props.form;obtain ⟨dA,dn,dc,rfl⟩:=hh.bK.form;obtain ⟨lA,ln,lc,rfl⟩:=hh.layers.form;obtain ⟨fA,fc,rfl,-⟩:=hf.slice;obtain ⟨rA,rc,rfl,-⟩:=hr.slice;(iterate 2 rw [bS] at *);have hxz:=Ag x;have hcl:=adW x.text
 have hus:kg x<=x.text.size+1:=by unfold kg;split <;> omega
 have hE:=ahD (bL us st li rv) body note t x s;refine jA (N:=117) (T:=[(0,_),(1,_),(2,_)]) func134 M ntmps134 M M hO ?_;intro a H;refine dz (fun _ K1=>?_);refine dR (cs:=[_,_,_,_,_,_,_,_,_,_,_]) H wn M M M ?_;clear H;intro b4 a w hb4 H;refine dR (cs:=[_,_,_]) H wn M M M ?_;clear H;intro b5 a w hb5 H;refine kH H (aj K1 M (SQ fun _ K2=>SR fun _ K3=>?_));clear H K1;intro a H;refine aU gI (cs:=[_,_,_,_,_,_,_,_,_,_,_]) H wn M M (H.hp.cB 1 M M) M ?_;clear H;intro a H;refine s_call apt H wn M (asl _ _ H.ro x _ _ _ _ _ _ _ O) M ?_;clear H;rintro v15 _ a w ⟨rfl,rfl⟩ - H;refine kH H (aj K3 M (SR fun _ K4=>Rm M (Rc M (Kz K4 (Cd M ?_ ?_))))) <;> clear H K3 K4
 ·intro cu a H
  try have lI:=dT cu
  rw [Qd (r:=(lu x,s)) lI] at hE;exact kP H (SR fun _ K5=>Rm M (aj K5 M (LR results134 M fun H=>H.hp.mW (L':=gY b ms ml mr mb mu s.n :: (mb,fG (gq s.bR)) :: L) (by repeat (first|exact lX _|apply List.Sublist.cons)) ⟨s,by rw [hE],M,fun h=>by rw [hE]⟩)))
 intro cu a H
 try have lI:=dF cu
 rw [Jz (r:=(lu x,s)) (oN.1 lI)] at hE;dsimp only at hE;refine kP H (Kc K2 (SR fun _ K6=>Rm M (Rk M (bQ GX aF 2 M M (Rd M (Rk M (Rf GX M ?_)))))));clear H K2;intro a H;refine bC aF 2 (vs:=[_]) H wn M ?_;clear H;intro w H;refine K6 _ _ ?_;clear K6;refine uj (ι:=CS × GH) (Tc:=[(0,_),(4,_),(5,_)]) (Lc:=[(_,_),(_,_)]) (fun gh=>[]) (fun gh=>[gY b ms ml mr mb mu gh.1.n,(mb,fG (gq gh.1.bR))]++L) (fun gh=>gh.2) (fun gh=>sF (bL us st li rv) body note t x.kind x.id ⟨s.n+(kg x:Nat),s.bR⟩=(0,gh.1)∧(∀ b o,Gt b=some o->gh.2 b=some o)∧gh.1.n=s.n+(kg x:Nat)∧(x.kind=7->t < 4)) (by exact H.sub ⟨M,M,M,aB⟩) ?_ ?_
 ·skip;refine kP H (SR fun _ K7=>bQ lM aF 1 M M (Kz K7 (SB (SR fun _ K8=>Rc M (aj K8 M (Cd M ?_ ?_)))))) <;> clear H K7 K8
  ·intro fZ a H
   try have p28:=dT fZ
   have hu:((kg x:Nat):Int)=uS x.text:=by rw [kg,aD p28]
   refine kP H (SR fun _ K9=>bQ vY iP 1 M M ?_);clear H;intro a H;refine s_call apu H wn M (anK _ _ H.ro x.text O) M ?_;clear H;rintro v33 _ a w ⟨rfl,rfl⟩ - H;refine kH H (Rm M ?_);clear H;intro a H;(iterate 2 refine lT H wn M M M ?_;clear H;intro a H);refine kH H (Ra M (aj K9 M (SC (Rm M (Rk M (bQ GX aF 2 M M (Rm M (Rs M (Rd M ?_)))))))));clear H K9;intro a H;rw [show s.n+1+((uS x.text:Int) - 1)=s.n+(kg x:Nat) by omega] at H;refine kH H (Rk M (Rf GX M ?_));clear H;intro a H;refine bC aF 2 (vs:=[_]) H wn M ?_;clear H;intro w H;refine aG ?_;exact Vt
  intro fZ a H
  try have p28:=dF fZ
  have hu:((kg x:Nat):Int)=1:=by rw [kg,av p28];rfl
  rw [show s.n+1=s.n+((kg x:Nat):Int) by omega] at H;refine kP H (SR fun _ aR=>Rc M (aj aR M (Cd M ?_ ?_))) <;> clear H aR
  ·intro h45 a H
   try have p45:=dT h45
   refine kP H (SR fun _ bq=>bQ arJ Et 0 M M (Rn M (Kz bq (Cd M ?_ ?_)))) <;> clear H bq
   ·intro Rb a H
    try have p49:=dT Rb
    refine bO (fun _ bP=>?_)
    have hF1:(fO (bL us st li rv) body note t x s).1=19:=by rw [hE];simp [iR,sF,p45,dL,Rb]
    have hF2:(fO (bL us st li rv) body note t x s).1=0->(⟨s.n+(kg x:Nat),s.bR⟩:CS)=(fO (bL us st li rv) body note t x s).2:=fun h=>absurd (hF1.symm.trans h) Z;exact kP H (SC (bD bP M (LR results134 M fun H=>H.hp.mW (L':=gY b ms ml mr mb mu (s.n+(kg x:Nat)) :: (mb,fG (gq (s.bR))) :: L) (by repeat (first|exact lX _|apply List.Sublist.cons)) ⟨⟨s.n+(kg x:Nat),s.bR⟩,cZ vi hF1.symm,M,hF2⟩)))
   intro Rb a H
   try have p49:=dF Rb
   refine iE ?_;exact Vt
  intro h45 a H
  try have p45:=dF h45
  refine kP H (SR fun _ bU=>Rc M (aj bU M (Cd M ?_ ?_))) <;> clear H bU
  ·intro h50 a H
   try have p50:=dT h50
   refine kP H (SQ fun _ dh=>SR fun _ dZ=>bQ afq Et 0 M M ?_);clear H;intro a H;refine s_call ng H wn M (nE _ _ H.ro _ 19) M ?_;clear H;rintro v54 _ a w ⟨rfl,rfl⟩ - H;refine iC rM jo [_] [_] H wn M M M M M (by intro i q h;match i,h with|0,h=>exact h|n+1,h=>simp at h) M M ?_;clear H;intro b55 a w aBX H;obtain ⟨PU,Bb,att,H⟩:=H.fF;refine s_call sU H wn M (sW _ _ H.ro _ _ (axh att)) M ?_;clear H;rintro v56 _ a w ⟨rfl,rfl⟩ - H;refine kH H (aj dZ M (SR fun _ eu=>Rm M (Rc M (Kz eu (Cd M ?_ ?_))))) <;> clear H dZ eu
   ·intro mh a H
    try have p58:=dT mh
    have e58:dL note 19≠0:=fun h=>p58 (by rw [h];rfl)
    have avs:dO [dL note 19]=dL note 19:=by simp [dO,e58]
    rw [avs] at H
    have hF1:(fO (bL us st li rv) body note t x s).1=dL note 19:=by rw [hE];simp [iR,sF,p50,e58]
    have hF2:(fO (bL us st li rv) body note t x s).1=0->(⟨s.n+(kg x:Nat),s.bR⟩:CS)=(fO (bL us st li rv) body note t x s).2:=fun h=>absurd (hF1.symm.trans h) (e58);exact kP H (SR fun _ dS=>Rm M (aj dS M (LR results134 M fun H=>H.hp.mW (L':=gY b ms ml mr mb mu (s.n+(kg x:Nat)) :: (mb,fG (gq (s.bR))) :: L) (by repeat (first|exact lX _|apply List.Sublist.cons)) ⟨⟨s.n+(kg x:Nat),s.bR⟩,cZ vi hF1.symm,M,hF2⟩)))
   intro mh a H
   try have p58:=dF mh
   have e58:dL note 19=0:=Decidable.byContradiction fun h=>p58 (by simp [dO,h]);refine kP H (Kc dh (SR fun _ eY=>Rm M (bQ J9 aF 1 M M ?_)));clear H dh;intro a H;refine gM Wx (Li:=[_,_]) (L:=gY b ms ml mr mb mu _ :: (mb,fG (gq s.bR)) :: L) H wn M (V3 _ _ _ st li rv b ms ml mr mb mu _ s.bR x.id (hck.mono Bb) (Hp.owns (Li:=[_,_]) H.hp)) M ?_;clear H;rintro v63 _ _ a w ⟨rfl,rfl,rfl⟩ - H;dsimp only [lca,bM] at H;refine kH H (aj eY M (SR fun _ gU=>Rm M (Rc M (Kz gU (Cd M ?_ ?_))))) <;> clear H eY gU
   ·intro uW a H
    try have p65:=dT uW
    have hF1:(fO (bL us st li rv) body note t x s).1=rD us s.bR x.id:=by rw [hE];simp [iR,sF,p50,e58,oW,p65]
    have hF2:(fO (bL us st li rv) body note t x s).1=0->(⟨s.n+(kg x:Nat),nW us s.bR x.id⟩:CS)=(fO (bL us st li rv) body note t x s).2:=fun h=>absurd (hF1.symm.trans h) (p65);exact kP H (SR fun _ fJ=>Rm M (aj fJ M (LR results134 M fun H=>H.hp.mW (L':=gY b ms ml mr mb mu (s.n+(kg x:Nat)) :: (mb,fG (gq (nW us s.bR x.id))) :: L) (by repeat (first|exact lX _|apply List.Sublist.cons)) ⟨⟨s.n+(kg x:Nat),nW us s.bR x.id⟩,cZ vi hF1.symm,M,hF2⟩)))
   intro uW a H
   try have p65:=dF uW
   have e65:rD us s.bR x.id=0:=oN.1 p65;refine iE ?_;refine ⟨(⟨s.n+(kg x:Nat),nW us s.bR x.id⟩,PU),by exact H.sub ⟨M,M,M,aB⟩,?_⟩;exact Vi
  intro h50 a H
  try have p50:=dF h50
  refine kP H (SR fun _ iD=>Rc M (aj iD M (Cd M ?_ ?_))) <;> clear H iD
  ·intro Xo a H
   try have p67:=dT Xo
   refine kP H (SQ fun _ jL=>SR fun _ mM=>bQ WQ aF 0 M M (Rc M (Kz mM (Cd M ?_ ?_)))) <;> clear H mM
   ·intro Xp a H
    try have p71:=dT Xp
    refine bO (fun _ mH=>?_)
    have hF1:(fO (bL us st li rv) body note t x s).1=17:=by rw [hE];simp [iR,sF,p67,dL,p71]
    have hF2:(fO (bL us st li rv) body note t x s).1=0->(⟨s.n+(kg x:Nat),s.bR⟩:CS)=(fO (bL us st li rv) body note t x s).2:=fun h=>absurd (hF1.symm.trans h) Z;exact kP H (SC (bD mH M (LR results134 M fun H=>H.hp.mW (L':=gY b ms ml mr mb mu (s.n+(kg x:Nat)) :: (mb,fG (gq (s.bR))) :: L) (by repeat (first|exact lX _|apply List.Sublist.cons)) ⟨⟨s.n+(kg x:Nat),s.bR⟩,cZ vi hF1.symm,M,hF2⟩)))
   intro Xp a H
   try have p71:=dF Xp
   have e71:¬ 4<=t:=by omega
   refine kP H (Kc jL (SR fun _ kX=>Rm M (bQ J9 aF 1 M M ?_)));clear H jL;intro a H;refine gM Wx (Li:=[_,_]) (L:=gY b ms ml mr mb mu _ :: (mb,fG (gq s.bR)) :: L) H wn M (V3 _ _ _ st li rv b ms ml mr mb mu _ s.bR x.id hck (Hp.owns (Li:=[_,_]) H.hp)) M ?_;clear H;rintro v75 _ _ a w ⟨rfl,rfl,rfl⟩ - H;dsimp only [lca,bM] at H;refine kH H (aj kX M (SR fun _ ou=>Rm M (Rc M (Kz ou (Cd M ?_ ?_))))) <;> clear H kX ou
   ·intro xR a H
    try have IL:=dT xR
    have hF1:(fO (bL us st li rv) body note t x s).1=rD us s.bR x.id:=by rw [hE];simp [iR,sF,p67,dL,e71,oW,IL]
    have hF2:(fO (bL us st li rv) body note t x s).1=0->(⟨s.n+(kg x:Nat),nW us s.bR x.id⟩:CS)=(fO (bL us st li rv) body note t x s).2:=fun h=>absurd (hF1.symm.trans h) (IL);exact kP H (SR fun _ ow=>Rm M (aj ow M (LR results134 M fun H=>H.hp.mW (L':=gY b ms ml mr mb mu (s.n+(kg x:Nat)) :: (mb,fG (gq (nW us s.bR x.id))) :: L) (by repeat (first|exact lX _|apply List.Sublist.cons)) ⟨⟨s.n+(kg x:Nat),nW us s.bR x.id⟩,cZ vi hF1.symm,M,hF2⟩)))
   intro xR a H
   try have IL:=dF xR
   have e77:rD us s.bR x.id=0:=oN.1 IL;refine iE ?_;refine ⟨(⟨s.n+(kg x:Nat),nW us s.bR x.id⟩,Gt),by exact H.sub ⟨M,M,M,aB⟩,?_⟩;exact Vi
  intro Xo a H
  try have p67:=dF Xo
  refine kP H (SR fun _ kY=>Rc M (aj kY M (Cd M ?_ ?_))) <;> clear H kY
  ·intro E5 a H
   try have Zq:=dT E5
   refine kP H (SR fun _ qj=>bQ J9 aF 1 M M ?_);clear H;intro a H;refine s_call yO H wn M (za _ _ H.ro x.id 1 1073741824) M ?_;clear H;rintro v83 _ a w ⟨rfl,rfl⟩ - H;refine kH H (Rn M (Kz qj (Cd M ?_ ?_))) <;> clear H qj
   ·intro h84 a H
    try have p84:=dT h84
    refine bO (fun _ qB=>?_)
    have e84:¬ (1<=x.id∧x.id<=1073741824):=by have h0:=h84;simp at h0;omega
    have hF1:(fO (bL us st li rv) body note t x s).1=18:=by rw [hE];simp [iR,sF,Zq,dL,e84]
    have hF2:(fO (bL us st li rv) body note t x s).1=0->(⟨s.n+(kg x:Nat),s.bR⟩:CS)=(fO (bL us st li rv) body note t x s).2:=fun h=>absurd (hF1.symm.trans h) Z;exact kP H (SC (bD qB M (LR results134 M fun H=>H.hp.mW (L':=gY b ms ml mr mb mu (s.n+(kg x:Nat)) :: (mb,fG (gq (s.bR))) :: L) (by repeat (first|exact lX _|apply List.Sublist.cons)) ⟨⟨s.n+(kg x:Nat),s.bR⟩,cZ vi hF1.symm,M,hF2⟩)))
   intro h84 a H
   try have p84:=dF h84
   refine iE ?_;exact Vt
  intro E5 a H
  try have Zq:=dF E5
  refine iE ?_;refine ⟨(⟨s.n+(kg x:Nat),s.bR⟩,Gt),by exact H.sub ⟨M,M,M,aB⟩,?_⟩;(try dsimp only)
  first
  | exact ⟨by simp_all [sF,dL,iR,oW],fun _ _ h=>h,M,fun h7=>by first|omega|(exfalso;simp_all)⟩
  | exact ⟨by simp_all [sF,dL,iR,oW],Bb,M,fun h7=>by first|omega|(exfalso;simp_all)⟩
 clear H;rintro ⟨s1,g⟩ a w hI H;dsimp only at hI H;obtain ⟨hP,xX,aCn,ht7⟩:=hI;rw [hP,Jz M] at hE;dsimp only at hE;replace hck:=hck.mono xX;replace hh:=hh.mono xX;replace hf:=hf.mono xX;replace hr:=hr.mono xX;dsimp only [lca,bM] at H;refine kP H (SQ fun _ qO=>SR fun _ rO=>Rm M (bQ lM aF 1 M M (Rf wN M ?_)));clear H;intro a H;refine aU fB (cs:=[_,_,_,_,_]) H wn M M (H.hp.cB 1 M M) M ?_;clear H;intro a H;refine gM QT (Li:=[_,_]) (L:=gY b ms ml mr mb mu s1.n :: (mb,fG (gq s1.bR)) :: L) H wn M (RA _ _ _ st li rv b ms ml mr mb mu _ hck (Hp.owns (Li:=[_,_]) H.hp) x.kind x.head _ _ _ hh O) M ?_;clear H;rintro v90 _ _ a w ⟨rfl,rfl,rfl⟩ - H;dsimp only [lca,bM] at H;refine kH H (aj rO M (SR fun _ qP=>Rm M (Rc M (Kz qP (Cd M ?_ ?_))))) <;> clear H rO qP
 ·intro Ho a H
  try have Lm:=dT Ho
  have hF1:(fO (bL us st li rv) body note t x s).1=iG (bL us st li rv) x.kind x.head:=by rw [hE,Qd (r:=(iG (bL us st li rv) x.kind x.head,s1)) Lm]
  have hF2:(fO (bL us st li rv) body note t x s).1=0->s1=(fO (bL us st li rv) body note t x s).2:=fun h=>absurd (hF1.symm.trans h) Lm;exact kP H (SR fun _ rP=>Rm M (aj rP M (LR results134 M fun H=>H.hp.mW (L':=gY b ms ml mr mb mu (s1.n) :: (mb,fG (gq (s1.bR))) :: L) (by repeat (first|exact lX _|apply List.Sublist.cons)) ⟨s1,cZ vi hF1.symm,M,hF2⟩)))
 intro Ho a H
 try have Lm:=dF Ho
 rw [Jz (r:=(iG (bL us st li rv) x.kind x.head,s1)) (oN.1 Lm)] at hE;dsimp only at hE;refine kP H (Kc qO (SQ fun _ vK=>SR fun _ sM=>bQ lM aF 1 M M (Kz sM (SB (SR fun _ xB=>Rc M (aj xB M (Cd M ?_ ?_))))))) <;> clear H qO sM xB
 ·intro uX a H
  try have OE:=dT uX
  rw [aD OE] at hE;refine kP H (SR fun _ BJ=>Rm M (bQ zL kW 1 M M (bQ WQ aF 0 M M ?_)));clear H;intro a H;refine jU OT [_,_,_] H wn M M M M ?_;clear H;intro a H;refine gM Np (Li:=[_,_]) (L:=gY b ms ml mr mb mu s1.n :: (mb,fG (gq s1.bR)) :: L) H wn M (ih _ _ _ st li rv b ms ml mr mb mu s1 x.flow _ false true t hck (Hp.owns (Li:=[_,_]) H.hp) hf O ht0 Bg O O) M ?_;clear H;rintro aA1 _ _ a w ⟨rfl,s3,rfl,rfl,h3⟩ - H;dsimp only [lca,bM] at H
  have hF1:(fO (bL us st li rv) body note t x s).1=(jT (bL us st li rv) false true t x.flow s1).1:=by rw [hE]
  have hF2:(fO (bL us st li rv) body note t x s).1=0->s3=(fO (bL us st li rv) body note t x s).2:=by rw [hE];exact h3
  exact kH H (aj BJ M (LR results134 M fun H=>H.hp.mW (L':=gY b ms ml mr mb mu (s3.n) :: (mb,fG (gq (s3.bR))) :: L) (by repeat (first|exact lX _|apply List.Sublist.cons)) ⟨s3,cZ vi hF1.symm,M,hF2⟩))
 intro uX a H
 try have OE:=dF uX
 rw [av OE] at hE;refine kP H (SR fun _ BK=>Rc M (aj BK M (Cd M ?_ ?_))) <;> clear H BK
 ·intro sZ a H
  try have Ll:=dT sZ
  rw [aD Ll] at hE;refine kP H (SR fun _ qC=>Rm M (bQ uw uL 1 M M (bQ afq Et 0 M M (bQ WQ aF 0 M M (Rd M ?_)))));clear H;intro a H;refine jU OT [_,_,_] H wn M M M M ?_;clear H;intro a H;refine gM apv (Li:=[_,_]) (L:=gY b ms ml mr mb mu s1.n :: (mb,fG (gq s1.bR)) :: L) H wn M (rows_ok ih hm _ _ _ st li rv b ms ml mr mb mu s1 x.rows _ note (t+1) hck (Hp.owns (Li:=[_,_]) H.hp) hr O O (by have:=ht7 Ll;omega) O O) rfl ?_;clear H;rintro aCD _ _ a w ⟨s3,rfl,rfl,h3⟩ - H;dsimp only [lca,bM] at H
  have hF1:(fO (bL us st li rv) body note t x s).1=(nN x.rows.length (fun s=>jd (bL us st li rv) note (t+1) x.rows s) s1).1:=by rw [hE]
  have hF2:(fO (bL us st li rv) body note t x s).1=0->s3=(fO (bL us st li rv) body note t x s).2:=by rw [hE];exact h3
  exact kH H (aj qC M (LR results134 M fun H=>H.hp.mW (L':=gY b ms ml mr mb mu (s3.n) :: (mb,fG (gq (s3.bR))) :: L) (by repeat (first|exact lX _|apply List.Sublist.cons)) ⟨s3,cZ vi hF1.symm,M,hF2⟩))
 intro sZ a H
 try have Ll:=dF sZ
 rw [av Ll] at hE
 have hF1:(fO (bL us st li rv) body note t x s).1=0:=by rw [hE]
 have hF2:(fO (bL us st li rv) body note t x s).1=0->s1=(fO (bL us st li rv) body note t x s).2:=fun h=>by rw [hE]
 exact kP H (Kc vK (SR fun _ Dh=>aj Dh M (LR results134 M fun H=>H.hp.mW (L':=gY b ms ml mr mb mu (s1.n) :: (mb,fG (gq (s1.bR))) :: L) (by repeat (first|exact lX _|apply List.Sublist.cons)) ⟨s1,cZ vi hF1.symm,M,hF2⟩)))
end
section
theorem aoD:aS 134:=aT func134 M
theorem aoC:aS 133:=aT func133 M
variable {us:List Int}
def IxL (fv:ah) (Gi:GH) (n:Nat) (E:Nat->Int) {σ:Type} (B:σ->OL) (S:Nat->σ):Prop:=∀ i,i < n->∀ (G1:GH) (w1:World),(∀ b o,Gi b=some o->G1 b=some o)->gJ G1 (B (S i)) w1 ->
 sJ prog fv [vi i] w1 (fV w1 G1 (B (S i)) fun u G' L'=>∃ s,u=vi (E i)∧L'=B s∧(E i=0->s=S (i+1)))
theorem alp (G:GH) (w0:World) {σ:Type} (B:σ->OL) (S:Nat->σ) (n:Nat) (E:Nat->Int) (fv:ah) (hO:gJ G (B (S 0)) w0) (hn:n<=4611686018427387904) (hf:IxL fv G n E B S) :
  Calls prog 123 #[vi n,fv] w0 (fV w0 G (B (S 0)) fun u G' L'=>∃ s,u=vi (iX E n)∧L'=B s∧(iX E n=0->s=S n)):=by
 refine jA (N:=18) (T:=[(0,_),(1,_)]) func123 M ntmps123 M M hO ?_;intro a H;refine kP H (SR fun _ K1=>aj K1 M (SQ fun _ K2=>SR fun _ K3=>Rm M (Rm M (Kz K3 (SB ?_)))));clear H K1 K3;intro a H;skip;refine eX (ι:=Nat × GH) (Tc:=[(1,_),(7,_)]) (Lc:=[]) (fun gh=>[(8,vi gh.1)]) (fun gh=>[]++B (S gh.1)) (fun gh=>gh.2) (fun gh=>gh.1<=n∧dO (((List.range n).map E).drop gh.1)=iX E n∧(∀ b o,G b=some o->gh.2 b=some o)) (fun gh=>n - gh.1) ((0,G)) (by exact H.sub ⟨M,M,M,aB⟩) ?_ ?_
 ·exact EJ
 clear H;rintro ⟨k,g⟩ a w hI H;dsimp only at hI H;obtain ⟨hk,he,hgm⟩:=hI;dsimp only [lca,bM] at H;refine kP H (SR fun _ K4=>Rc M (Kz K4 (SQ fun _ K5=>Cd M ?_ ?_))) <;> clear H K4
 ·intro h9 a H
  try have p9:=dT h9
  have hk2:k < n:=by omega
  refine kP H (Kc K5 (SQ fun _ K6=>SB (SR fun _ K7=>Rm M (aj K7 M (SR fun _ K8=>Rm M (Rm M ?_))))));clear H K5 K7;intro a H;refine El (Li:=[]) (L:=B (S k)) H wn M M (hf k hk2 _ _ hgm (Hp.owns (Li:=[]) H.hp)) M ?_;clear H;rintro v13 Je L13 a w ⟨s3,rfl,rfl,h3⟩ Cw H;refine kH H (aj K8 M (SR fun _ K9=>Rm M (Rc M (Kz K9 (Cd M ?_ ?_))))) <;> clear H K8 K9
  ·intro jM a H
   try have tL:=dT jM
   have hE:iX E n=E k:=by rw [Gn hk2,aD tL] at he;exact he.symm
   exact kP H (SR fun _ aR=>Rm M (aj aR M (LR results123 M fun H=>H.hp.gL ⟨s3,by rw [hE],M,fun h=>absurd (hE.symm.trans h) tL⟩)))
  intro jM a H
  try have tL:=dF jM
  have hS:=h3 (oN.1 tL);subst hS;exact acX
 intro h9 a H
 try have p9:=dF h9
 refine dQ ?_;refine K2 _ _ ?_;clear K2;exact kP H (SR fun _ bq=>aj bq M (LR results123 M fun H=>H.hp.gL ⟨S n,cZ vi (by rw [uh (by simp;omega)] at he;exact he),by rw [show k=n by omega],fun _=>rfl⟩))
abbrev QB (b ms ml mr mb mu:Nat) (L:OL) (s:CS):OL:=gY b ms ml mr mb mu s.n :: (mb,fG (gq s.bR)) :: L
theorem avK {m:Nat} (ih:Jk us m) (hm:m<=4294967296) {G:GH} {L:OL} {st:List bY} {li:List fC} {rv:List bV} {b ms ml mr mb mu:Nat} {s:CS} {l:List au} {v:ah} {body note:Bool} {t:Int} {x3 x4 x5:Nat}
  (hck:xw us G st li rv ms ml mr mu) (h3:aH G x3 0=some (aK b 0)) (h4:aH G x4 0=some v) (h5:∀ (j:Nat) (u:ah),[.bool body,.bool note,vi t][j]?=some u->aH G x5 (0+j)=some u)
  (hv:ak G (.sl 11 (l.map au.dat)) v) (hz:dH l<=m) (ht0:0<=t) (Bg:t<=4) (hs0:0<=s.n) (hs1:s.n+(dH l:Nat)<=1099511627776) :
  IxL (.func (.func 133) #[] #[(aK x3 0),(aK x4 0),(aK x5 0)]) G l.length (Dz (fO (bL us st li rv) body note t) l s) (QB b ms ml mr mb mu L) (sG (fO (bL us st li rv) body note t) l s):=by
 intro k hk G1 w0 Ob hO;refine jy (caps:=[(aK x3 0),(aK x4 0),(aK x5 0)]) aoC ?_;replace h3:=aC Ob h3;replace h4:=aC Ob h4;replace h5:=fun j u hj=>aC Ob (h5 j u hj);replace hck:=hck.mono Ob;replace hv:=hv.mono Ob;obtain ⟨A,c,rfl,hc1,hc2,hg⟩:=hv.slice;rw [bS] at *;obtain ⟨o,xo,pA,pn,pc,dA,dn,dc,yA,yn,yc,fA,fn,fc,rA,rn,rc,rfl,hrow,hhd,hfl,hrw⟩:=Kh hk hg;obtain ⟨hn0,hn1⟩:=akk (bL us st li rv) body note t l s k O
 have hdz:dH (l.drop k)=1+dD l[k].dat+dH (l.drop (k+1)):=by
  simp only [dH];rw [rR hk,fD,fu]
 have hzm:=aar (lq hk)
 have hE:Dz (fO (bL us st li rv) body note t) l s k=(fO (bL us st li rv) body note t l[k] (sG (fO (bL us st li rv) body note t) l s k)).1:=by unfold Dz;rw [eB hk]
 have hS:sG (fO (bL us st li rv) body note t) l s (k+1)=(fO (bL us st li rv) body note t l[k] (sG (fO (bL us st li rv) body note t) l s k)).2:=by rw [sG,eB hk]
 rw [hE,hS]
 generalize sG (fO (bL us st li rv) body note t) l s k=s1 at *
 refine jA (N:=13) (T:=[(0,_),(1,_),(2,_),(3,_)]) func133 M ntmps133 M M hO ?_;intro a H;refine kP H (SR fun _ K1=>aj K1 M (SQ fun _ K2=>?_));clear H K1;intro a H;refine dI hmx [[],[],[],[1,2],[1,2,3],[],ra 0 6,ra 0 7] [6,7] V [_,_,_,_,.agg #[vi l[k].kind,vi l[k].code,vi l[k].id,.string l[k].text,.slice pA pn pc,vi l[k].head.marks.ins,vi l[k].head.marks.move,.slice dA dn dc,.slice yA yn yc,.slice fA fn fc,.slice rA rn rc],.agg #[.bool body,.bool note,vi t]] H (ay (X0 M fun hG=>Rg LX M (aC hG h3)) (X0 M fun hG=>Rg kW M (aC hG h4)) (Z0 M (Rm M)) (Z2 1 7 2 8 M (Ri jq gI M M)) (ay ?_ ?_ (bT M) (bT M) dB)) ?_
 ·refine gN 3 9 M M fun _ a w G1 hG HT H fin=>?_;refine aU gI (cs:=[_,_,_,_,_,_,_,_,_,_,_]) H wn M M (fun j v hj=>H.hp.aH (aC hG (hrow j v hj))) M ?_;exact jG
 ·refine UM M fun _ a w G1 hG HT H fin=>?_;refine aU ajW (cs:=[.bool body,.bool note,vi t]) H wn M M (fun j v hj=>H.hp.aH (aC hG (h5 j v hj))) M ?_;exact jG
 clear H;intro a w G jC H hv;have H:=H.aN (hv 0 6 M M) M;have H:=H.aN (hv 4 10 M M) M;have H:=H.aN (hv 5 11 M M) M;clear hv;refine gM aoD (Li:=[]) (L:=QB b ms ml mr mb mu L s1) H wn M (avL ih hm _ _ _ st li rv b ms ml mr mb mu s1 l[k] _ _ _ _ _ body note t (hck.mono jC) (Hp.owns (Li:=[]) H.hp) (hhd.mono jC) (hfl.mono jC) (hrw.mono jC) O ht0 Bg O O) M ?_;clear H;rintro v12 _ _ a w ⟨s3,rfl,rfl,h12⟩ - H;dsimp only [List.nil_append] at H;refine kH H (Ra M ?_);clear H;intro a H;refine aG ⟨M,?_⟩;refine K2 _ _ ?_;clear K2;refine lr H results133 M ?_;exact H.hp.gL ⟨s3,M,M,h12⟩
theorem avM {m:Nat} (ih:Jk us m) (hm:m<=4294967296):Jk us (m+1):=by
 intro G L w0 st li rv b ms ml mr mb mu s l v body note t hck hO hv hz ht0 Bg hs0 hs1;obtain ⟨hA1,hA2⟩:=ahE (bL us st li rv) body note t l s;refine Calls.als (R:=fun u G' L'=>PK b ms ml mr mb mu L (jT (bL us st li rv) body note t l s) u L') ?_ fun _ _ _ h=>h;obtain ⟨A,c,rfl,hc1,hc2,-⟩:=hv.slice;rw [bS] at *;have hll:=Mh l;refine jA (N:=11) (T:=[(0,_),(1,_),(2,_)]) func72 M ntmps72 M M hO ?_;intro a H;refine dz (fun _ K1=>?_);refine dR (cs:=[_]) H wn M M M ?_;clear H;intro b3 a w hb3 H;refine dR (cs:=[_]) H wn M M M ?_;clear H;intro b4 a w hb4 H;refine dR (cs:=[_,_,_]) H wn M M M ?_;clear H;intro b5 a w hb5 H;refine kH H (aj K1 M (SQ fun _ K2=>?_));clear H K1;intro a H;obtain ⟨Ga5,RI,zP,H⟩:=H.fF;obtain ⟨Ga4,KI,AV,H⟩:=H.fF;obtain ⟨Ga,Fp,tF,H⟩:=H.fF;replace zP:=Fp _ _ (KI _ _ zP);replace AV:=Fp _ _ AV;have hma:∀ b o,G b=some o->Ga b=some o:=fun b o h=>Fp _ _ (KI _ _ (RI _ _ h))
 have g3:aH Ga b3 0=some (aK b 0):=by unfold aH;rw [tF];rfl
 have g4:aH Ga b4 0=some (.slice A l.length c):=by unfold aH;rw [AV];rfl
 have g5:∀ (j:Nat) (u:ah),[.bool body,.bool note,vi t][j]?=some u->aH Ga b5 (0+j)=some u:=by
  intro j u hj;unfold aH;rw [zP];simpa using hj
 have hcb:=avK (mb:=mb) (L:=L) (s:=s) ih hm (hck.mono hma) g3 g4 g5 (hv.mono hma) O ht0 Bg hs0 hs1;refine kP H (SC (Rg kW M (by assumption) ?_));clear H;intro a H;refine kH H (Rl jq M ?_);clear H;intro a H;refine uJ H wn M M ?_;clear H;intro a H;refine gM JZ (Li:=[]) (L:=QB b ms ml mr mb mu L s) H wn M (alp _ _ (QB b ms ml mr mb mu L) (sG (fO (bL us st li rv) body note t) l s) l.length (Dz (fO (bL us st li rv) body note t) l s) _ (Hp.owns (Li:=[]) H.hp) O hcb) M ?_;clear H;rintro v10 _ _ a w ⟨s3,rfl,rfl,h10⟩ - H;dsimp only [List.nil_append] at H;exact kH H (bD K2 M (LR results72 M fun H=>H.hp.gL ⟨s3,by rw [hA1],M,fun h=>by rw [hA1] at h;exact (h10 h).trans (hA2 (hA1.trans h)).symm⟩))
theorem Sc:∀ m:Nat,m<=4294967297->Jk us m
 | 0,_=>fun _ _ _ _ _ _ _ _ _ _ _ _ _ _ _ _ _ _ _ _ _ h=>absurd h O
 | m+1,hm=>avM (Sc m O) O
end
theorem arE:dP prog 102 1 1:=⟨V⟩
theorem arF:dP prog 102 2 2:=⟨V⟩
theorem aoz:aS 126:=aT func126 M
theorem aoy:aS 124:=aT func124 M
theorem ayU {G:GH} {bl:Nat} {l:List bV} {A:Option Addr} {n c:Nat} (hb:aH G bl 0=some (.slice A n c)) (hv:ak G (.sl 3 (l.map bV.dat)) (.slice A n c)):vJ (.func (.func 126) #[] #[(aK bl 0)]) G l.length fun k=>(l[k]?.map bV.id).getD 0:=by
 intro k hk G1 w0 hm hG;refine jy (caps:=[(aK bl 0)]) aoz ?_;replace hb:=aC hm hb
 obtain rfl:n=l.length:=by have:=hv.len;simpa using this
 obtain ⟨b,o,rfl,hrow⟩:=ZH (hv.mono hm) hk;have hq:=hrow 0 _ M;refine eN [(0,_),(1,_)] func126 M ntmps126 M M hG ?_;intro a H;refine kP H (SR fun _ K1=>aj K1 M (SR fun _ K2=>Rg xk M (by assumption) ?_));clear H K1;intro a H;refine kH H (Rm M (Ri om oh M M (Rf WO M (Rg aF M (by assumption) ?_))));clear H;intro a H;exact kH H (aj K2 M (LR results126 M fun H=>H.rt (by dsimp only;rw [eB hk];rfl)))
def Tg (l:List bV) (i:Nat) (x:bV):Int:=dO [wV (fun k=>(l[k]?.map bV.id).getD 0) i,dL (!xH x.author) 39,dL (!decide (0<=x.time∧x.time<=1099511627776)) 40]
def CP (l:List bV) (i:Nat):Int:=match l[i]? with|some x=>Tg l i x|none=>0
theorem ayn {G:GH} {bl:Nat} {l:List bV} {A:Option Addr} {n c:Nat} (hb:aH G bl 0=some (.slice A n c)) (hv:ak G (.sl 3 (l.map bV.dat)) (.slice A n c)) (hl:l.length<=4294967296) (ht:∀ x∈l,x.author.size < 4611686018427387904):vJ (.func (.func 124) #[] #[(aK bl 0)]) G l.length (CP l):=by
 intro k hk G1 w0 hm hG;refine jy (caps:=[(aK bl 0)]) aoy ?_;replace hb:=aC hm hb;replace hv:=hv.mono hm;have hcb:=ayU hb hv
 obtain rfl:n=l.length:=by have:=hv.len;simpa using this
 obtain ⟨b,o,rfl,hrow⟩:=ZH hv hk;have hte:=ht _ (lq hk)
 have he:CP l k=Tg l k l[k]:=by unfold CP;rw [eB hk]
 obtain ⟨x,hx⟩:∃ x,x=l[k]:=⟨_,M⟩;rw [<- hx] at hrow hte he;refine eN [(0,_),(1,_)] func124 M ntmps124 M M hG ?_;intro a H;refine kP H (SR fun _ K1=>aj K1 M (SQ fun _ K2=>?_));clear H K1;intro a H;have H:=H.sub (T':=[(0,_),(1,_)]) ⟨M,M,aB⟩;refine dI hmx [[],[],[0,1],[],[],[3,4],[3,4,5],ra 3 4,ra 0 8,ra 0 9,ra 0 10,[],[],[11,12],[11,12,13],ra 11 4,ra 0 16,ra 0 17,ra 0 18,ra 0 19,ra 0 20,ra 0 21] [19,20,21] V [_,.func (.func 126) #[] #[(aK bl 0)],vi (wV (fun k=>(l[k]?.map bV.id).getD 0) k),_,_,_,_,_,.bool (xH x.author),_,vi (dL (!xH x.author) 39),_,_,_,_,_,.bool (decide (0<=x.time∧x.time<=1099511627776)),_,vi (dL (!decide (0<=x.time∧x.time<=1099511627776)) 40)] H (ay (Z0 M (Rm M)) ?_ ?_ (X0 M fun hG=>Rg xk M (aC hG hb)) (ay (Z0 M (Rm M)) (Z2 3 7 4 8 M (Ri om oh M M)) (Z1 5 9 M (Rf arE M)) (X1 6 10 M fun hG=>Rg iP M (aC hG (hrow 1 _ M))) (ay ?_ (Z1 8 12 M (Rn M)) ?_ (X0 M fun hG=>Rg xk M (aC hG hb)) (ay (Z0 M (Rm M)) (Z2 11 15 12 16 M (Ri om oh M M)) (Z1 13 17 M (Rf arF M)) (X1 14 18 M fun hG=>Rg aF M (aC hG (hrow 2 _ M))) (ay ?_ (Z1 16 20 M (Rn M)) ?_ (bT M) (bN (bT M) (bN (bT M) dB))))))) ?_
 ·exact Gy
 ·exact acL
 ·refine gN 7 11 M M fun _ a w G1 hG HT H fin=>?_;refine s_call aeG H wn M (aaM _ _ H.ro x.author hte) M ?_;clear H;rintro v12 Df a w ⟨rfl,-⟩ oQ H;exact fin H oQ (rfl)
 ·refine gN 9 13 M M fun _ a w G1 hG HT H fin=>?_;refine s_call ng H wn M (nE _ _ H.ro _ 39) M ?_;clear H;rintro v14 EB a w ⟨rfl,-⟩ Hr H;exact fin H Hr (rfl)
 ·refine gN 15 19 M M fun _ a w G1 hG HT H fin=>?_;refine s_call yO H wn M (za _ _ H.ro x.time 0 1099511627776) M ?_;clear H;rintro v20 Jg a w ⟨rfl,-⟩ asD H;exact fin H asD (rfl)
 ·refine gN 17 21 M M fun _ a w G1 hG HT H fin=>?_;refine s_call ng H wn M (nE _ _ H.ro _ 40) M ?_;clear H;rintro v22 Ut a w ⟨rfl,-⟩ Xv H;exact fin H Xv (rfl)
 clear H;intro a w G jC H hv;have H:=H.aN (hv 2 6 M M) M;have H:=H.aN (hv 10 14 M M) M;have H:=H.aN (hv 18 22 M M) M;clear hv;refine iC rM jo [_,_,_] [_,_,_] H wn M M M M M (by intro i q h;match i,h with|0,h=>exact h|1,h=>exact h|2,h=>exact h|n+3,h=>simp at h) M M ?_;clear H;intro b23 a w aBQ H;obtain ⟨G23,H7,atn,H⟩:=H.fF;refine s_call sU H wn M (sW _ _ H.ro _ _ (Iu [wV (fun k=>(l[k]?.map bV.id).getD 0) k,dL (!xH x.author) 39,dL (!decide (0<=x.time∧x.time<=1099511627776)) 40] atn (show 3<=maxLen by decide))) rfl ?_;clear H;rintro v24 _ a w ⟨rfl,rfl⟩ - H;refine kH H (Ra M ?_);clear H;intro a H;refine aG ⟨M,?_⟩;refine K2 _ _ ?_;clear K2;refine lr H results124 M ?_;exact H.rt (by rw [he,Tg])
def Dx (l:List bV):Int:=dO [dL (decide (256 < (l.length:Int))) 9,iX (CP l) (min l.length 256)]
theorem amS (G:GH) (w0:World) (hG:Hold G w0) (l:List bV) (v:ah) (hv:ak G (.sl 3 (l.map bV.dat)) v) (hl:l.length<=4294967296) (ht:∀ x∈l,x.author.size < 4611686018427387904) :
  Calls prog 68 #[v] w0 (bG w0 G fun u G'=>u=vi (Dx l)):=by
 obtain ⟨A,c,rfl,hc1,hc2,-⟩:=hv.slice;rw [bS] at *;refine eN [(0,_)] func68 M ntmps68 M M hG ?_;intro a H;refine dz (fun _ K1=>?_);refine dR (cs:=[_]) H wn M M M ?_;clear H;intro b1 a w hb1 H;refine kH H (aj K1 M (SQ fun _ K2=>?_));clear H K1;intro a H;have H:=H.sub (T':=[(1,_)]) ⟨M,aB⟩;obtain ⟨Ga,hma,hb1',H⟩:=H.fF
 have hbl:aH Ga b1 0=some (.slice A l.length c):=by unfold aH;rw [hb1'];rfl
 have hcb:=ayn hbl (hv.mono hma) hl ht;refine dI hmx [[],[0],[0,1],[0,1,2],[],[4],[4,5],[],ra 0 8,ra 0 9,ra 0 10,ra 0 11] [9,10,11] V [_,_,_,vi (dL (decide (256 < (l.length:Int))) 9),_,_,vi ((min l.length 256:Nat):Int),.func (.func 124) #[] #[(aK b1 0)],vi (iX (CP l) (min l.length 256))] H (ay (X0 M fun hG=>Rg xk M (aC hG hbl)) (Z1 0 3 M (Rl om M)) (Z1 1 4 M (Rc M)) ?_ (ay (X0 M fun hG=>Rg xk M (aC hG hbl)) (Z1 4 7 M (Rl om M)) ?_ ?_ (ay ?_ (bT M) (bT M) (bT M) dB))) ?_
 ·exact Qn
 ·exact Qq
 ·exact Gy
 ·refine eT 6 9 7 10 M M fun _ a w G1 hG HT H fin=>?_;refine s_call JZ H wn M (MI _ _ H.ro (min l.length 256) (CP l) _ O ((hcb.mono hG).le (Nat.min_le_left _ _))) M ?_;exact MW
 clear H;intro a w G jC H hv;have H:=H.aN (hv 3 6 M M) M;have H:=H.aN (hv 8 11 M M) M;clear hv;refine iC rM jo [_,_] [_,_] H wn M M M M M (by intro i q h;match i,h with|0,h=>exact h|1,h=>exact h|n+2,h=>simp at h) M M ?_;clear H;intro b12 a w Hy H;obtain ⟨Df,DZ,Hz,H⟩:=H.fF;refine s_call sU H wn M (sW _ _ H.ro _ _ (Ab Hz)) M ?_;clear H;rintro v13 _ a w ⟨rfl,rfl⟩ - H;refine kH H (Ra M ?_);clear H;intro a H;refine aG ⟨M,?_⟩;refine K2 _ _ ?_;clear K2;refine lr H results68 M ?_;exact xK
theorem lN:∀ {l:List Int},dO l=0->∀ x∈l,x=0
 | [],_,_,h=>by cases h
 | e :: r,h,x,hx=>by
  unfold dO at h
  by_cases he:e=0
  ·rw [av (fun h'=>h' he)] at h
   rcases gK.1 hx with rfl|hx
   ·exact he
   exact lN h x hx
  rw [aD he] at h;exact absurd h he
theorem BX {E:Nat->Int} {n:Nat} (h:iX E n=0) (i:Nat) (hi:i < n):E i=0:=lN h _ (by simp;exact ⟨i,hi,M⟩)
theorem R9 {id:Nat->Int} {i:Nat} (h:wV id i=0):1<=id i∧id i<=1073741824∧(0 < i->id (i - 1) < id i):=by
 unfold wV at h
 by_cases h1:1<=id i∧id i<=1073741824
 ·rw [av (fun h'=>h' h1)] at h
  by_cases h2:0 < i∧id i=id (i - 1)
  ·rw [aD h2] at h;cases h
  rw [av h2] at h
  by_cases h3:0 < i∧id i < id (i - 1)
  ·rw [aD h3] at h;cases h
  exact ⟨h1.1,h1.2,fun h0=>by omega⟩
 rw [aD h1] at h;cases h
theorem ahz {l:List Int} (h:∀ i (h:i+1 < l.length),l[i] < l[i+1]):Dc l:=by
 have hlt:∀ (j i:Nat) (hj:j < l.length) (hi:i < j),l[i] < l[j]:=by
  intro j
  induction j with
  | zero=>intro i _ hi;omega
  | succ j ih =>
   intro i hj hi;have h1:=h j hj
   by_cases e:i=j
   ·subst e;exact h1
   have:=ih i O O;omega
 intro k hk hm;obtain ⟨i,hi,he⟩:=List.getElem_of_mem hm;rw [List.length_take] at hi;have:=hlt k i hk O;rw [List.getElem_take] at he
 omega
theorem acS {p:Prop} (h:p:=by
 have h4:=(R9 (lN h3 _ dX)).2.2 O;rw [Nat.add_sub_cancel,eB hi,eB (show i < l.length by omega)] at h4
 simpa using h4):p:=h
theorem ayo {l:List bV} (h:Dx l=0):Dc (l.map bV.id):=by
 have h1:=lN h _ (dX);have h2:=lN h _ (gW _ dX)
 have hl:l.length<=256:=by
  unfold dL at h1
  by_cases hd:256 < (l.length:Int)
  ·rw [aD (aI hd)] at h1;cases h1
  omega
 refine ahz fun i hi=>?_;rw [bS] at hi;have h3:=BX h2 (i+1) O
 unfold CP at h3
 rw [eB hi] at h3;exact acS
theorem awf {l:List fC} (h:M0 l=0):Dc (l.map fC.id):=by
 have h1:=lN h _ (dX);have h2:=lN h _ (gW _ dX)
 have hl:l.length<=64:=by
  unfold dL at h1
  by_cases hd:64 < (l.length:Int)
  ·rw [aD (aI hd)] at h1;cases h1
  omega
 refine ahz fun i hi=>?_;rw [bS] at hi;have h3:=BX h2 (i+1) O
 unfold Iz at h3
 exact acS
theorem aAD {l:List bY} (h:Ao l=0):Dc (l.map bY.id):=by
 unfold Ao at h
 by_cases h1:128 < l.length
 ·rw [aD h1] at h;cases h
 rw [av h1] at h
 by_cases h2:vU (Bq l) 0 l.length≠0
 ·rw [aD h2] at h;exact absurd h h2
 intro k hk;rw [bS] at hk;have:=aiD (oN.1 h2) k hk;rw [<- List.map_take,List.getElem_map];exact this
theorem aqE:aS 69:=aT func69 M
theorem vD:Ty prog 36 4 96 [.slice none 0 0,.slice none 0 0,.slice none 0 0,.slice none 0 0] true:=⟨V,V⟩
theorem aqC:aS 67:=aT func67 M
theorem aqD:aS 68:=aT func68 M
theorem Cj:dP prog 38 1 1:=⟨V⟩
theorem WU (e:Int):dO [e]=e:=by
 by_cases h:e=0 <;> simp [dO,h]
structure gu where
 flow:List au
 fin:dN
 revs:List bV
 iH:BQ
structure oL (G:GH) (D:kN) (d:gu):Prop where
 fl:ak G (.sl 11 (d.flow.map au.dat)) (aW D.f)
 hd:jr G d.fin (aW D.p) (aW D.d) (aW D.y)
 ins:D.ins=d.fin.marks.ins
 mv:D.move=d.fin.marks.move
 rv:ak G (.sl 3 (d.revs.map bV.dat)) (aW D.r)
 st:Am G d.iH (aW D.s1) (aW D.s2) (aW D.s3) (aW D.s4)
theorem Am.mono {G G':GH} (hm:∀ b o,G b=some o->G' b=some o) {s:BQ} {a b c d:ah} (h:Am G s a b c d):Am G' s a b c d:=⟨h.st.mono hm,h.li.mono hm,h.cm.mono hm,h.va.mono hm⟩
theorem oL.mono {G G':GH} (hm:∀ b o,G b=some o->G' b=some o) {D:kN} {d:gu} (h:oL G D d):oL G' D d:=⟨h.fl.mono hm,h.hd.mono hm,h.ins,h.mv,h.rv.mono hm,h.st.mono hm⟩
structure Aj (d:gu):Prop where
 fl:dH d.flow<=1073741824
 hd:mX d.fin<=4294967296
 rn:d.revs.length<=4294967296
 rt:∀ x∈d.revs,x.author.size < 4611686018427387904
 sn:d.iH.styles.length<=4294967296
 st:UR d.iH
abbrev gu.kS (d:gu):bE:=bL [] d.iH.styles d.iH.lists d.revs
def vg (m:zC):Bool:=decide ((m.ins≠0∨m.move≠0)∨0 < (m.bK.length:Int))
def iT (d:gu):Int:=dO [dO [M4 d.iH,Dx d.revs],dO [iG d.kS 3 d.fin,dL (vg d.fin.marks) 21],(jT d.kS true false 0 d.flow ⟨0,[]⟩).1,dL (decide (16384 < (jT d.kS true false 0 d.flow ⟨0,[]⟩).2.n)) 9]
theorem abo {p:Prop} (h:p:=by
 exact fin H iJ (by show _=_;first|exact gH (aI c1).symm|exact gH (by simp [c0]))):p:=h
theorem abp {p:Prop} (h:p:=by
 exact fin H iJ (by show _=_;first|exact gH (mP (Or.inl c1)).symm|exact gH (by simp [vg,c1]))):p:=h
theorem Vu {p:Prop} (h:p:=by
 refine eT 0 24 2 26 M M fun _ a w G1 hG HT H fin=>?_;refine gM QT (Li:=[_,_]) (L:=gY b ms ml mr mb mu 0 :: (mb,fG []) :: []) H wn M (RA _ _ _ d.iH.styles d.iH.lists d.revs b ms ml mr mb mu _ (hck.mono hG) (Hp.owns (Li:=[_,_]) H.hp) 3 d.fin _ _ _ (hhd.mono hG) zh) M ?_;clear H;rintro v27 _ _ a w ⟨rfl,rfl,rfl⟩ asF H;dsimp only [lca,bM] at H;exact fin H asF (rfl)):p:=h
theorem VA {p:Prop} (h:p:=by
 refine gN 17 41 M M fun _ a w G1 hG HT H fin=>?_;refine s_call ng H wn M (nE _ _ H.ro _ 21) M ?_;clear H;rintro v42 G42 a w ⟨rfl,-⟩ asO H;exact fin H asO (rfl)):p:=h
theorem adn {p:Prop} (h:p:=by
 refine eT 12 36 16 40 M M fun _ a w G1 hG HT H fin=>?_;refine kH H (Pt (aI c1) M ?_);clear H;intro a H;exact abp):p:=h
theorem adp {p:Prop} (h:p:=by
 refine eT 7 31 10 34 M M fun _ a w G1 hG HT H fin=>?_;refine kH H (Pf (aY c0) M ?_);clear H;intro a H;exact abo):p:=h
theorem Vx {p:Prop} (h:p:=by
 refine gN 1 25 M M fun _ a w G1 hG HT H fin=>?_;exact Vo):p:=h
theorem amV (G:GH) (w0:World) (hG:Hold G w0) (D:kN) (d:gu) (hR:oL G D d) (hz:Aj d) :
  Calls prog 21 #[D.val] w0 (bG w0 G fun u G'=>u=vi (iT d)):=by
 obtain ⟨df,dp,dd,dy,dr,d1,d2,d3,d4,ins,mv⟩:=D;obtain ⟨hfl,hhd,hin,hmv,qJ,hst⟩:=hR;dsimp only at hfl hhd hin hmv qJ hst;subst hin;subst hmv;obtain ⟨zf,zh,zr,zt,zs,zg⟩:=hz;have hdl:=hhd.bK.len;rw [bS] at hdl
 have hdn:d.fin.marks.bK.length<=4294967296:=by
  have h1:=FU d.fin;have h2:=pK (d.fin.marks.bK.map gG.dat);rw [bS] at h2;omega
 refine eN [(0,_)] func21 M ntmps21 M M hG ?_;intro a H;refine dz (fun _ K1=>?_);refine dR (cs:=[_,_,_,_,_,_,_,_,_,_,_]) H wn M M M ?_;clear H;intro b1 a w hb1 H;refine kH H (aj K1 M (SQ fun _ K2=>SQ fun _ K3=>?_));clear H K1;intro a H;refine dI hmx [[],[0],[0,1],[],[3],ra 0 5,ra 0 6,ra 0 7,ra 0 8] [6,7,8] V [_,.agg #[aW d1,aW d2,aW d3,aW d4],vi (M4 d.iH),_,aW dr,vi (Dx d.revs)] H (ay (Z0 M (Rf J8 M)) ?_ ?_ (Z0 M (Rf Ck M)) (ay (Z1 3 11 M (Ro xk 0 M)) ?_ (bT M) (bT M) (bN (bT M) dB))) ?_
 ·refine gN 0 8 M M fun _ a w G1 hG HT H fin=>?_;refine aU vD (cs:=[_,_,_,_]) H wn M M (H.hp.cB 0 M M) M ?_;exact jG
 ·refine gN 1 9 M M fun _ a w G1 hG HT H fin=>?_;refine s_call aqC H wn M (amT _ _ H.ro d.iH _ _ _ _ (hst.mono hG) zg) M ?_;clear H;rintro v10 EA a w rfl wR H;exact fin H wR (rfl)
 ·refine gN 4 12 M M fun _ a w G1 hG HT H fin=>?_;refine s_call aqD H wn M (amS _ _ H.ro d.revs _ (qJ.mono hG) zr zt) M ?_;clear H;rintro v13 Je a w rfl NH H;exact fin H NH (rfl)
 clear H;intro a w G jC H hv;have H:=H.aN (hv 2 10 M M) M;have H:=H.aN (hv 5 13 M M) M;clear hv;refine iC rM jo [_,_] [_,_] H wn M M M M M (by intro i q h;match i,h with|0,h=>exact h|1,h=>exact h|n+2,h=>simp at h) M M ?_;clear H;intro b14 a w agl H;obtain ⟨EB,D6,XB,H⟩:=H.fF;have hg1:=fun b o h=>D6 b o (jC b o h);replace hfl:=hfl.mono hg1;replace hhd:=hhd.mono hg1;replace qJ:=qJ.mono hg1;replace hst:=hst.mono hg1;refine s_call sU H wn M (sW _ _ H.ro _ _ (Ab XB)) M ?_;clear H;rintro v15 _ a w ⟨rfl,rfl⟩ - H;refine kH H (Ra M ?_);clear H;intro a H;refine aG ⟨M,?_⟩;refine K3 _ _ ?_;clear K3;refine kP H (SR fun _ K4=>Rm M (Rc M (Kz K4 (Cd M ?_ ?_)))) <;> clear H K4
 ·intro cu a H
  try have lI:=dT cu
  have hE:iT d=dO [M4 d.iH,Dx d.revs]:=by rw [iT,dO,aD lI]
  exact kP H (SR fun _ K5=>Rm M (aj K5 M (LR results21 M fun H=>H.rt (by rw [hE]))))
 intro cu a H
 try have lI:=dF cu
 have e1:=oN.1 lI;have s1:=lN e1 _ dX;have s2:=lN e1 _ (gW _ dX);have t1:=lN s1 _ dX;have t2:=lN s1 _ (gW _ dX);refine iE ?_;refine K2 _ _ ?_;clear K2;refine dz (fun _ K6=>?_);refine aU iB (cs:=[_,_,_,_,_,_,_,_,_,_,_]) H wn M M (H.hp.cB 0 M M) M ?_;clear H;intro a H;refine gM aqE (Li:=[_]) (L:=[]) H wn M (awP _ _ (Hp.owns (Li:=[_]) H.hp) ⟨df,dp,dd,dy,dr,d1,d2,d3,d4,d.fin.marks.ins,d.fin.marks.move⟩ d.iH.styles d.iH.lists d.revs hst.st hst.li qJ (aAD t1) (awf t2) (ayo s2) zs zg.ln zr) M ?_;clear H;rintro v20 Jg _ a w ⟨b,ms,ml,mr,mb,mu,rfl,rfl,hck⟩ ru H;dsimp only [lca,bM] at H;have H:=H.fH (Pl:=[_,_,_,_]) (eD:=[_,_,_,_]) [3,0,1,2] Z M;obtain ⟨Gu,hmu,hu,H⟩:=H.fF;replace hck:=hck.with (us:=[]) hmu hu;replace hfl:=(hfl.mono ru).mono hmu;replace hhd:=(hhd.mono ru).mono hmu;refine kH H (aj K6 M (SR fun _ K7=>Rf Cj M (Rf qo M ?_)));clear H K6;intro a H;refine aU Es (cs:=[_,_,_,_]) H wn M M (H.hp.cB 0 M M) M ?_;clear H;intro a H;refine dJ Es H wn M ?_;clear H;intro b5 a w hb5 H;refine bC Es 0 (vs:=[_,_,_,_]) H wn M ?_;clear H;intro w H;refine K7 _ _ ?_;clear K7;refine bO (fun _ K8=>?_);refine bO (fun _ K9=>?_)
 by_cases c0:d.fin.marks.ins≠0
 ·skip;have c1:d.fin.marks.ins≠0∨d.fin.marks.move≠0:=Or.inl c0;refine dI hmx [[],[],[1],[0,1,2],[],[4],[4,5],ra 0 7,ra 0 8,ra 0 9,ra 0 10,ra 0 11,ra 0 12,ra 0 13,ra 0 14,ra 0 15,ra 0 16,ra 0 17,ra 0 18,ra 0 19,ra 0 20,ra 0 21] [19,20,21] V [_,_,sj d.fin (aW dp) (aW dd) (aW dy),vi (iG d.kS 3 d.fin),_,vi d.fin.marks.ins,_,_,undef,undef,undef,.bool (decide (d.fin.marks.ins≠0∨d.fin.marks.move≠0)),_,undef,undef,undef,undef,.bool (vg d.fin.marks),vi (dL (vg d.fin.marks) 21)] H (ay (Z0 M (Rm M)) (Z0 M (Rf Cj M)) ?_ ?_ (ay (Z0 M (Rf sV M)) (Z1 4 28 M (Ro aF 0 M)) (Z1 5 29 M (Rc M)) (Z1 6 30 M (Rm M)) (ay (aZ 7 (aI c0) M M) (aZ 7 (aI c0) M M) (aZ 7 (aI c0) M M) ?_ (ay (Z1 11 35 M (Rm M)) (aZ 12 (aI c1) M M) (aZ 12 (aI c1) M M) (aZ 12 (aI c1) M M) (ay (aZ 12 (aI c1) M M) ?_ ?_ (bT M) (bN (bT M) (bN (bT M) dB))))))) ?_
  ·exact Vx
  ·exact Vu
  ·refine eT 7 31 10 34 M M fun _ a w G1 hG HT H fin=>?_;refine kH H (Pt (aI c0) M ?_);clear H;intro a H;exact abo
  ·exact adn
  ·exact VA
  clear H;intro a w G jS H hv;have H:=H.aN (hv 3 27 M M) M;have H:=H.aN (hv 18 42 M M) M;clear hv;refine iC rM jo [_,_] [_,_] H wn M M M M M (by intro i q h;match i,h with|0,h=>exact h|1,h=>exact h|n+2,h=>simp at h) M M ?_;clear H;intro b43 a w agp H;obtain ⟨Mq,D7,NM,H⟩:=H.fF;have zS:=fun b o h=>D7 b o (jS b o h);replace hfl:=hfl.mono zS;replace hck:=hck.mono zS;refine s_call sU H wn M (sW _ _ H.ro _ _ (Ab NM)) M ?_;clear H;rintro v44 _ a w ⟨rfl,rfl⟩ - H;refine kH H (Ra M ?_);clear H;intro a H;refine aG ⟨M,?_⟩;refine K9 _ _ ?_;clear K9;refine kP H (SR fun _ aR=>Rm M (Rc M (Kz aR (Cd M ?_ ?_)))) <;> clear H aR
  ·intro h46 a H
   try have p46:=dT h46
   have hE:iT d=dO [iG d.kS 3 d.fin,dL (vg d.fin.marks) 21]:=by rw [iT,dO,av (by simpa using e1),dO,aD p46]
   exact kP H (SR fun _ bq=>Rm M (aj bq M (LR results21 M fun H=>H.rt (by rw [hE]))))
  intro h46 a H
  try have p46:=dF h46
  have e2:=oN.1 p46;refine kP H (Kc K8 (SQ fun _ bP=>SR fun _ bU=>Rm M (bQ vX kW 1 M M ?_)));clear H K8;intro a H;refine jU OT [_,_,_] H wn M M M M ?_;clear H;intro a H;refine gM Np (Li:=[_,_]) (L:=gY b ms ml mr mb mu 0 :: (mb,fG []) :: []) H wn M (Sc 4294967297 O _ _ _ d.iH.styles d.iH.lists d.revs b ms ml mr mb mu ⟨0,[]⟩ d.flow _ true false 0 hck (Hp.owns (Li:=[_,_]) H.hp) hfl O O O Z (by dsimp only;omega)) rfl ?_;clear H;rintro v52 _ _ a w ⟨rfl,s3,rfl,rfl,h3⟩ - H;dsimp only [lca,bM] at H;refine kH H (aj bU M (SR fun _ dh=>Rm M (Rc M (Kz dh (Cd M ?_ ?_))))) <;> clear H bU dh
  ·intro iF a H
   try have p54:=dT iF
   have hE:iT d=(jT d.kS true false 0 d.flow ⟨0,[]⟩).1:=by rw [iT,dO,av (by simpa using e1),dO,av (by simpa using e2),dO,aD p54]
   exact kP H (SR fun _ dZ=>Rm M (aj dZ M (LR results21 M fun H=>H.rt (by rw [hE]))))
  intro iF a H
  try have p54:=dF iF
  have e3:=oN.1 p54;have hs3:=h3 e3;subst hs3;refine kP H (Kc bP (SR fun _ eu=>Rm M (Rk M (bQ GX aF 2 M M (Rc M ?_)))));clear H bP;intro a H;refine s_call ng H wn M (nE _ _ H.ro _ 9) M ?_;clear H;rintro v61 _ a w ⟨rfl,rfl⟩ - H
  have hE:iT d=dL (decide (16384 < (jT d.kS true false 0 d.flow ⟨0,[]⟩).2.n)) 9:=by rw [iT,dO,av (by simpa using e1),dO,av (by simpa using e2),dO,av (by simpa using e3)];exact WU _
  exact kH H (aj eu M (LR results21 M fun H=>H.rt (by rw [hE])))
 skip
 by_cases c1:d.fin.marks.ins≠0∨d.fin.marks.move≠0
 ·skip;refine dI hmx [[],[],[1],[0,1,2],[],[4],[4,5],ra 0 7,ra 0 8,ra 0 9,ra 0 10,ra 0 11,ra 0 12,ra 0 13,ra 0 14,ra 0 15,ra 0 16,ra 0 17,ra 0 18,ra 0 19,ra 0 20,ra 0 21] [19,20,21] V [_,_,sj d.fin (aW dp) (aW dd) (aW dy),vi (iG d.kS 3 d.fin),_,vi d.fin.marks.ins,_,_,_,vi d.fin.marks.move,_,.bool (decide (d.fin.marks.ins≠0∨d.fin.marks.move≠0)),_,undef,undef,undef,undef,.bool (vg d.fin.marks),vi (dL (vg d.fin.marks) 21)] H (ay (Z0 M (Rm M)) (Z0 M (Rf Cj M)) ?_ ?_ (ay (Z0 M (Rf sV M)) (Z1 4 28 M (Ro aF 0 M)) (Z1 5 29 M (Rc M)) (Z1 6 30 M (Rm M)) (ay (Z1 7 31 M (YF Ci (aY c0) M)) (Z2 8 32 7 31 M (YO aF 0 (aY c0) M)) (Z2 9 33 7 31 M (YC (aY c0) M)) ?_ (ay (Z1 11 35 M (Rm M)) (aZ 12 (aI c1) M M) (aZ 12 (aI c1) M M) (aZ 12 (aI c1) M M) (ay (aZ 12 (aI c1) M M) ?_ ?_ (bT M) (bN (bT M) (bN (bT M) dB))))))) ?_
  ·exact Vx
  ·exact Vu
  ·exact adp
  ·exact adn
  ·exact VA
  clear H;intro a w G jS H hv;have H:=H.aN (hv 3 27 M M) M;have H:=H.aN (hv 18 42 M M) M;clear hv;refine iC rM jo [_,_] [_,_] H wn M M M M M (by intro i q h;match i,h with|0,h=>exact h|1,h=>exact h|n+2,h=>simp at h) M M ?_;clear H;intro b43 a w agp H;obtain ⟨Mq,D7,NM,H⟩:=H.fF;have zS:=fun b o h=>D7 b o (jS b o h);replace hfl:=hfl.mono zS;replace hck:=hck.mono zS;refine s_call sU H wn M (sW _ _ H.ro _ _ (Ab NM)) M ?_;clear H;rintro v44 _ a w ⟨rfl,rfl⟩ - H;refine kH H (Ra M ?_);clear H;intro a H;refine aG ⟨M,?_⟩;refine K9 _ _ ?_;clear K9;refine kP H (SR fun _ dS=>Rm M (Rc M (Kz dS (Cd M ?_ ?_)))) <;> clear H dS
  ·intro h46 a H
   try have p46:=dT h46
   have hE:iT d=dO [iG d.kS 3 d.fin,dL (vg d.fin.marks) 21]:=by rw [iT,dO,av (by simpa using e1),dO,aD p46]
   exact kP H (SR fun _ eY=>Rm M (aj eY M (LR results21 M fun H=>H.rt (by rw [hE]))))
  intro h46 a H
  try have p46:=dF h46
  have e2:=oN.1 p46;refine kP H (Kc K8 (SQ fun _ gU=>SR fun _ fJ=>Rm M (bQ vX kW 1 M M ?_)));clear H K8;intro a H;refine jU OT [_,_,_] H wn M M M M ?_;clear H;intro a H;refine gM Np (Li:=[_,_]) (L:=gY b ms ml mr mb mu 0 :: (mb,fG []) :: []) H wn M (Sc 4294967297 O _ _ _ d.iH.styles d.iH.lists d.revs b ms ml mr mb mu ⟨0,[]⟩ d.flow _ true false 0 hck (Hp.owns (Li:=[_,_]) H.hp) hfl O O O Z (by dsimp only;omega)) rfl ?_;clear H;rintro v52 _ _ a w ⟨rfl,s3,rfl,rfl,h3⟩ - H;dsimp only [lca,bM] at H;refine kH H (aj fJ M (SR fun _ iD=>Rm M (Rc M (Kz iD (Cd M ?_ ?_))))) <;> clear H fJ iD
  ·intro iF a H
   try have p54:=dT iF
   have hE:iT d=(jT d.kS true false 0 d.flow ⟨0,[]⟩).1:=by rw [iT,dO,av (by simpa using e1),dO,av (by simpa using e2),dO,aD p54]
   exact kP H (SR fun _ jL=>Rm M (aj jL M (LR results21 M fun H=>H.rt (by rw [hE]))))
  intro iF a H
  try have p54:=dF iF
  have e3:=oN.1 p54;have hs3:=h3 e3;subst hs3;refine kP H (Kc gU (SR fun _ mM=>Rm M (Rk M (bQ GX aF 2 M M (Rc M ?_)))));clear H gU;intro a H;refine s_call ng H wn M (nE _ _ H.ro _ 9) M ?_;clear H;rintro v61 _ a w ⟨rfl,rfl⟩ - H
  have hE:iT d=dL (decide (16384 < (jT d.kS true false 0 d.flow ⟨0,[]⟩).2.n)) 9:=by rw [iT,dO,av (by simpa using e1),dO,av (by simpa using e2),dO,av (by simpa using e3)];exact WU _
  exact kH H (aj mM M (LR results21 M fun H=>H.rt (by rw [hE])))
 skip;refine dI hmx [[],[],[1],[0,1,2],[],[4],[4,5],ra 0 7,ra 0 8,ra 0 9,ra 0 10,ra 0 11,ra 0 12,ra 0 13,ra 0 14,ra 0 15,ra 0 16,ra 0 17,ra 0 18,ra 0 19,ra 0 20,ra 0 21] [19,20,21] V [_,_,sj d.fin (aW dp) (aW dd) (aW dy),vi (iG d.kS 3 d.fin),_,vi d.fin.marks.ins,_,_,_,vi d.fin.marks.move,_,.bool (decide (d.fin.marks.ins≠0∨d.fin.marks.move≠0)),_,_,aW dd,vi d.fin.marks.bK.length,_,.bool (vg d.fin.marks),vi (dL (vg d.fin.marks) 21)] H (ay (Z0 M (Rm M)) (Z0 M (Rf Cj M)) ?_ ?_ (ay (Z0 M (Rf sV M)) (Z1 4 28 M (Ro aF 0 M)) (Z1 5 29 M (Rc M)) (Z1 6 30 M (Rm M)) (ay (Z1 7 31 M (YF Ci (aY c0) M)) (Z2 8 32 7 31 M (YO aF 0 (aY c0) M)) (Z2 9 33 7 31 M (YC (aY c0) M)) ?_ (ay (Z1 11 35 M (Rm M)) (Z1 12 36 M (YF uq (aY c1) M)) (Z2 13 37 12 36 M (YO uK 0 (aY c1) M)) ?_ (ay (Z2 15 39 12 36 M (YC (aY c1) M)) ?_ ?_ (bT M) (bN (bT M) (bN (bT M) dB))))))) ?_
 ·exact Vx
 ·exact Vu
 ·exact adp
 ·refine eT 14 38 12 36 M M fun _ a w G1 hG HT H fin=>?_;refine kH H (YL oK (aY c1) M ?_);clear H;intro a H;exact fin H iJ (by show _=_;first|rfl|exact cZ (fun n:Nat=>vi n) hdl)
 ·refine eT 12 36 16 40 M M fun _ a w G1 hG HT H fin=>?_;refine kH H (Pf (aY c1) M ?_);clear H;intro a H;exact abp
 ·exact VA
 clear H;intro a w G jS H hv;have H:=H.aN (hv 3 27 M M) M;have H:=H.aN (hv 18 42 M M) M;clear hv;refine iC rM jo [_,_] [_,_] H wn M M M M M (by intro i q h;match i,h with|0,h=>exact h|1,h=>exact h|n+2,h=>simp at h) M M ?_;clear H;intro b43 a w agp H;obtain ⟨Mq,D7,NM,H⟩:=H.fF;have zS:=fun b o h=>D7 b o (jS b o h);replace hfl:=hfl.mono zS;replace hck:=hck.mono zS;refine s_call sU H wn M (sW _ _ H.ro _ _ (Ab NM)) M ?_;clear H;rintro v44 _ a w ⟨rfl,rfl⟩ - H;refine kH H (Ra M ?_);clear H;intro a H;refine aG ⟨M,?_⟩;refine K9 _ _ ?_;clear K9;refine kP H (SR fun _ mH=>Rm M (Rc M (Kz mH (Cd M ?_ ?_)))) <;> clear H mH
 ·intro h46 a H
  try have p46:=dT h46
  have hE:iT d=dO [iG d.kS 3 d.fin,dL (vg d.fin.marks) 21]:=by rw [iT,dO,av (by simpa using e1),dO,aD p46]
  exact kP H (SR fun _ kX=>Rm M (aj kX M (LR results21 M fun H=>H.rt (by rw [hE]))))
 intro h46 a H
 try have p46:=dF h46
 have e2:=oN.1 p46;refine kP H (Kc K8 (SQ fun _ ou=>SR fun _ ow=>Rm M (bQ vX kW 1 M M ?_)));clear H K8;intro a H;refine jU OT [_,_,_] H wn M M M M ?_;clear H;intro a H;refine gM Np (Li:=[_,_]) (L:=gY b ms ml mr mb mu 0 :: (mb,fG []) :: []) H wn M (Sc 4294967297 O _ _ _ d.iH.styles d.iH.lists d.revs b ms ml mr mb mu ⟨0,[]⟩ d.flow _ true false 0 hck (Hp.owns (Li:=[_,_]) H.hp) hfl O O O Z (by dsimp only;omega)) rfl ?_;clear H;rintro v52 _ _ a w ⟨rfl,s3,rfl,rfl,h3⟩ - H;dsimp only [lca,bM] at H;refine kH H (aj ow M (SR fun _ kY=>Rm M (Rc M (Kz kY (Cd M ?_ ?_))))) <;> clear H ow kY
 ·intro iF a H
  try have p54:=dT iF
  have hE:iT d=(jT d.kS true false 0 d.flow ⟨0,[]⟩).1:=by rw [iT,dO,av (by simpa using e1),dO,av (by simpa using e2),dO,aD p54]
  exact kP H (SR fun _ qj=>Rm M (aj qj M (LR results21 M fun H=>H.rt (by rw [hE]))))
 intro iF a H
 try have p54:=dF iF
 have e3:=oN.1 p54;have hs3:=h3 e3;subst hs3;refine kP H (Kc ou (SR fun _ qB=>Rm M (Rk M (bQ GX aF 2 M M (Rc M ?_)))));clear H ou;intro a H;refine s_call ng H wn M (nE _ _ H.ro _ 9) M ?_;clear H;rintro v61 _ a w ⟨rfl,rfl⟩ - H
 have hE:iT d=dL (decide (16384 < (jT d.kS true false 0 d.flow ⟨0,[]⟩).2.n)) 9:=by rw [iT,dO,av (by simpa using e1),dO,av (by simpa using e2),dO,av (by simpa using e3)];exact WU _
 exact kH H (aj qB M (LR results21 M fun H=>H.rt (by rw [hE])))
def SL (body note:Bool) (t k i:Int):Prop:=(k=3->body=true)∧(k=6->note=false)∧(k=7->t < 4)∧(k=8->1<=i∧i<=1073741824)
mutual
def mq (C:bE) (body note:Bool) (t:Int):au->Prop
 | .mk k c i tx h f r=>lu (.mk k c i tx h f r)=0∧SL body note t k i∧iG C k h=0∧(k=6->iU C false true t f)∧(k=7->(r.length≠0∧r.length<=256)∧kL C note (t+1) r)
def pY (C:bE) (note:Bool) (t:Int):aV->Prop
 | .mk h cs=>Ej C h cs.length=0∧lH C note t cs
def pX (C:bE) (note:Bool) (t:Int):aX->Prop
 | .mk _ h f=>iG C 10 h=0∧iU C false note t f
def iU (C:bE) (body note:Bool) (t:Int):List au->Prop
 | []=>True
 | x :: l=>mq C body note t x∧iU C body note t l
def kL (C:bE) (note:Bool) (t:Int):List aV->Prop
 | []=>True
 | x :: l=>pY C note t x∧kL C note t l
def lH (C:bE) (note:Bool) (t:Int):List aX->Prop
 | []=>True
 | x :: l=>pX C note t x∧lH C note t l
end
theorem Eh {C:bE} {body note:Bool} {t:Int}:∀ {l:List au},iU C body note t l↔∀ x∈l,mq C body note t x
 | []=>by simp [iU]
 | x :: l=>by rw [iU,Eh (l:=l)];simp
theorem SI {C:bE} {note:Bool} {t:Int}:∀ {l:List aV},kL C note t l↔∀ x∈l,pY C note t x
 | []=>by simp [kL]
 | x :: l=>by rw [kL,SI (l:=l)];simp
theorem SG {C:bE} {note:Bool} {t:Int}:∀ {l:List aX},lH C note t l↔∀ x∈l,pX C note t x
 | []=>by simp [lH]
 | x :: l=>by rw [lH,SG (l:=l)];simp
mutual
/-- The units that a check counts. -/
def uI:au->Nat
 | .mk k _ _ tx _ f r=>(if k=1 then uS tx else 1)+(if k=6 then jY f else if k=7 then pE r else 0)
def uR:aV->Nat
 | .mk _ cs=>qg cs
def uC:aX->Nat
 | .mk _ _ f=>jY f
def jY:List au->Nat
 | []=>0
 | x :: l=>uI x+jY l
def pE:List aV->Nat
 | []=>0
 | x :: l=>uR x+pE l
def qg:List aX->Nat
 | []=>0
 | x :: l=>uC x+qg l
end
def lK (us bR ids:List Int):Prop:=(∀ i∈ids,(1<=i∧i<=1073741824)∧i∉us∧i∉bR)∧ids.Nodup
theorem lK.nil (us bR:List Int):lK us bR []:=⟨fun _ h=>(by cases h),List.nodup_nil⟩
theorem lK.app {us bR a b:List Int}:lK us bR (a++b)↔lK us bR a∧lK us (bR++a) b:=by
 unfold lK
 rw [List.nodup_append]
 constructor
 ·rintro ⟨h,h1,h2,h3⟩;exact ⟨⟨fun i hi=>h i (List.mem_append_left _ hi),h1⟩,fun i hi=>⟨(h i (List.mem_append_right _ hi)).1,(h i (List.mem_append_right _ hi)).2.1,fun hm=>(jQ.1 hm).elim (h i (List.mem_append_right _ hi)).2.2 fun ha=>h3 i ha i hi M⟩,h2⟩
 rintro ⟨⟨h,h1⟩,h2,h3⟩;exact ⟨fun i hi=>(jQ.1 hi).elim (h i) fun hb=>⟨(h2 i hb).1,(h2 i hb).2.1,fun hm=>(h2 i hb).2.2 (List.mem_append_left _ hm)⟩,h1,h3,fun i hi j hj e=>(h2 j hj).2.2 (List.mem_append_right _ (e ▸ hi))⟩
theorem lK.sub {us bR a b:List Int} (h:lK us bR a) (hs:b.Sublist a):lK us bR b:=⟨fun i hi=>h.1 i (hs.subset hi),hs.nodup h.2⟩
theorem Jy {r:CR} {f:CS->CR} {s':CS}:iR r f=(0,s')↔∃ m,r=(0,m)∧f m=(0,s'):=by
 constructor
 ·intro h;obtain ⟨h1,h2⟩:=nT h;exact ⟨r.2,Prod.ext h1 M,h2⟩
 rintro ⟨m,rfl,h⟩;rw [Jz M];exact h
theorem yP {e:Int} {s m:CS}:((e,s):CR)=(0,m)↔e=0∧m=s:=by rw [iQ,@eq_comm _ s m]
theorem YB {C:bE} {s m:CS} {x:Int}:oW C s x=(0,m)↔lK C.us s.bR [x]∧m=⟨s.n,s.bR++[x]⟩:=by
 unfold oW
 rw [yP]
 have he:rD C.us s.bR x=0↔lK C.us s.bR [x]:=by
  unfold rD lK
  by_cases h0:¬ (1<=x∧x<=1073741824)∨x∈C.us
  ·rw [aD h0];refine ⟨fun h=>(by cases h),fun h=>?_⟩;have:=h.1 x (List.mem_singleton_self _);exact absurd h0 (by rintro (h1|h1);exact h1 this.1;exact this.2.1 h1)
  rw [av h0]
  by_cases h1:x∈s.bR
  ·rw [aD h1];exact ⟨fun h=>(by cases h),fun h=>absurd h1 (h.1 x (List.mem_singleton_self _)).2.2⟩
  rw [av h1];refine ⟨fun _=>⟨fun i hi=>?_,by simp⟩,fun _=>rfl⟩;rw [oC.1 hi];exact ⟨oN.1 fun h=>h0 (.inl h),fun h=>h0 (.inr h),h1⟩
 rw [he]
 constructor
 ·rintro ⟨h,rfl⟩;exact ⟨h,by rw [nW,aD (he.2 h)]⟩
 rintro ⟨h,rfl⟩;exact ⟨h,by rw [nW,aD (he.2 h)]⟩
theorem tV {b:Bool} {e:Int} (he:e≠0):dL b e=0↔b=false:=by cases b <;> simp [dL,he]
theorem abq {p:Prop} (h:p:=by
 exact ⟨s,⟨h1 trivial,M⟩,by simpa using h2,by simpa using h4⟩):p:=h
theorem axG {C:bE} {body note:Bool} {t k i:Int} {s m:CS}:sF C body note t k i s=(0,m)↔SL body note t k i∧lK C.us s.bR (if k=6∨k=7 then [i] else [])∧m=⟨s.n,s.bR++(if k=6∨k=7 then [i] else [])⟩:=by
 unfold sF SL
 by_cases h3:k=3
 ·subst h3;rw [aD M,yP,tV Z];cases body <;> simp [lK.nil]
 rw [av h3]
 by_cases h6:k=6
 ·subst h6;rw [aD M,Jy]
  simp only [yP,tV (show (19:Int)≠0 by decide),YB]
  constructor
  ·rintro ⟨_,⟨h1,rfl⟩,h2,h4⟩;exact ⟨⟨fun h=>absurd h Z,fun _=>h1,fun h=>absurd h Z,fun h=>absurd h Z⟩,by simpa using h2,by simpa using h4⟩
  rintro ⟨⟨-,h1,-,-⟩,h2,h4⟩;exact abq
 rw [av h6]
 by_cases h7:k=7
 ·subst h7;rw [aD M,Jy]
  simp only [yP,tV (show (17:Int)≠0 by decide),YB,vO,Int.not_le]
  constructor
  ·rintro ⟨_,⟨h1,rfl⟩,h2,h4⟩;exact ⟨⟨fun h=>absurd h Z,fun h=>absurd h Z,fun _=>h1,fun h=>absurd h Z⟩,by simpa using h2,by simpa using h4⟩
  rintro ⟨⟨-,-,h1,-⟩,h2,h4⟩;exact abq
 rw [av h7,av (show ¬ (k=6∨k=7) by omega),ig]
 by_cases h8:k=8
 ·rw [aD h8,yP,tV Z]
  simp [h3,h6,h7,h8,lK.nil]
 rw [av h8,yP];simp [h3,h6,h7,h8,lK.nil]
theorem ayA {n:Nat} {f:CS->CR} {s s':CS}:nN n f s=(0,s')↔(n≠0∧n<=256)∧f s=(0,s'):=by
 unfold nN
 split
 ·rename_i h;simp [h]
 rename_i h
 split
 ·rename_i h2;simp [show ¬ n<=256 by omega]
 rename_i h2;simp [h,show n<=256 by omega]
theorem alK {p:Prop} (h:p:=by
 exact ⟨⟨q1,q3⟩,⟨q2,q4⟩,by rw [jv];congr 1;push_cast;omega⟩):p:=h
theorem alL {p:Prop} (h:p:=by
 exact ⟨_,⟨q1,q2,M⟩,q3,q4,by rw [jv];congr 1;push_cast;omega⟩):p:=h
theorem VB {p:Prop} (h:p:=by
 simp only [Jy,h1,h2,lK.app]
 constructor
 ·rintro ⟨_,⟨q1,q2,rfl⟩,q3,q4,rfl⟩;exact alK
 rintro ⟨⟨q1,q3⟩,⟨q2,q4⟩,rfl⟩;exact alL):p:=h
mutual
theorem amZ (C:bE) (body note:Bool) (t:Int):∀ (x:au) (s s':CS),fO C body note t x s=(0,s')↔mq C body note t x∧lK C.us s.bR (rC x)∧s'=⟨s.n+(uI x:Nat),s.bR++rC x⟩
 | .mk k c i tx h f r,s,s'=>by
  have hf:=M5 C false true t f;have hr:=adO C note (t+1) r;rw [fO,mq,rC,uI]
  simp only [Jy,yP,axG]
  by_cases h6:k=6
  ·subst h6
   simp only [if_true,hf,lK.app,true_or,av (show ¬ (6:Int)=7 by decide),av (show ¬ (6:Int)=1 by decide),ig]
   constructor
   ·rintro ⟨_,⟨h1,rfl⟩,_,⟨h2,h3,rfl⟩,_,⟨h4,rfl⟩,h5,h7,rfl⟩;exact ⟨⟨h1,h2,h4,fun _=>h5,fun h=>absurd h Z⟩,⟨h3,h7⟩,by rw [jv];congr 1;push_cast;omega⟩
   rintro ⟨⟨h1,h2,h4,h5,-⟩,⟨h3,h7⟩,rfl⟩;exact ⟨s,⟨h1,M⟩,_,⟨h2,h3,M⟩,_,⟨h4,M⟩,h5 trivial,h7,by rw [jv];congr 1;push_cast;omega⟩
  by_cases h7:k=7
  ·subst h7
   simp only [if_true,ayA,hr,lK.app,or_true,av (show ¬ (7:Int)=6 by decide),av (show ¬ (7:Int)=1 by decide),mO]
   constructor
   ·rintro ⟨_,⟨h1,rfl⟩,_,⟨h2,h3,rfl⟩,_,⟨h4,rfl⟩,h0,h5,h8,rfl⟩;exact ⟨⟨h1,h2,h4,fun h=>absurd h Z,fun _=>⟨h0,h5⟩⟩,⟨h3,h8⟩,by rw [jv];congr 1;push_cast;omega⟩
   rintro ⟨⟨h1,h2,h4,-,h5⟩,⟨h3,h8⟩,rfl⟩;exact ⟨s,⟨h1,M⟩,_,⟨h2,h3,M⟩,_,⟨h4,M⟩,(h5 trivial).1,(h5 trivial).2,h8,by rw [jv];congr 1;push_cast;omega⟩
  simp only [av h6,av h7,av (show ¬ (k=6∨k=7) by omega),ig,yP]
  constructor
  ·rintro ⟨_,⟨h1,rfl⟩,_,⟨h2,h3,rfl⟩,_,⟨h4,rfl⟩,-,rfl⟩;exact ⟨⟨h1,h2,h4,fun h=>absurd h h6,fun h=>absurd h h7⟩,lK.nil _ _,by simp⟩
  rintro ⟨⟨h1,h2,h4,-,-⟩,h3,rfl⟩;exact ⟨s,⟨h1,M⟩,_,⟨h2,lK.nil _ _,M⟩,_,⟨h4,M⟩,aB,by simp⟩
theorem ana (C:bE) (note:Bool) (t:Int):∀ (x:aV) (s s':CS),zX C note t x s=(0,s')↔pY C note t x∧lK C.us s.bR (wu x)∧s'=⟨s.n+(uR x:Nat),s.bR++wu x⟩
 | .mk h cs,s,s'=>by
  have hc:=adN C note t cs;rw [zX,pY,wu,uR]
  simp only [Jy,yP,hc]
  constructor
  ·rintro ⟨_,⟨h1,rfl⟩,h2,h3⟩;exact ⟨⟨h1,h2⟩,h3⟩
  rintro ⟨⟨h1,h2⟩,h3⟩;exact ⟨s,⟨h1,M⟩,h2,h3⟩
theorem amY (C:bE) (note:Bool) (t:Int):∀ (x:aX) (s s':CS),cellC C note t x s=(0,s')↔pX C note t x∧lK C.us s.bR (wT x)∧s'=⟨s.n+(uC x:Nat),s.bR++wT x⟩
 | .mk i h f,s,s'=>by
  have hf:=M5 C false note t f;rw [cellC,pX,wT,uC,show i :: jD f=[i]++jD f from rfl]
  simp only [Jy,yP,hf,YB,lK.app]
  constructor
  ·rintro ⟨_,⟨h1,rfl⟩,_,⟨h2,rfl⟩,h3,h4,rfl⟩;exact ⟨⟨h2,h3⟩,⟨h1,h4⟩,by rw [jv]⟩
  rintro ⟨⟨h2,h3⟩,⟨h1,h4⟩,rfl⟩;exact ⟨_,⟨h1,M⟩,_,⟨h2,M⟩,h3,h4,by rw [jv]⟩
theorem M5 (C:bE) (body note:Bool) (t:Int):∀ (l:List au) (s s':CS),jT C body note t l s=(0,s')↔iU C body note t l∧lK C.us s.bR (jD l)∧s'=⟨s.n+(jY l:Nat),s.bR++jD l⟩
 | [],s,s'=>by rw [jT,iU,jD,jY,yP];simp [lK.nil]
 | x :: r,s,s'=>by
  have h1:=amZ C body note t x;have h2:=M5 C body note t r;rw [jT,iU,jD,jY]
  exact VB
theorem adO (C:bE) (note:Bool) (t:Int):∀ (l:List aV) (s s':CS),jd C note t l s=(0,s')↔kL C note t l∧lK C.us s.bR (nV l)∧s'=⟨s.n+(pE l:Nat),s.bR++nV l⟩
 | [],s,s'=>by rw [jd,kL,nV,pE,yP];simp [lK.nil]
 | x :: r,s,s'=>by
  have h1:=ana C note t x;have h2:=adO C note t r;rw [jd,kL,nV,pE]
  exact VB
theorem adN (C:bE) (note:Bool) (t:Int):∀ (l:List aX) (s s':CS),qR C note t l s=(0,s')↔lH C note t l∧lK C.us s.bR (oV l)∧s'=⟨s.n+(qg l:Nat),s.bR++oV l⟩
 | [],s,s'=>by rw [qR,lH,oV,qg,yP];simp [lK.nil]
 | x :: r,s,s'=>by
  have h1:=amY C note t x;have h2:=adN C note t r;rw [qR,lH,oV,qg]
  exact VB
end
theorem asa {a b c d:Int}:dO [a,b,c,d]=0↔a=0∧b=0∧c=0∧d=0:=by
 constructor
 ·intro h;have z:=lN h;exact ⟨z _ (by simp),z _ (by simp),z _ (by simp),z _ (by simp)⟩
 rintro ⟨rfl,rfl,rfl,rfl⟩;rfl
theorem Q5 {a b:Int}:dO [a,b]=0↔a=0∧b=0:=by
 constructor
 ·intro h;have z:=lN h;exact ⟨z _ (by simp),z _ (by simp)⟩
 rintro ⟨rfl,rfl⟩;rfl
theorem Ap (d:gu):iT d=0↔(M4 d.iH=0∧Dx d.revs=0)∧(iG d.kS 3 d.fin=0∧vg d.fin.marks=false)∧iU d.kS true false 0 d.flow∧lK [] [] (jD d.flow)∧jY d.flow<=16384:=by
 unfold iT
 rw [asa,Q5,Q5,tV Z,tV Z,vO]
 constructor
 ·rintro ⟨h1,h2,h3,h4⟩;obtain ⟨q1,q2,q3⟩:=(M5 d.kS true false 0 d.flow ⟨0,[]⟩ _).1 (V9 h3);rw [q3] at h4;dsimp only at h4;exact ⟨h1,h2,q1,q2,O⟩
 rintro ⟨h1,h2,q1,q2,q3⟩;have h:=(M5 d.kS true false 0 d.flow ⟨0,[]⟩ _).2 ⟨q1,q2,M⟩;rw [h];exact ⟨h1,h2,M,by dsimp only;omega⟩
def mU (z y:au):au:=.mk z.kind z.code z.id (z.text++y.text) z.head z.flow z.rows
def qX (y:au):Prop:=(y.kind=7∧y.rows.length=0)∨(y.kind=1∧y.text.size=0)
def pW (z y:au):Prop:=y.kind=1∧z.kind=1∧z.head=y.head
instance (y:au):Decidable (qX y):=inferInstanceAs (Decidable (_∨_))
instance (z y:au):Decidable (pW z y):=inferInstanceAs (Decidable (_∧_∧_))
def addN (out:List au) (y:au):List au :=
 if qX y then out else match out.getLast? with
  | none=>out++[y]
  | some z=>if pW z y then out.dropLast++[mU z y] else out++[y]
theorem Jt {out:List au} {y:au} (h:qX y):addN out y=out:=aD h
theorem Dn {out:List au} {y:au} (h:¬ qX y) (hj:∀ o z,out=o++[z]->¬ pW z y):addN out y=out++[y]:=by
 unfold addN
 rw [av h]
 split
 ·rfl
 rename_i z hz
 obtain ⟨o,rfl⟩:=List.getLast?_eq_some_iff.1 hz;rw [av (hj o z M)]
theorem BR {o:List au} {z y:au} (h:¬ qX y) (hj:pW z y):addN (o++[z]) y=o++[mU z y]:=by
 unfold addN
 rw [av h,List.getLast?_concat];dsimp only;rw [aD hj,List.dropLast_concat]
theorem aaI (out:List au) (y:au):addN out y=out∨addN out y=out++[y]∨∃ o z,out=o++[z]∧z.kind=1∧y.kind=1∧addN out y=o++[mU z y]:=by
 by_cases h:qX y
 ·exact .inl (Jt h)
 by_cases hj:∃ o z,out=o++[z]∧pW z y
 ·obtain ⟨o,z,rfl,hj⟩:=hj;exact .inr (.inr ⟨o,z,M,hj.2.1,hj.1,BR h hj⟩)
 exact .inr (.inl (Dn h fun o z e hz=>hj ⟨o,z,e,hz⟩))
mutual
/-- What becomes of an item in a normal form, of rows, of cells. -/
def nI:au->au
 | .mk k c i t h f r=>.mk k c i t h ((mV f).foldl addN []) (lG r)
def mV:List au->List au
 | []=>[]
 | x :: l=>nI x :: mV l
def nR:aV->aV
 | .mk h c=>.mk h (lF c)
def lG:List aV->List aV
 | []=>[]
 | x :: l=>nR x :: lG l
def nC:aX->aX
 | .mk i h f=>.mk i h ((mV f).foldl addN [])
def lF:List aX->List aX
 | []=>[]
 | x :: l=>nC x :: lF l
end
theorem Le:∀ l:List au,mV l=l.map nI
 | []=>by simp [mV]
 | x :: l=>by simp [mV,Le l]
theorem FE:∀ l:List aV,lG l=l.map nR
 | []=>by simp [lG]
 | x :: l=>by simp [lG,FE l]
theorem IE:∀ l:List aX,lF l=l.map nC
 | []=>by simp [lF]
 | x :: l=>by simp [lF,IE l]
def vk (l:List au) (k:Nat):List au:=((l.take k).map nI).foldl addN []
def kK (l:List au):List au:=vk l l.length
theorem aic (x:au):nI x=.mk x.kind x.code x.id x.text x.head (kK x.flow) (x.rows.map nR):=by
 cases x;rw [nI,Le,FE];simp [kK,vk,au.kind,au.code,au.id,au.text,au.head,au.flow,au.rows]
theorem aie (x:aV):nR x=.mk x.head (x.cells.map nC):=by cases x;rw [nR,IE];rfl
theorem aww (x:aX):nC x=.mk x.id x.head (kK x.flow):=by cases x;rw [nC,Le];simp [kK,vk,aX.id,aX.head,aX.flow]
theorem aiA {l:List au} {k:Nat} (h:k < l.length):vk l (k+1)=addN (vk l k) (nI l[k]):=by
 unfold vk;rw [kG h,kR,List.foldl_append];rfl
theorem aAG (out:List au) (y:au):pz (addN out y)<=pz out+(y.text.size+1):=by
 rcases aaI out y with e|e|⟨o,z,rfl,-,-,e⟩ <;> rw [e]
 ·omega
 ·rw [I5];simp [pz]
 rw [I5,I5];have:(mU z y).text.size=z.text.size+y.text.size:=ByteArray.size_append
 simp only [pz,this];omega
theorem Zl {l:List au}:∀ {k:Nat},k<=l.length->pz (vk l k)<=pz (l.take k)
 | 0,_=>by simp [vk,pz]
 | k+1,h=>by
  have ih:=Zl (l:=l) (k:=k) O;have h1:=aAG (vk l k) (nI l[k])
  have h2:(nI l[k]).text=l[k].text:=by rw [aic];rfl
  rw [h2] at h1;rw [aiA O,kG O,I5]
  simp only [pz];omega
theorem axi {l:List au} {k:Nat} (h:k<=l.length):(vk l k).length<=pz l:=by
 have h1:=YZ (vk l k);have h2:=Zl h;have h3:=ajV l k
 omega
mutual
/-- Tables whose rows all have cells. -/
def Lg:au->Prop
 | .mk _ _ _ _ _ f r=>wX f∧Ee r
def wX:List au->Prop
 | []=>True
 | x :: l=>Lg x∧wX l
def FJ:aV->Prop
 | .mk _ c=>c≠[]∧FI c
def Ee:List aV->Prop
 | []=>True
 | x :: l=>FJ x∧Ee l
def FH:aX->Prop
 | .mk _ _ f=>wX f
def FI:List aX->Prop
 | []=>True
 | x :: l=>FH x∧FI l
end
theorem ain:∀ {l:List au},wX l->∀ x∈l,Lg x
 | [],_,_,h=>by cases h
 | y :: l,h,x,hx=>by
  rw [wX] at h
  rcases gK.1 hx with rfl|hx
  ·exact h.1
  exact ain h.2 x hx
theorem Zf:∀ {l:List aV},Ee l->∀ x∈l,FJ x
 | [],_,_,h=>by cases h
 | y :: l,h,x,hx=>by
  rw [Ee] at h
  rcases gK.1 hx with rfl|hx
  ·exact h.1
  exact Zf h.2 x hx
theorem ail:∀ {l:List aX},FI l->∀ x∈l,FH x
 | [],_,_,h=>by cases h
 | y :: l,h,x,hx=>by
  rw [FI] at h
  rcases gK.1 hx with rfl|hx
  ·exact h.1
  exact ail h.2 x hx
theorem awI (x:au):Lg x=(wX x.flow∧Ee x.rows):=by cases x;rw [Lg];rfl
theorem aio (x:aV):FJ x=(x.cells≠[]∧FI x.cells):=by cases x;rw [FJ];rfl
theorem awH (x:aX):FH x=wX x.flow:=by cases x;rw [FH];rfl
theorem VP {a b:ByteArray} {i:Nat} (h:i < a.size):gX (a++b) i=gX a i:=by
 rw [pF h,pF (by rw [ByteArray.size_append];omega),ByteArray.getElem_append_left h]
theorem VQ (a b:ByteArray) (j:Nat):gX (a++b) (a.size+j)=gX b j:=by
 by_cases h:j < b.size
 ·rw [pF h,pF (by rw [ByteArray.size_append];omega),ByteArray.getElem_append_right O]
  congr 2
  simp
 unfold gX
 rw [dif_neg (by rw [ByteArray.size_append];omega),dif_neg h]
theorem aej {a b:ByteArray} {t n:Nat}:∀ (f k:Nat) (low high p:Int),(sS a t n f k low high p).2.2=true->sS (a++b) t n f k low high p=sS a t n f k low high p
 | 0,_,_,_,_,_=>rfl
 | f+1,k,low,high,p,h=>by
  unfold sS at h |-
  by_cases h1:n<=k
  ·rw [aD h1,aD h1]
  rw [av h1] at h;rw [av h1,av h1]
  by_cases h2:a.size<=t+k∨gX a (t+k) < low∨high < gX a (t+k)
  ·rw [aD h2] at h;cases h
  rw [av h2] at h
  have h3:t+k < a.size:=by omega
  rw [VP h3,av h2,av (by rw [ByteArray.size_append];omega)];exact aej f (k+1) _ _ _ h
theorem aek (a b:ByteArray) (j n:Nat):∀ (f k:Nat) (low high p:Int),sS (a++b) (a.size+j) n f k low high p=sS b j n f k low high p
 | 0,_,_,_,_=>rfl
 | f+1,k,low,high,p=>by
  unfold sS
  have e:gX (a++b) (a.size+j+k)=gX b (j+k):=by rw [Nat.add_assoc];exact VQ a b (j+k)
  have e2:((a++b).size<=a.size+j+k)↔(b.size<=j+k):=by rw [ByteArray.size_append];omega
  rw [e,aek a b j n f]
  simp only [e2]
theorem aem {a b:ByteArray} {i:Nat} (hi:i < a.size) (h:(mZ a i).2.2=true):mZ (a++b) i=mZ a i:=by
 unfold mZ at h |-
 simp only [VP hi] at h |-
 split
 ·rfl
 rename_i h1
 rw [av h1] at h
 split
 ·rfl
 rename_i h2
 rw [av h2] at h;exact aej _ _ _ _ _ h
theorem aen (a b:ByteArray) (j:Nat):mZ (a++b) (a.size+j)=mZ b j:=by
 unfold mZ
 simp only [VQ,aek]
theorem asc (a b:ByteArray):∀ (n j:Nat),b.size - j=n->uV b j < 0->uV (a++b) (a.size+j) < 0:=by
 intro n
 induction n using Nat.strongRecOn with
 | _ n ih =>
  intro j hn h;rw [uV]
  by_cases hj:j < b.size
  ·rw [uV,dif_pos hj] at h;rw [dif_pos (by rw [ByteArray.size_append];omega)]
   by_cases hd:(mZ b j).2.2=true
   ·rw [dif_pos hd] at h;have hs:=(QJ b j hj).2 hd;rw [dif_pos (by rw [aen];exact hd),aen,Nat.add_assoc];exact ih _ O (j+(mZ b j).2.1) M h
   rw [dif_neg hd] at h;omega
  rw [dif_neg (by rw [ByteArray.size_append];omega)];decide
theorem asb (a b:ByteArray) (hb:uV b 0 < 0):∀ (n i:Nat),a.size - i=n->i<=a.size->uV a i < 0->uV (a++b) i < 0:=by
 intro n
 induction n using Nat.strongRecOn with
 | _ n ih =>
  intro i hn hi h
  by_cases hj:i < a.size
  ·rw [uV,dif_pos hj] at h;rw [uV,dif_pos (by rw [ByteArray.size_append];omega)]
   by_cases hd:(mZ a i).2.2=true
   ·rw [dif_pos hd] at h;have hs:=(QJ a i hj).2 hd;rw [dif_pos (by rw [aem hj hd];exact hd),aem hj hd];exact ih _ O (i+(mZ a i).2.1) M hs.2 h
   rw [dif_neg hd] at h;omega
  obtain rfl:i=a.size:=by omega
  exact asc a b b.size 0 M hb
theorem akp {a b:ByteArray} (ha:sI a=true) (hb:sI b=true):sI (a++b)=true:=by
 unfold sI at *
 exact mP (asb a b (pQ hb) a.size 0 M (lg _) (pQ ha))
theorem adY (a b:ByteArray):∀ (n j:Nat),b.size - j=n->qV (a++b) (a.size+j)=qV b j
 | 0,j,h=>by
  rw [qV.eq_def (a++b),qV.eq_def b,av (show ¬ a.size+j < (a++b).size by rw [ByteArray.size_append];omega),av (show ¬ j < b.size by omega)]
 | n+1,j,h=>by
  have ih:=adY a b n (j+1) O;rw [qV.eq_def (a++b),qV.eq_def b,aD (show a.size+j < (a++b).size by rw [ByteArray.size_append];omega),aD (show j < b.size by omega),VQ,Nat.add_assoc,ih]
theorem adX (a b:ByteArray):∀ (n i:Nat),a.size - i=n->i<=a.size->qV (a++b) i=qV a i+qV b 0
 | 0,i,h,hi=>by
  obtain rfl:i=a.size:=by omega
  rw [qV.eq_def a a.size,av (Nat.lt_irrefl _),gy];exact adY a b b.size 0 rfl
 | n+1,i,h,hi=>by
  have ih:=adX a b n (i+1) O O;rw [qV.eq_def (a++b),qV.eq_def a i,aD (show i < (a++b).size by rw [ByteArray.size_append];omega),aD (show i < a.size by omega),VP (show i < a.size by omega),ih,Nat.add_assoc]
theorem anD {a b:ByteArray} (ha:sI a=true) (hb:sI b=true):uS (a++b)=uS a+uS b:=by
 unfold uS
 rw [aD ha,aD hb,aD (akp ha hb)];exact adX a b a.size 0 M (lg _)
def zD (s:CS) (z:Nat) (r:CR):Prop:=r.2.bR.length<=s.bR.length+z
theorem zD.and {s:CS} {z y q:Nat} {r:CR} {f:CS->CR} (h:zD s z r) (hq:z+y<=q) (hf:∀ s,zD s y (f s)):zD s q (iR r f):=by
 unfold zD at *
 unfold iR
 split
 ·omega
 have:=hf r.2
 omega
theorem zD.zero (s:CS) (e:Int) (q:Nat):zD s q (e,s):=by unfold zD;dsimp only;omega
theorem zD.le {s:CS} {z y:Nat} {r:CR} (h:zD s z r) (hq:z<=y):zD s y r:=by unfold zD at *;omega
structure PG where
 code:Int
 id:Int
 name:ByteArray
 flow:Int
 at_:Int
def PG.dat (x:PG):List Dat:=[li x.code,li x.id,.lf (.string x.name),li x.flow,li x.at_]
abbrev PG.cells (x:PG):List ah:=[vi x.code,vi x.id,.string x.name,vi x.flow,vi x.at_]
def CbU (P:Program) (fv:ah) (Gi:GH) (xs:List AP) (J:Nat->GH->OL->Prop):Prop :=
 ∀ k args G L w,zw xs k args G->(∀ b o,Gi b=some o->G b=some o)->J k G L->gJ G L w->sJ P fv args w (fV w G L fun _ G' L'=>J (k+1) G' L')
theorem C8:Ty prog 137 1 8 [.nilFunc] false:=⟨V,V⟩
theorem mE:Ty prog 41 1 24 [.slice none 0 0] false:=⟨V,V⟩
def O9 (A:List qN):Int:=A.foldl (fun n f=>n+FB f.items) 0
theorem WI:aS 88:=aT func88 M
mutual
/-- The heads of items, rows and cells, in document order. -/
def AO:au->List dN
 | .mk k _ _ _ h f r=>h :: ((if k=6 then ku f else [])++(if k=7 then pU r else []))
def ku:List au->List dN
 | []=>[]
 | x :: r=>AO x++ku r
def Fa:aV->List dN
 | .mk h c=>h :: qH c
def pU:List aV->List dN
 | []=>[]
 | x :: r=>Fa x++pU r
def E8:aX->List dN
 | .mk _ h f=>h :: ku f
def qH:List aX->List dN
 | []=>[]
 | x :: r=>E8 x++qH r
end
theorem ata (x:au):AO x=x.head :: ((if x.kind=6 then ku x.flow else [])++(if x.kind=7 then pU x.rows else [])):=by cases x;rw [AO];rfl
theorem ath (x:aV):Fa x=x.head :: qH x.cells:=by cases x;rw [Fa];rfl
theorem asA (x:aX):E8 x=x.head :: ku x.flow:=by cases x;rw [E8];rfl
def HY (h:dN):AP:=fun args G=>∃ p d y:Option Addr × Nat × Nat,args=[.agg #[aW p,vi h.marks.ins,vi h.marks.move,aW d,aW y]]∧jr G h (aW p) (aW d) (aW y)
theorem XP {G:GH} {h:dN} {pA dA yA:Option Addr} {pn pc dn dc yn yc:Nat} (hr:jr G h (.slice pA pn pc) (.slice dA dn dc) (.slice yA yn yc)):HY h [.agg #[.slice pA pn pc,vi h.marks.ins,vi h.marks.move,.slice dA dn dc,.slice yA yn yc]] G:=⟨(pA,pn,pc),(dA,dn,dc),(yA,yn,yc),M,hr⟩
def Uy (n:Nat):Prop:=∀ (fv:ah) (Gi:GH) (xs:List AP) (J:Nat->GH->OL->Prop) (G:GH) (L:OL) (w0:World) (j:Nat) (l:List au) (v:ah),
 (∀ b o,Gi b=some o->G b=some o)->CbU prog fv Gi xs J->F6 J->J j G L->gJ G L w0->ak G (.sl 11 (l.map au.dat)) v->dH l < n->(∀ i a,(ku l)[i]?=some a->xs[j+i]?=some (HY a)) ->
 Calls prog 88 #[v,fv] w0 (fV w0 G L fun _ G' L'=>J (j+(ku l).length) G' L')
set_option maxHeartbeats 4000000 in
theorem atP {n:Nat} (ih:Uy n) (hn:n<=4294967296):Uy (n+1):=by
 intro fv Gi xs J G L w0 j0 l v hGi hcb zO hJ0 hO hv hz hx0;obtain ⟨A,c,rfl,hc1,hc2,hg⟩:=hv.slice;rw [bS] at *;have hll:=Mh l;refine jA (N:=59) (T:=[(0,_),(1,_)]) func88 M ntmps88 M M hO ?_;intro a H;refine kP H (SR fun _ K1=>Rm M (Rl jq M (Rm M (Kz K1 (SB ?_)))));clear H K1;intro a H;skip;refine eX (ι:=Nat × Nat × OL × GH) (Tc:=[(1,_),(10,_),(11,_)]) (Lc:=[]) (fun gh=>[(12,vi gh.1)]) (fun gh=>[]++gh.2.2.1) (fun gh=>gh.2.2.2) (fun gh=>gh.1<=l.length∧(∀ b o,G b=some o->gh.2.2.2 b=some o)∧Now xs HY J (j0+(ku l).length) gh.2.1 (ku (l.drop gh.1)) gh.2.2.2 gh.2.2.1) (fun gh=>l.length - gh.1) ((0,j0,L,G)) (by exact H.sub ⟨M,M,M,M,aB⟩) ?_ ?_
 ·exact ⟨O,fun _ _ h=>h,⟨hJ0,hx0,M⟩⟩
 clear H;rintro ⟨k,j,Lt,g1⟩ a w hI H;dsimp only at hI H;obtain ⟨hk,hgm,lD⟩:=hI;dsimp only [lca,bM] at H;refine kP H (SR fun _ K2=>Rc M (Kz K2 (SQ fun _ K3=>Cd M ?_ ?_))) <;> clear H K2
 ·intro fT a H
  try have qL:=dT fT
  have hk2:k < l.length:=by omega
  obtain ⟨b,o,pA,pn,pc,dA,dn,dc,yA,yn,yc,fA,fn,fc,rA,rn,rc,rfl,hrow,hhd,hfl,hrw⟩:=Kh hk2 hg;replace hrow:=fun j u hj=>aC hgm (hrow j u hj);replace hhd:=hhd.mono hgm;replace hfl:=hfl.mono hgm;replace hrw:=hrw.mono hgm;have hrn:=hrw.len;rw [bS] at hrn;subst hrn;have hsz1:=Py hk2;rw [rR hk2] at lD
  simp only [ku,ata,jv,qm] at lD
  obtain ⟨x,hx⟩:∃ x,x=l[k]:=⟨_,M⟩;rw [<- hx] at lD hrow hhd hfl hrw hsz1;have hrl:=Pz x.rows;refine kP H (Kc K3 (SQ fun _ K4=>SB (SR fun _ K5=>Ri jq gI M M ?_)));clear H K3;intro a H;refine aU gI (cs:=[_,_,_,_,_,_,_,_,_,_,_]) H wn M M (fun j v hj=>H.hp.aH (hrow j v hj)) M ?_;clear H;intro a H;refine dJ gI H wn M ?_;clear H;intro b5 a w hb5 H;refine bC gI 0 (vs:=[_,_,_,_,_,_,_,_,_,_,_]) H wn M ?_;clear H;intro w H;refine K5 _ _ ?_;clear K5;refine kP H (SR fun _ K6=>Rm M (Rf wN M ?_));clear H;intro a H;refine aU fB (cs:=[_,_,_,_,_]) H wn M M (H.hp.cB 0 M M) M ?_;clear H;intro a H;refine El (Li:=[_]) (L:=Lt) H wn M M (hcb _ _ _ _ _ ⟨_,lD.head,XP hhd⟩ (fun b o h=>hgm b o (hGi b o h)) lD.now (Hp.owns (Li:=[_]) H.hp)) M ?_;clear H;intro v19 Jf UK a w atb uE H;have D9:=lD.step atb;refine K6 _ _ ?_;clear K6;refine kP H (SR fun _ K7=>bQ lM aF 0 M M (Kz K7 (SB (SR fun _ K8=>Rc M (aj K8 M (Cd M ?_ ?_)))))) <;> clear H K7 K8
  ·intro h22 a H
   try have oH:=dT h22
   rw [aD oH,dK,mO] at D9;refine kP H (SC (bQ zL kW 0 M M (Rm M ?_)));clear H;intro a H;refine gM WI (Li:=[_]) (L:=UK) H wn M (ih fv Gi xs J _ _ _ (j+1) x.flow _ (fun b o h=>uE b o (hgm b o (hGi b o h))) hcb zO D9.now (Hp.owns (Li:=[_]) H.hp) (hfl.mono uE) O D9.part) M ?_;clear H;intro v27 G27 akZ a w atc agG H;refine kH H (Kn K4 (SC (Rd M (Rm M ?_))));clear H K4;intro a H;refine aG ?_;refine dY ((k+1,j+1+(ku x.flow).length,akZ,G27)) (by exact (H.fH (Pl:=[_]) (eD:=[]) [] Z M).sub ⟨M,M,M,M,aB⟩) ?_
   (try dsimp only);exact ⟨O,fun b o h=>agG b o (uE b o (hgm b o h)),D9.jump atc⟩
  intro h22 a H
  try have oH:=dF h22
  rw [av oH,mO] at D9;refine kP H (SR fun _ K9=>Rc M (aj K9 M (Cd M ?_ ?_))) <;> clear H K9
  ·intro fZ a H
   try have p28:=dT fZ
   rw [aD p28] at D9;refine kP H (SR fun _ aR=>bQ uw uL 0 M M (Rl nO M (Rm M (Kz aR (SB ?_)))));clear H aR;intro a H;skip;refine eX (ι:=Nat × Nat × OL × GH) (Tc:=[(1,_),(10,_),(11,_),(12,_),(31,_),(32,_)]) (Lc:=[(_,_)]) (fun gh=>[(33,vi gh.1)]) (fun gh=>[]++gh.2.2.1) (fun gh=>gh.2.2.2) (fun gh=>gh.1<=x.rows.length∧(∀ b o,Jf b=some o->gh.2.2.2 b=some o)∧Now xs HY J (j0+(ku l).length) gh.2.1 (pU (x.rows.drop gh.1)++ku (l.drop (k+1))) gh.2.2.2 gh.2.2.1) (fun gh=>x.rows.length - gh.1) ((0,j+1,UK,Jf)) (by exact H.sub ⟨M,M,M,M,M,M,M,aB⟩) ?_ ?_
   ·exact ⟨O,fun _ _ h=>h,D9⟩
   clear H;rintro ⟨rk,j3,Lt3,g3⟩ a w hI H;dsimp only at hI H;obtain ⟨hrk,hg3,Fq⟩:=hI;dsimp only [lca,bM] at H;refine kP H (SR fun _ bq=>Rc M (Kz bq (SQ fun _ bP=>Cd M ?_ ?_))) <;> clear H bq
   ·intro fq a H
    try have p34:=dT fq
    have hk3:rk < x.rows.length:=by omega
    obtain ⟨b2,o2,qA,qn,qc,eA,en,ec,zA,zn,zc,cA,cn,cc,rfl,hrow,Im,hcl⟩:=Tq hk3 ((hrw.mono uE).mono hg3).at_;have hcn:=hcl.len;rw [bS] at hcn;subst hcn;have hsz2:=Uj hk3;have hcs:=Px x.rows[rk].cells;rw [rR hk3] at Fq
    simp only [pU,ath,jv,qm] at Fq
    obtain ⟨y,hy⟩:∃ y,y=x.rows[rk]:=⟨_,M⟩;rw [<- hy] at Fq hrow Im hcl hsz2 hcs;refine kP H (Kc bP (SQ fun _ bU=>SB (SR fun _ dh=>Ri nO jK M M ?_)));clear H bP;intro a H;refine aU jK (cs:=[_,_,_,_,_,_]) H wn M M (fun j v hj=>H.hp.aH (hrow j v hj)) M ?_;clear H;intro a H;refine dJ jK H wn M ?_;clear H;intro b7 a w xV H;refine bC jK 0 (vs:=[_,_,_,_,_,_]) H wn M ?_;clear H;intro w H;refine dh _ _ ?_;clear dh;refine kP H (SR fun _ dZ=>Rm M (Rf Ka M ?_));clear H;intro a H;refine aU fB (cs:=[_,_,_,_,_]) H wn M M (H.hp.cB 0 M M) M ?_;clear H;intro a H;refine El (Li:=[_,_]) (L:=Lt3) H wn M M (hcb _ _ _ _ _ ⟨_,Fq.head,XP Im⟩ (fun b o h=>hg3 b o (uE b o (hgm b o (hGi b o h)))) Fq.now (Hp.owns (Li:=[_,_]) H.hp)) M ?_;clear H;intro v40 Ml ala a w atd yX H;have aut:=Fq.step atd;refine dZ _ _ ?_;clear dZ;refine kP H (SR fun _ eu=>bQ zM Ad 0 M M (Rl qh M (Rm M (Kz eu (SB ?_)))));clear H eu;intro a H;skip;refine eX (ι:=Nat × Nat × OL × GH) (Tc:=[(1,_),(10,_),(11,_),(12,_),(31,_),(32,_),(33,_),(42,_),(43,_)]) (Lc:=[(_,_),(_,_)]) (fun gh=>[(44,vi gh.1)]) (fun gh=>[]++gh.2.2.1) (fun gh=>gh.2.2.2) (fun gh=>gh.1<=y.cells.length∧(∀ b o,Ml b=some o->gh.2.2.2 b=some o)∧Now xs HY J (j0+(ku l).length) gh.2.1 (qH (y.cells.drop gh.1)++(pU (x.rows.drop (rk+1))++ku (l.drop (k+1)))) gh.2.2.2 gh.2.2.1) (fun gh=>y.cells.length - gh.1) ((0,j3+1,ala,Ml)) (by exact H.sub ⟨M,M,M,M,M,M,M,M,M,M,aB⟩) ?_ ?_
    ·exact ⟨O,fun _ _ h=>h,aut⟩
    clear H;rintro ⟨ck,j4,Lt4,g4⟩ a w hI H;dsimp only at hI H;obtain ⟨hck,hg4,Ie⟩:=hI;dsimp only [lca,bM] at H;refine kP H (SR fun _ dS=>Rc M (Kz dS (SQ fun _ eY=>Cd M ?_ ?_))) <;> clear H dS
    ·intro h45 a H
     try have p45:=dT h45
     have hk4:ck < y.cells.length:=by omega
     obtain ⟨b3,o3,sA,sn,sc,tA,tn,tc,uA,un,uc,gA,gn,gc,rfl,hrow,hch,hcf⟩:=Qy hk4 ((hcl.mono yX).mono hg4).at_;have aCp:=Ui hk4;rw [rR hk4] at Ie
     simp only [qH,asA,jv,qm] at Ie
     refine kP H (Kc eY (SQ fun _ gU=>SB (SR fun _ fJ=>Ri qh kE M M ?_)));clear H eY;intro a H;refine aU kE (cs:=[_,_,_,_,_,_,_]) H wn M M (fun j v hj=>H.hp.aH (hrow j v hj)) M ?_;clear H;intro a H;refine dJ kE H wn M ?_;clear H;intro b9 a w uz H;refine bC kE 0 (vs:=[_,_,_,_,_,_,_]) H wn M ?_;clear H;intro w H;refine fJ _ _ ?_;clear fJ;refine kP H (SR fun _ iD=>Rm M (Rf Ke M ?_));clear H;intro a H;refine aU fB (cs:=[_,_,_,_,_]) H wn M M (H.hp.cB 0 M M) M ?_;clear H;intro a H;refine El (Li:=[_,_,_]) (L:=Lt4) H wn M M (hcb _ _ _ _ _ ⟨_,Ie.head,XP hch⟩ (fun b o h=>hg4 b o (yX b o (hg3 b o (uE b o (hgm b o (hGi b o h)))))) Ie.now (Hp.owns (Li:=[_,_,_]) H.hp)) M ?_;clear H;intro v51 G51 alb a w ate KG H;have X9:=Ie.step ate;refine iD _ _ ?_;clear iD;refine kP H (SC (bQ GZ kW 0 M M (Rm M ?_)));clear H;intro a H;refine gM WI (Li:=[_,_,_]) (L:=alb) H wn M (ih fv Gi xs J _ _ _ (j4+1) y.cells[ck].flow _ (fun b o h=>KG b o (hg4 b o (yX b o (hg3 b o (uE b o (hgm b o (hGi b o h))))))) hcb zO X9.now (Hp.owns (Li:=[_,_,_]) H.hp) (hcf.mono KG) O X9.part) M ?_;clear H;intro v55 PU alc a w atf Bb H;refine kH H (Kn gU (SC (Rd M (Rm M ?_))));clear H gU;intro a H;refine aG ?_;refine dY ((ck+1,j4+1+(ku y.cells[ck].flow).length,alc,PU)) (by exact (H.fH (Pl:=[_,_,_]) (eD:=[_,_]) [1,2] Z M).sub ⟨M,M,M,M,M,M,M,M,M,M,aB⟩) ?_
     (try dsimp only);exact ⟨O,fun b o h=>Bb b o (KG b o (hg4 b o h)),X9.jump atf⟩
    intro h45 a H
    try have p45:=dF h45
    refine dQ ?_;refine bU _ _ ?_;clear bU;refine kP H (SC (Rd M (Rm M ?_)));clear H;intro a H;refine aG ?_;refine dY ((rk+1,j4,Lt4,g4)) (by exact (H.fH (Pl:=[_,_]) (eD:=[_]) [1] Z M).sub ⟨M,M,M,M,M,M,M,aB⟩) ?_
    (try dsimp only);exact ⟨O,fun b o h=>hg4 b o (yX b o (hg3 b o h)),by rw [uh O,qH,mO] at Ie;exact Ie⟩
   intro fq a H
   try have p34:=dF fq
   refine dQ ?_;refine K4 _ _ ?_;clear K4;refine kP H (SC (Rd M (Rm M ?_)));clear H;intro a H;refine aG ?_;refine dY ((k+1,j3,Lt3,g3)) (by exact (H.fH (Pl:=[_]) (eD:=[]) [] Z M).sub ⟨M,M,M,M,aB⟩) ?_
   (try dsimp only);exact ⟨O,fun b o h=>hg3 b o (uE b o (hgm b o h)),by rw [uh O,pU,mO] at Fq;exact Fq⟩
  intro fZ a H
  try have p28:=dF fZ
  rw [av p28,mO] at D9;refine kP H (Kc K4 (SC (Rd M (Rm M ?_))));clear H K4;intro a H;refine aG ?_;refine dY ((k+1,j+1,UK,Jf)) (by exact (H.fH (Pl:=[_]) (eD:=[]) [] Z M).sub ⟨M,M,M,M,aB⟩) ?_
  (try dsimp only);exact ⟨O,fun b o h=>uE b o (hgm b o h),D9⟩
 intro fT a H
 try have qL:=dF fT
 refine dQ ?_;refine (leave0 H results88 ?_).2
 exact H.hp.mW (L':=Lt) (by repeat (first|exact lX _|apply List.Sublist.cons)) (by
   rw [uh O,ku] at lD;have:=lD.len
   simp only [List.length_nil,zF] at this
   rw [<- this];exact lD.now)
theorem agv:∀ n:Nat,n<=4294967297->Uy n
 | 0,_=>fun _ _ _ _ _ _ _ _ _ _ _ _ _ _ _ _ h=>absurd h O
 | n+1,hn=>atP (agv n O) O
theorem aaH {Q:au->Prop} (hj:∀ z y,Q z->Q y->pW z y->Q (mU z y)) {out:List au} {y:au} (hy:Q y) (ho:∀ z∈out,Q z):∀ z∈addN out y,Q z:=by
 by_cases hd:qX y
 ·rw [Jt hd];exact ho
 by_cases h:∃ o z,out=o++[z]∧pW z y
 ·obtain ⟨o,z,rfl,hz⟩:=h;rw [BR hd hz];intro x hx
  rcases jQ.1 hx with h|h
  ·exact ho x (List.mem_append_left _ h)
  rw [oC.1 h];exact hj z y (ho z (by simp)) hy hz
 rw [Dn hd fun o z e hz=>h ⟨o,z,e,hz⟩];intro x hx
 rcases jQ.1 hx with h|h
 ·exact ho x h
 rw [oC.1 h];exact hy
theorem WY {Q:au->Prop} (hj:∀ z y,Q z->Q y->pW z y->Q (mU z y)):∀ (A out:List au),(∀ y∈A,Q y)->(∀ z∈out,Q z)->∀ z∈A.foldl addN out,Q z
 | [],_,_,ho=>ho
 | y :: A,out,hA,ho=>WY hj A (addN out y) (fun x hx=>hA x (gW _ hx)) (aaH hj (hA y dX) ho)
theorem fold_add {γ:Type} {F:List au->γ} {op:γ->γ->γ} {Q:au->Prop} (hF:∀ a b,F (a++b)=op (F a) (F b)) (hj:∀ z y,Q z->Q y->pW z y->Q (mU z y)) (hd:∀ y,Q y->¬ qX y)
  (hg:∀ o z y,Q z->Q y->pW z y->F (o++[mU z y])=op (F (o++[z])) (F [y])):∀ (A out:List au),(∀ y∈A,Q y)->(∀ z∈out,Q z)->F (A.foldl addN out)=F (out++A)
 | [],out,_,_=>by rw [ig];rfl
 | y :: A,out,hA,ho=>by
  have hy:=hA y dX;rw [List.foldl_cons,fold_add hF hj hd hg A (addN out y) (fun x hx=>hA x (gW _ hx)) (aaH hj hy ho),show out++y :: A=(out++[y])++A by simp,hF,hF (out++[y])]
  congr 1
  by_cases h:∃ o z,out=o++[z]∧pW z y
  ·obtain ⟨o,z,rfl,hz⟩:=h;rw [BR (hd y hy) hz,hg o z y (ho z (by simp)) hy hz,<- hF]
  rw [Dn (hd y hy) fun o z e hz=>h ⟨o,z,e,hz⟩]
theorem W9 {x:au} (h:lu x=0) (hk:x.kind=1):x.code=0∧x.id=0∧sI x.text=true∧vT x.text=false∧x.flow=[]∧x.rows=[]:=by
 have h0:=He h
 unfold lu at h
 have hc:xL x=false:=by simp [xL,hk]
 have hn:yj x=false:=by simp [yj,hk]
 split at h
 ·cases h
 split at h
 ·cases h
 rename_i h2
 split at h
 ·cases h
 split at h
 ·cases h
 rename_i h4
 rw [hk] at h4
 simp only [wP,hc,hn,Bool.not_false,MF,Bool.or_eq_true,not_or,Bool.not_eq_true,vO,oN] at h2
 refine ⟨h2.1.1.1.1,h2.1.1.1.2,h0.1,?_,h0.2.2.2 O,h0.2.2.1 O⟩
 cases he:vT x.text
 ·rfl
 rw [he] at h4;simp at h4
theorem aeC (s:ByteArray):vT s=decide (s.size=0):=by
 unfold vT
 rw [ByteArray.toList_eq,ByteArray.toList_eq,rT,oM,beq_iff_eq]
 constructor
 ·intro h;have:=cZ List.length h
  simpa using this
 intro h;exact List.eq_nil_of_length_eq_zero (by rw [vM];exact h)
theorem asi {z y:au} (hz:lu z=0) (hy:lu y=0) (kz:z.kind=1) (ky:y.kind=1):lu (mU z y)=0:=by
 obtain ⟨a1,a2,a3,a4,a5,a6⟩:=W9 hz kz;obtain ⟨b1,b2,b3,b4,b5,b6⟩:=W9 hy ky;have hv:=akp a3 b3
 have he:vT (z.text++y.text)=false:=by
  rw [aeC,vO] at a4 |-;rw [ByteArray.size_append];omega
 unfold lu mU codeOk wP Aa Ae xL yj
 simp only [au.kind,au.code,au.id,au.text,au.flow,au.rows] at *
 simp [kz,a1,a2,a5,a6,hv,he,Aa,xL,yj,Ae,au.kind,au.code]
theorem asj {k c i:Int} {tx:ByteArray} {h:dN} {f f':List au} {r r':List aV} (hx:lu (.mk k c i tx h f r)=0) (hf:k≠6->f=[]->f'=[]) (hr:r'.length=r.length):lu (.mk k c i tx h f' r')=0:=by
 have h0:=(He hx).2.2.2
 have e:wP (.mk k c i tx h f' r')=wP (.mk k c i tx h f r):=by
  have hfl:k≠6->f'.length=f.length:=fun h6=>by rw [hf h6 (h0 h6),show f=[] from h0 h6]
  rw [rT]
  simp only [wP,Bool.or_eq_true,iL,oM]
  have c1:xL (.mk k c i tx h f' r')=xL (.mk k c i tx h f r):=rfl;have c2:yj (.mk k c i tx h f' r')=yj (.mk k c i tx h f r):=rfl;have c3:Ae (.mk k c i tx h f' r')=Ae (.mk k c i tx h f r):=rfl;rw [c1,c2,c3]
  show (((((_∧c≠0)∨(_∧i≠0))∨(_∧(!vT tx)=true))∨(k≠6∧0 < (f'.length:Int)))∨(k≠7∧0 < (r'.length:Int)))↔(((((_∧c≠0)∨(_∧i≠0))∨(_∧(!vT tx)=true))∨(k≠6∧0 < (f.length:Int)))∨(k≠7∧0 < (r.length:Int)))
  rw [hr]
  by_cases h6:k=6
  ·simp [h6]
  rw [hfl h6]
 have e2:codeOk (.mk k c i tx h f' r')=codeOk (.mk k c i tx h f r):=rfl;have e3:Aa (.mk k c i tx h f' r')=Aa (.mk k c i tx h f r):=rfl
 unfold lu at hx |-
 rw [e,e2,e3];exact hx
theorem SH {C:bE} {body note:Bool} {t:Int} (x:au):mq C body note t x↔lu x=0∧SL body note t x.kind x.id∧iG C x.kind x.head=0∧(x.kind=6->iU C false true t x.flow)∧(x.kind=7->(x.rows.length≠0∧x.rows.length<=256)∧kL C note (t+1) x.rows):=by
 cases x;rw [mq];rfl
theorem Zi {C:bE} {body note:Bool} {t:Int} (z y:au) (hz:mq C body note t z) (hy:mq C body note t y) (hj:pW z y):mq C body note t (mU z y):=by
 rw [SH] at *;refine ⟨asi hz.1 hy.1 hj.2.1 hj.1,hz.2.1,hz.2.2.1,hz.2.2.2.1,hz.2.2.2.2⟩
theorem aiu {C:bE} {body note:Bool} {t:Int} (y:au) (hy:mq C body note t y):¬ qX y:=by
 rw [SH] at hy;rintro (⟨h1,h2⟩|⟨h1,h2⟩)
 ·exact (hy.2.2.2.2 h1).1.1 h2
 have:=(W9 hy.1 h1).2.2.2.1;rw [aeC] at this
 simp [h2] at this
theorem Zk {C:bE} {body note:Bool} {t:Int} {A:List au} (h:iU C body note t A):iU C body note t (A.foldl addN []):=Eh.2 (WY Zi A [] (Eh.1 h) (fun _ h=>by cases h))
mutual
theorem axf (C:bE) (body note:Bool) (t:Int):∀ x:au,mq C body note t x->mq C body note t (nI x)
 | .mk k c i tx h f r,hx=>by
  have hf:=IJ C false true t f;have hr:=aix C note (t+1) r;rw [mq] at hx;rw [nI,mq];exact ⟨asj hx.1 (fun _ e=>by rw [e];rfl) (by rw [FE,bS]),hx.2.1,hx.2.2.1,fun e=>Zk (hf (hx.2.2.2.1 e)),fun e=>⟨by rw [FE,bS];exact (hx.2.2.2.2 e).1,hr (hx.2.2.2.2 e).2⟩⟩
theorem axg (C:bE) (note:Bool) (t:Int):∀ x:aV,pY C note t x->pY C note t (nR x)
 | .mk h cs,hx=>by
  have hc:=aiw C note t cs;rw [pY] at hx;rw [nR,pY];exact ⟨by rw [IE,bS];exact hx.1,hc hx.2⟩
theorem axe (C:bE) (note:Bool) (t:Int):∀ x:aX,pX C note t x->pX C note t (nC x)
 | .mk i h f,hx=>by
  have hf:=IJ C false note t f;rw [pX] at hx;rw [nC,pX];exact ⟨hx.1,Zk (hf hx.2)⟩
theorem IJ (C:bE) (body note:Bool) (t:Int):∀ l:List au,iU C body note t l->iU C body note t (mV l)
 | [],_=>by rw [mV,iU];trivial
 | x :: l,h=>by
  rw [iU] at h;rw [mV,iU];exact ⟨axf C body note t x h.1,IJ C body note t l h.2⟩
theorem aix (C:bE) (note:Bool) (t:Int):∀ l:List aV,kL C note t l->kL C note t (lG l)
 | [],_=>by rw [lG,kL];trivial
 | x :: l,h=>by
  rw [kL] at h;rw [lG,kL];exact ⟨axg C note t x h.1,aix C note t l h.2⟩
theorem aiw (C:bE) (note:Bool) (t:Int):∀ l:List aX,lH C note t l->lH C note t (lF l)
 | [],_=>by rw [lF,lH];trivial
 | x :: l,h=>by
  rw [lH] at h;rw [lF,lH];exact ⟨axe C note t x h.1,aiw C note t l h.2⟩
end
theorem Bp (l:List au):kK l=(mV l).foldl addN []:=by simp [kK,vk,Le]
theorem aiy {C:bE} {body note:Bool} {t:Int} {l:List au} (h:iU C body note t l):iU C body note t (kK l):=by rw [Bp];exact Zk (IJ C body note t l h)
theorem Ox:∀ a b:List au,jD (a++b)=jD a++jD b
 | [],b=>by rw [jD];rfl
 | x :: a,b=>by rw [qm,jD,jD,Ox a b,jv]
theorem O5:∀ a b:List au,jY (a++b)=jY a+jY b
 | [],b=>by rw [jY,gy];rfl
 | x :: a,b=>by rw [qm,jY,jY,O5 a b,Nat.add_assoc]
theorem YA {x:au} (h:x.kind=1):rC x=[]:=by
 cases x;dsimp only [au.kind] at h;subst h;simp [rC]
theorem aae {x:au} (h:x.kind=1):uI x=uS x.text:=by
 cases x;dsimp only [au.kind] at h;subst h;simp [uI,au.text]
theorem YD {C:bE} {body note:Bool} {t:Int} {A:List au} (h:iU C body note t A):jD (A.foldl addN [])=jD A :=
 (fold_add (F:=jD) Ox (Zi (C:=C) (body:=body) (note:=note) (t:=t)) aiu (fun o z y _ _ hj=>by
  rw [Ox,Ox];simp only [jD];rw [YA hj.2.1,YA hj.1,YA (x:=mU z y) hj.2.1];simp) A [] (Eh.1 h) (fun _ h=>by cases h))
theorem aaf {C:bE} {body note:Bool} {t:Int} {A:List au} (h:iU C body note t A):jY (A.foldl addN [])=jY A :=
 (fold_add (F:=jY) O5 (Zi (C:=C) (body:=body) (note:=note) (t:=t)) aiu (fun o z y hz hy hj=>by
  rw [SH] at hz hy
  rw [O5,O5];simp only [jY];rw [aae hj.2.1,aae hj.1,aae (x:=mU z y) hj.2.1,show (mU z y).text=z.text++y.text from rfl,anD (He hz.1).1 (He hy.1).1];omega) A [] (Eh.1 h) (fun _ h=>by cases h))
theorem Gx {p:Prop} (h:p:=by
 exact ⟨M,M⟩):p:=h
mutual
theorem avO (C:bE) (body note:Bool) (t:Int):∀ x:au,mq C body note t x->rC (nI x)=rC x∧uI (nI x)=uI x
 | .mk k c i tx h f r,hx=>by
  have hf:=Sd C false true t f;have hr:=ahG C note (t+1) r;rw [mq] at hx;rw [nI,rC,rC,uI,uI]
  by_cases h6:k=6
  ·subst h6;have ho:=hx.2.2.2.1 M;have hn:=IJ C false true t f ho
   simp only [if_true,av (show ¬ (6:Int)=7 by decide)]
   rw [YD hn,aaf hn,(hf ho).1,(hf ho).2];exact Gx
  by_cases h7:k=7
  ·subst h7;have ho:=(hx.2.2.2.2 M).2
   simp only [if_true,av (show ¬ (7:Int)=6 by decide)]
   rw [(hr ho).1,(hr ho).2];exact Gx
  simp only [av h6,av h7]
  exact ⟨aB,aB⟩
theorem avP (C:bE) (note:Bool) (t:Int):∀ x:aV,pY C note t x->wu (nR x)=wu x∧uR (nR x)=uR x
 | .mk h cs,hx=>by
  have hc:=ahF C note t cs;rw [pY] at hx;rw [nR,wu,wu,uR,uR];exact hc hx.2
theorem avN (C:bE) (note:Bool) (t:Int):∀ x:aX,pX C note t x->wT (nC x)=wT x∧uC (nC x)=uC x
 | .mk i h f,hx=>by
  have hf:=Sd C false note t f;rw [pX] at hx;have hn:=IJ C false note t f hx.2;rw [nC,wT,wT,uC,uC,YD hn,aaf hn,(hf hx.2).1,(hf hx.2).2];exact Gx
theorem Sd (C:bE) (body note:Bool) (t:Int):∀ l:List au,iU C body note t l->jD (mV l)=jD l∧jY (mV l)=jY l
 | [],_=>by rw [mV];exact ⟨M,M⟩
 | x :: l,h=>by
  rw [iU] at h;have h1:=avO C body note t x h.1;have h2:=Sd C body note t l h.2;rw [mV,jD,jD,jY,jY,h1.1,h1.2,h2.1,h2.2];exact Gx
theorem ahG (C:bE) (note:Bool) (t:Int):∀ l:List aV,kL C note t l->nV (lG l)=nV l∧pE (lG l)=pE l
 | [],_=>by rw [lG];exact ⟨M,M⟩
 | x :: l,h=>by
  rw [kL] at h;have h1:=avP C note t x h.1;have h2:=ahG C note t l h.2;rw [lG,nV,nV,pE,pE,h1.1,h1.2,h2.1,h2.2];exact Gx
theorem ahF (C:bE) (note:Bool) (t:Int):∀ l:List aX,lH C note t l->oV (lF l)=oV l∧qg (lF l)=qg l
 | [],_=>by rw [lF];exact ⟨M,M⟩
 | x :: l,h=>by
  rw [lH] at h;have h1:=avN C note t x h.1;have h2:=ahF C note t l h.2;rw [lF,oV,oV,qg,qg,h1.1,h1.2,h2.1,h2.2];exact Gx
end
theorem avv {C:bE} {body note:Bool} {t:Int} {l:List au} (h:iU C body note t l):jD (kK l)=jD l∧jY (kK l)=jY l:=by
 have hn:=IJ C body note t l h;rw [Bp,YD hn,aaf hn];exact Sd C body note t l h
theorem aAE (z y:au):dD (mU z y).dat<=dD z.dat+dD y.dat:=by
 rw [au.rW,au.rW,au.rW]
 simp only [mU,au.kind,au.code,au.id,au.text,au.head,au.flow,au.rows,dD,nA,ByteArray.size_append]
 omega
theorem PD (a b:List au):dH (a++b)=dH a+dH b:=by rw [dH,kR,LW]
theorem aau (y:au):dH [y]=1+dD y.dat:=by simp [dH,fu]
theorem aBk (out:List au) (y:au):dH (addN out y)<=dH out+dH [y]:=by
 rcases aaI out y with e|e|⟨o,z,rfl,-,-,e⟩ <;> rw [e]
 ·omega
 ·rw [PD];exact eG _
 have:=aAE z y;rw [PD,PD,aau,aau,aau];omega
theorem Uk:∀ (A out:List au),dH (A.foldl addN out)<=dH out+dH A
 | [],out=>Nat.le_add_right _ _
 | y :: A,out=>by
  have h1:=Uk A (addN out y);have h2:=aBk out y;have h3:=PD [y] A;rw [List.singleton_append] at h3;rw [List.foldl_cons,h3];omega
theorem VL {p:Prop} (h:p:=by
 induction a with
 | nil=>simp [dD]
 | cons x a ih=>simp only [qm,dD,ih];omega):p:=h
mutual
theorem aBm:∀ x:au,dD (nI x).dat<=dD x.dat
 | .mk k c i tx h f r=>by
  have hf:=Ul f;have hr:=akI r;have hd:=Uk (mV f) [];have h0:dH []=0:=rfl
  have OX:∀ (a b:List Dat),dD (a++b)=dD a+dD b:=fun a b=>by
   exact VL
  rw [nI,au.rW,au.rW]
  simp only [au.kind,au.code,au.id,au.text,au.head,au.flow,au.rows,dD,nA,OX]
  unfold dH at *
  unfold iK at hr
  omega
theorem aBn:∀ x:aV,dD (nR x).dat<=dD x.dat
 | .mk h cs=>by
  have hc:=akH cs
  have OX:∀ (a b:List Dat),dD (a++b)=dD a+dD b:=fun a b=>by
   exact VL
  rw [nR,aV.rW,aV.rW]
  simp only [aV.head,aV.cells,dD,nA,OX]
  unfold ji at hc
  omega
theorem aBl:∀ x:aX,dD (nC x).dat<=dD x.dat
 | .mk i h f=>by
  have hf:=Ul f;have hd:=Uk (mV f) [];have h0:dH []=0:=rfl
  have OX:∀ (a b:List Dat),dD (a++b)=dD a+dD b:=fun a b=>by
   exact VL
  rw [nC,aX.rW,aX.rW]
  simp only [aX.id,aX.head,aX.flow,dD,nA,OX]
  unfold dH at *
  omega
theorem Ul:∀ l:List au,dH (mV l)<=dH l
 | []=>by rw [mV];exact eG _
 | x :: l=>by
  have h1:=aBm x;have h2:=Ul l;rw [mV]
  simp only [dH,fD,fu] at *
  omega
theorem akI:∀ l:List aV,iK (lG l)<=iK l
 | []=>by rw [lG];exact eG _
 | x :: l=>by
  have h1:=aBn x;have h2:=akI l;rw [lG]
  simp only [iK,fD,fu] at *
  omega
theorem akH:∀ l:List aX,ji (lF l)<=ji l
 | []=>by rw [lF];exact eG _
 | x :: l=>by
  have h1:=aBl x;have h2:=akH l;rw [lF]
  simp only [ji,fD,fu] at *
  omega
end
theorem aat (l:List au):dH (kK l)<=dH l:=by
 have h1:=Uk (mV l) [];have h2:=Ul l;have h0:dH []=0:=rfl;rw [Bp];omega
section
mutual
def nu (acc rej:Int->Bool):au->List au
 | .mk k c i tx h f r=>if lZ acc rej h then [] else if k=6 then [.mk k c i tx (iI acc rej h) (dW acc rej f) r] else if k=7 then (if (gT acc rej r).length=0 then [] else [.mk k c i tx (iI acc rej h) f (gT acc rej r)]) else [.mk k c i tx (iI acc rej h) f r]
def pq (acc rej:Int->Bool):aV->List aV
 | .mk h cs=>if lZ acc rej h then [] else if (gD acc rej cs).length=0 then [] else [.mk (iI acc rej h) (gD acc rej cs)]
def pI (acc rej:Int->Bool):aX->List aX
 | .mk i h f=>if lZ acc rej h then [] else [.mk i (iI acc rej h) (dW acc rej f)]
def dW (acc rej:Int->Bool):List au->List au
 | []=>[]
 | x :: l=>nu acc rej x++dW acc rej l
def gT (acc rej:Int->Bool):List aV->List aV
 | []=>[]
 | x :: l=>pq acc rej x++gT acc rej l
def gD (acc rej:Int->Bool):List aX->List aX
 | []=>[]
 | x :: l=>pI acc rej x++gD acc rej l
end
variable {acc rej:Int->Bool}
theorem Tx (x:au):nu acc rej x=if lZ acc rej x.head then [] else if x.kind=6 then [.mk x.kind x.code x.id x.text (iI acc rej x.head) (dW acc rej x.flow) x.rows] else if x.kind=7 then (if (gT acc rej x.rows).length=0 then [] else [.mk x.kind x.code x.id x.text (iI acc rej x.head) x.flow (gT acc rej x.rows)]) else [.mk x.kind x.code x.id x.text (iI acc rej x.head) x.flow x.rows]:=by cases x;rw [nu];rfl
theorem ajd (x:aV):pq acc rej x=if lZ acc rej x.head then [] else if (gD acc rej x.cells).length=0 then [] else [.mk (iI acc rej x.head) (gD acc rej x.cells)]:=by cases x;rw [pq];rfl
theorem aja (x:aX):pI acc rej x=if lZ acc rej x.head then [] else [.mk x.id (iI acc rej x.head) (dW acc rej x.flow)]:=by cases x;rw [pI];rfl
theorem Tz:∀ a b:List au,dW acc rej (a++b)=dW acc rej a++dW acc rej b
 | [],b=>by simp [dW]
 | x :: a,b=>by simp [dW,Tz a b]
theorem ZA:∀ a b:List aV,gT acc rej (a++b)=gT acc rej a++gT acc rej b
 | [],b=>by simp [gT]
 | x :: a,b=>by simp [gT,ZA a b]
theorem Zy:∀ a b:List aX,gD acc rej (a++b)=gD acc rej a++gD acc rej b
 | [],b=>by simp [gD]
 | x :: a,b=>by simp [gD,Zy a b]
theorem LG {l:List au} {k:Nat} (h:k < l.length):dW acc rej (l.take (k+1))=dW acc rej (l.take k)++nu acc rej l[k]:=by rw [kG h,Tz];simp [dW]
theorem TA {l:List aV} {k:Nat} (h:k < l.length):gT acc rej (l.take (k+1))=gT acc rej (l.take k)++pq acc rej l[k]:=by rw [kG h,ZA];simp [gT]
theorem Tt {l:List aX} {k:Nat} (h:k < l.length):gD acc rej (l.take (k+1))=gD acc rej (l.take k)++pI acc rej l[k]:=by rw [kG h,Zy];simp [gD]
theorem ayF (x:au):(nu acc rej x).length<=1:=by rw [Tx];(repeat' split) <;> simp
theorem ayH (x:aV):(pq acc rej x).length<=1:=by rw [ajd];(repeat' split) <;> simp
theorem ayC (x:aX):(pI acc rej x).length<=1:=by rw [aja];split <;> simp
theorem ajc:∀ l:List au,(dW acc rej l).length<=l.length
 | []=>by simp [dW]
 | x :: l=>by rw [dW,iW];have:=ayF (acc:=acc) (rej:=rej) x;have:=ajc l;simp only [lW];omega
theorem ZB:∀ l:List aV,(gT acc rej l).length<=l.length
 | []=>by simp [gT]
 | x :: l=>by rw [gT,iW];have:=ayH (acc:=acc) (rej:=rej) x;have:=ZB l;simp only [lW];omega
theorem Zz:∀ l:List aX,(gD acc rej l).length<=l.length
 | []=>by simp [gD]
 | x :: l=>by rw [gD,iW];have:=ayC (acc:=acc) (rej:=rej) x;have:=Zz l;simp only [lW];omega
theorem Zu:∀ l:List aO,fu (l.map aO.dat)=3*l.length
 | []=>by simp [fu]
 | p :: l=>by rw [fD,fu,Zu l];simp [aO.dat,dD,nA];omega
theorem Wq:∀ l:List gG,fu (l.map gG.dat)=3*l.length
 | []=>by simp [fu]
 | p :: l=>by rw [fD,fu,Wq l];simp [gG.dat,dD,nA];omega
theorem Y4:∀ l:List bZ,fu (l.map bZ.dat)=5*l.length
 | []=>by simp [fu]
 | p :: l=>by rw [fD,fu,Y4 l];simp [bZ.dat,dD,nA];omega
theorem aeh (props:List aO):∀ (L:List (Int × List bZ)) (s:List aO × List bZ),(um acc rej props L s).1.length<=s.1.length+L.length∧(um acc rej props L s).2.length<=s.2.length+(L.flatMap Prod.snd).length
 | [],s=>by simp [um]
 | (k,l) :: r,s=>by
  rw [um];obtain ⟨h1,h2⟩:=aeh props r (vI s.1 k (mJ acc rej props k l).2,s.2++(mJ acc rej props k l).1);have h3:=akv s.1 k (mJ acc rej props k l).2;have h4:=Xd acc rej props k l;dsimp only at h1 h2;rw [iW] at h2
  simp only [lW,List.flatMap_cons,iW]
  omega
theorem asv {f:Nat} {l:List bZ} (h:l.length<=f):(qY f l).length<=l.length:=by
 obtain ⟨h1,h2⟩:=Hg f l h
 have key:∀ (L:List (Int × List bZ)),(∀ q∈L,q.2≠[])->L.length<=(L.flatMap Prod.snd).length:=by
  intro L
  induction L with
  | nil=>intro _;exact lg _
  | cons q L ih =>
   intro hq;have:=ih fun x hx=>hq x (gW _ hx);have h3:=List.length_pos_iff.2 (hq q dX)
   simp only [lW,List.flatMap_cons,iW];omega
 have:=key _ h2
 rwa [h1] at this
theorem QI (h:dN):mX (iI acc rej h)<=2*mX h:=by
 rw [FU,FU,Zu,Wq,Y4,Zu,Wq,Y4];obtain ⟨h1,h2⟩:=aeh (acc:=acc) (rej:=rej) h.props (qY h.marks.layers.length h.marks.layers) (h.props,[]);have h3:=asv (eG h.marks.layers.length);rw [(Hg _ _ (eG _)).1] at h2;have h4:=List.length_filter_le (fun x:gG=>!rej x.rev) h.marks.bK
 simp only [iI,List.length_nil] at h1 h2 |-
 omega
mutual
theorem ayL:∀ x:au,dH (nu acc rej x)<=2*(1+dD x.dat)
 | .mk k c i tx h f r=>by
  have hf:=TD f;have hr:=ajf r;have hh:=QI (acc:=acc) (rej:=rej) h;have e:=Ag (.mk k c i tx h f r)
  simp only [au.text,au.head,au.flow,au.rows] at e
  have one:∀ y:au,dH [y]=1+dD y.dat:=fun y=>by simp [dH,fu]
  rw [nu]
  split
  ·simp [dH,fu]
  split
  ·rw [one,Ag];simp only [au.text,au.head,au.flow,au.rows];omega
  split
  ·split
   ·simp [dH,fu]
   rw [one,Ag];simp only [au.text,au.head,au.flow,au.rows];omega
  rw [one,Ag];simp only [au.text,au.head,au.flow,au.rows];omega
theorem ayM:∀ x:aV,iK (pq acc rej x)<=2*(1+dD x.dat)
 | .mk h cs=>by
  have hc:=aje cs;have hh:=QI (acc:=acc) (rej:=rej) h;have e:=Ew (.mk h cs)
  simp only [aV.head,aV.cells] at e
  rw [pq]
  split
  ·simp [iK,fu]
  split
  ·simp [iK,fu]
  simp only [iK,fD,sP,fu];rw [Ew];simp only [aV.head,aV.cells];omega
theorem ayK:∀ x:aX,ji (pI acc rej x)<=2*(1+dD x.dat)
 | .mk i h f=>by
  have hf:=TD f;have hh:=QI (acc:=acc) (rej:=rej) h;have e:=Ev (.mk i h f)
  simp only [aX.head,aX.flow] at e
  rw [pI]
  split
  ·simp [ji,fu]
  simp only [ji,fD,sP,fu];rw [Ev];simp only [aX.head,aX.flow];omega
theorem TD:∀ l:List au,dH (dW acc rej l)<=2*dH l
 | []=>by simp [dW,dH,fu]
 | x :: l=>by
  have h1:=ayL x;have h2:=TD l;rw [dW,PD,show dH (x :: l)=1+dD x.dat+dH l by simp [dH,fu]];omega
theorem ajf:∀ l:List aV,iK (gT acc rej l)<=2*iK l
 | []=>by simp [gT,iK,fu]
 | x :: l=>by
  have h1:=ayM x;have h2:=ajf l;rw [gT,show ∀ a b:List aV,iK (a++b)=iK a+iK b from fun a b=>by rw [iK,kR,LW],show iK (x :: l)=1+dD x.dat+iK l by simp [iK,fu]];omega
theorem aje:∀ l:List aX,ji (gD acc rej l)<=2*ji l
 | []=>by simp [gD,ji,fu]
 | x :: l=>by
  have h1:=ayK x;have h2:=aje l;rw [gD,show ∀ a b:List aX,ji (a++b)=ji a+ji b from fun a b=>by rw [ji,kR,LW],show ji (x :: l)=1+dD x.dat+ji l by simp [ji,fu]];omega
end
end
theorem Fy {G:GH} {α:Type} {f:α->Int} {A:List α} {B:Option Addr} {n c k:Nat} (hv:ak G (.sl 1 (A.map fun q=>[li (f q)])) (.slice B n c)) (hk:k < A.length):∃ b o,B=some ⟨b,o,none⟩∧aH G b (o+k)=some (vi (f A[k])):=by
 obtain ⟨b,o,cs,h1,h2,h3,h4⟩:=hv.at_ k [li (f A[k])] (by simp [hk])
 simp only [bB] at h4
 obtain ⟨_,_,rfl,⟨rfl,-⟩,rfl⟩:=h4;exact ⟨b,o,h1,by simpa using h3 0 _ M⟩
theorem aoq:aS 114:=aT func114 M
theorem aor:aS 115:=aT func115 M
theorem Yv {p:Nat->Bool} (hp:∀ h,p h=true->p (h+1)=true):∀ (f i j:Nat),i<=j->j - i<=f->(∀ h,i<=h->h < ni p f i j->p h=false)∧(ni p f i j < j->p (ni p f i j)=true)
 | 0,i,j,h1,h2=>⟨fun h a b=>by simp only [ni] at b;omega,fun h=>by simp only [ni] at h;omega⟩
 | f+1,i,j,h1,h2=>by
  have up:∀ a b,a<=b->p a=true->p b=true:=fun a b hab=>by
   induction hab with
   | refl=>exact fun h=>h
   | step _ ih=>exact fun h=>hp _ (ih h)
  rw [ni]
  by_cases h:i < j
  ·rw [aD h]
   cases hm:p ((i+j) / 2)
   ·rw [av (by simp)];obtain ⟨r1,r2⟩:=Yv hp f ((i+j) / 2+1) j O O;refine ⟨fun q a b=>?_,r2⟩
    by_cases hq:(i+j) / 2+1<=q
    ·exact r1 q hq b
    cases hpq:p q
    ·rfl
    rw [up q _ O hpq] at hm;cases hm
   rw [aD M];obtain ⟨r1,r2⟩:=Yv hp f i ((i+j) / 2) O O;refine ⟨r1,fun _=>?_⟩
   by_cases hq:ni p f i ((i+j) / 2) < (i+j) / 2
   ·exact r2 hq
   have:=R6 (p:=p) f i ((i+j) / 2) O;rw [show ni p f i ((i+j) / 2)=(i+j) / 2 by omega];exact hm
  rw [av h];exact ⟨fun q a b=>by omega,fun q=>absurd q h⟩
theorem ads {l:List Int} (hs:l.Pairwise (·<=·)) (t:Int):(∀ h (hh:h < l.length),h < gQ l t->l[h] < t)∧∀ hh:gQ l t < l.length,t<=l[gQ l t]:=by
 -- the test,as if the list went on with its last number
 let p:Nat->Bool:=fun h=>decide (¬ l.getD h 0 < t)
 let p':Nat->Bool:=fun h=>decide (l.length<=h∨¬ l.getD h 0 < t)
 have hpp:∀ (f i j:Nat),j<=l.length->i<=j->ni p f i j=ni p' f i j:=by
  intro f
  induction f with
  | zero=>intro i j _ _;rfl
  | succ f ih =>
   intro i j hj hij;rw [ni,ni]
   by_cases h:i < j
   ·rw [aD h,aD h]
    have e:p ((i+j) / 2)=p' ((i+j) / 2):=by
     show decide _=decide _
     exact decide_eq_decide.2 ⟨.inr,fun h=>h.resolve_left O⟩
    rw [e,ih _ _ O O,ih _ _ hj O]
   rw [av h,av h]
 have hmono:∀ h,p' h=true->p' (h+1)=true:=fun h e=>by
  have e:=pQ e;refine mP ?_
  by_cases h1:l.length<=h+1
  ·exact .inl h1
  refine .inr ?_;have e2:=e.resolve_left O;have h3:=List.pairwise_iff_getElem.1 hs h (h+1) O O (Nat.lt_succ_self _);rw [List.getD_eq_getElem?_getD,eB (show h < l.length by omega)] at e2;rw [List.getD_eq_getElem?_getD,eB (show h+1 < l.length by omega)]
  simp only [Option.getD_some] at e2 |-
  omega
 obtain ⟨r1,r2⟩:=Yv hmono l.length 0 l.length (lg _) O;have hn:gQ l t=ni p' l.length 0 l.length:=hpp _ _ _ (eG _) (lg _);rw [<- hn] at r1 r2;refine ⟨fun h hh h1=>?_,fun hh=>?_⟩
 ·have h2:=of_decide_eq_false (r1 h (lg _) h1);rw [List.getD_eq_getElem?_getD,eB hh] at h2
  simp only [Option.getD_some] at h2
  omega
 have h2:=(pQ (r2 hh)).resolve_left O;rw [List.getD_eq_getElem?_getD,eB hh] at h2
 simp only [Option.getD_some] at h2
 omega
theorem Kq {l:List Int} (hs:l.Pairwise (·<=·)) (t:Int):oU l t=decide (t∈l):=by
 rw [rT,oM]
 constructor
 ·intro h;exact lV (pQ h)
 intro h;obtain ⟨k,hk,rfl⟩:=List.getElem_of_mem h;obtain ⟨r1,r2⟩:=ads hs l[k]
 have hkn:gQ l l[k]<=k:=by
  by_cases h:gQ l l[k]<=k
  ·exact h
  have:=r1 k hk O;omega
 have h2:=r2 O
 have h3:l[gQ l l[k]]<=l[k]:=by
  rcases Nat.lt_or_eq_of_le hkn with h|h
  ·exact List.pairwise_iff_getElem.1 hs _ _ O hk h
  exact Int.le_of_eq (getElem_congr_idx h)
 exact mP (by rw [eB (by omega:gQ l l[k] < l.length)];exact cZ some O)
theorem avX (G:GH) (w0:World) (hG:Hold G w0) (x y:Int):Calls prog 114 #[vi x,vi y] w0 (bG w0 G fun u G'=>u=.bool (decide (x < y))∧G=G'):=by
 refine eN [(0,_),(1,_)] func114 M ntmps114 M M hG ?_;intro a H;refine kP H (SR fun _ K1=>aj K1 M (SR fun _ K2=>Rm M ?_));clear H K1;intro a H;refine s_call Wv H wn M (YH _ _ H.ro x) M ?_;clear H;rintro v6 G6 a w ⟨rfl,rfl⟩ H9 H;refine kH H (Rm M (Sp 7 M ?_ ?_)) <;> clear H
 ·intro h7 a H
  cases h7
 intro h7 a H
 refine kH H (aP h7 M (Pf h7 M (Rm M ?_)));clear H;intro a H;(iterate 2 refine LM H (wg H M M M) M M ?_;clear H;intro a H);refine LJ H (wg H M M M) M M M M ?_;clear H;intro a H;exact kH H (Pf M M (aj K2 M (LR results114 M fun H=>H.rt ⟨M,M⟩)))
theorem avJ (G:GH) (w0:World) (hG:Hold G w0) (x:Int):Calls prog 115 #[vi x] w0 (bG w0 G fun u G'=>u=.bool false∧G=G'):=by
 refine eN [(0,_)] func115 M ntmps115 M M hG ?_;intro a H;exact kP H (SR fun _ K1=>aj K1 M (SR fun _ K2=>Rm M (Rm M (Rc M (aj K2 M (LR results115 M fun H=>H.rt ⟨by simp,M⟩))))))
theorem Vb {p:Prop} (h:p:=by
 first
  | exact H.rt ⟨by rw [agi heq.symm O,<- heq];simp_all [adT],M⟩
  | exact H.rt ⟨by rw [agj heq.symm O,<- heq],M⟩):p:=h
theorem adr (G:GH) (w0:World) (hG:Hold G w0) (l:List Int) (t:Int) (v:ah) (hv:ak G (.sl 1 (l.map fun k=>[li k])) v) (hl:l.length<=4294967296) :
  Calls prog 62 #[v,vi t] w0 (bG w0 G fun u G'=>u=.tuple #[vi (gQ l t),.bool (oU l t)]∧G=G'):=by
 obtain ⟨A,c,rfl,hc1,hc2,-⟩:=hv.slice;rw [bS] at *;obtain ⟨p,hp⟩:∃ p:Nat->Bool,p=fun h=>decide (¬ l.getD h 0 < t):=⟨_,M⟩
 have hbs:gQ l t=ni p l.length 0 l.length:=by rw [hp,gQ]
 refine eN [(0,_),(1,_)] func62 M ntmps62 M M hG ?_;intro a H;refine kP H (SR fun _ K1=>Ra M (aj K1 M (SR fun _ K2=>Rm M (Rl jZ M (aj K2 M (SR fun _ K3=>Rm M (Ra M (aj K3 M (SQ fun _ K4=>SB ?_)))))))));clear H K1 K2 K3;intro a H;skip;refine eX (ι:=Nat × Nat × Nat) (Tc:=[(0,_),(1,_),(6,_)]) (Lc:=[]) (fun gh=>[(7,vi gh.1),(8,vi gh.2.1)]) (fun gh=>[]) (fun gh=>G) (fun gh=>gh.1<=gh.2.1∧gh.2.1<=l.length∧gh.2.1 - gh.1<=gh.2.2∧ni p gh.2.2 gh.1 gh.2.1=gQ l t) (fun gh=>gh.2.1 - gh.1) ((0,l.length,l.length)) (by exact H.sub ⟨M,M,M,M,M,aB⟩) ?_ ?_
 ·exact ⟨lg _,eG _,Nat.sub_le _ _,hbs.symm⟩
 clear H;rintro ⟨i,j,f⟩ a w hI H;dsimp only at hI H;obtain ⟨hij,hj,hf1,heq⟩:=hI;dsimp only [lca,bM] at H;refine kP H (SQ fun _ K5=>SR fun _ K6=>Rm M (Rm M (Rc M (Kz K6 (Cd M ?_ ?_))))) <;> clear H K6
 ·intro jM a H
  try have tL:=dT jM
  have hlt:i < j:=by omega
  rw [Yw hf1 hlt] at heq;obtain ⟨m,hm⟩:∃ m,m=(i+j) / 2:=⟨_,M⟩;rw [<- hm] at heq
  have hml:m < l.length:=by omega
  obtain ⟨b,o,rfl,hrow⟩:=Fy (f:=fun q=>q) hv hml
  replace hrow:aH G b (o+m*1)=some (vi l[m]):=by rw [Nat.mul_one];exact hrow
  have hpm:p m=decide (¬ l[m] < t):=by rw [hp];simp [List.getD,hml]
  rw [hpm] at heq;refine kP H (Kc K5 (SB (SR fun _ K7=>Rm M (Rm M (Rd M ?_)))));clear H K5;intro a H;rw [show ((i:Int)+(j:Int))=((i+j:Nat):Int) by push_cast;rfl] at H;refine CQ ((i+j:Nat):Int) L9 mF H wn M (Yx O O) M ?_;clear H;intro a H;refine TN _ H wn M M M Z M ?_;clear H;intro a H;rw [Yu,<- hm] at H;refine CQ (m:Int) mF L9 H wn M (Ir O O) M ?_;clear H;intro a H;refine kH H (aj K7 M (SR fun _ K8=>Rm M (Rm M (Ri jZ aF M M (Rg aF M (by assumption) ?_)))));clear H K7;intro a H;refine kH H (Rm M ?_);clear H;intro a H;refine s_call aoq H wn M (avX _ _ H.ro l[m] t) M ?_;clear H;rintro v27 G27 a w ⟨rfl,rfl⟩ agG H;refine K8 _ _ ?_;clear K8;refine jw H M ?_ ?_
  ·intro h27
   try have p27:=dT h27
   rw [av (by simpa using p27)] at heq;refine kP H (SC (Rm M (Rd M (Ra M ?_))));clear H;intro a H;refine aG ?_;refine dY ((m+1,j,f - 1)) (by exact H.sub ⟨M,M,M,M,M,aB⟩) ?_
   (try dsimp only);exact ⟨O,hj,O,heq⟩
  intro h27
  try have p27:=dF h27
  rw [aD (by simpa using p27)] at heq;refine kP H (SC (Rm M (Ra M ?_)));clear H;intro a H;refine aG ?_;refine dY ((i,m,f - 1)) (by exact H.sub ⟨M,M,M,M,M,aB⟩) ?_
  (try dsimp only);exact ⟨O,O,O,heq⟩
 intro jM a H
 try have tL:=dF jM
 refine dQ ?_;refine K4 _ _ ?_;clear K4;refine bO (fun _ K9=>?_);rw [Yt O] at heq;refine kP H (SC (Rm M (Rm M (Rm M (Rc M (Rm M (Sp 35 M ?_ ?_))))))) <;> clear H
 ·intro iw a H
  try have p35:=dT iw
  have hil:i < l.length:=by omega
  obtain ⟨b,o,rfl,hrow⟩:=Fy (f:=fun q=>q) hv hil
  replace hrow:aH G b (o+i*1)=some (vi l[i]):=by rw [Nat.mul_one];exact hrow
  refine kH H (YM iw M (YM iw M (YI jZ aF iw M M (YR aF iw M (by assumption) ?_))));clear H;intro a H;refine kH H (YM iw M (YC iw M (YM iw M (Sp 42 M ?_ ?_)))) <;> clear H
  ·intro jR a H
   try have p42:=dT jR
   refine kH H (aP jR M (aP jR M (Ku M (Ku M (Ks jR M (PT iw jR M (Pt iw M (Ra M (bD K9 M ?_)))))))));clear H K9;intro a H;refine fE ?_;refine (kJ H results62 (.cons (fM H M) (.cons (fM H M) .nil)) ?_).1
   exact Vb
  intro jR a H
  try have p42:=dF jR
  refine kH H (YM jR M (YM jR M (YI jZ aF jR M M (YR aF jR M (by assumption) ?_))));clear H;intro a H;refine s_call aor H (wg H M M jR) M (avJ _ _ H.ro l[i]) M ?_;clear H;rintro v47 G47 a w ⟨rfl,rfl⟩ aCg H;refine kH H (YM jR M (Sp 48 M ?_ ?_)) <;> clear H
  ·intro h48 a H
   cases h48
  intro h48 a H
  try have p48:=dF h48
  refine kH H (aL h48 M (PF jR h48 M (PF iw jR M (Pt iw M (Ra M (bD K9 M ?_))))));clear H K9;intro a H;refine fE ?_;refine (kJ H results62 (.cons (fM H M) (.cons (fM H M) .nil)) ?_).1
  exact Vb
 intro iw a H
 try have p35:=dF iw
 refine kH H (aP iw M (aL iw M (aL iw M (Ku M (Ku M (Ku M (Ku M (Ku M (Ku M (Ku M (Ku M (Ku M (Ks iw M (Pf iw M (Ra M (bD K9 M ?_))))))))))))))));clear H K9;intro a H;refine fE ?_;refine (kJ H results62 (.cons (fM H M) (.cons (fM H M) .nil)) ?_).1
 exact Vb
theorem apx:aS 211:=aT func211 M
theorem afd:aS 62:=aT func62 M
theorem tQ:Ty prog 242 2 16 [.int .i64 0,.bool false] true:=⟨V,V⟩
theorem ajE:qQ prog 242 [(0,1),(1,1)] [.int .i64 0,.bool false]:=⟨V,V⟩
theorem apy:aS 213:=aT func213 M
theorem afv:dP prog 242 0 0:=⟨V⟩
theorem afw:dP prog 242 1 1:=⟨V⟩
theorem apz:aS 214:=aT func214 M
theorem apA:aS 215:=aT func215 M
theorem avz (G:GH) (w0:World) (hG:Hold G w0) (l:List gG) (p:gG->Bool) (v fv:ah) (hv:ak G (.sl 2 (l.map gG.dat)) v) (hf:∀ x∈l,uM fv G x.dat (p x)) :
  Calls prog 211 #[v,fv] w0 (bG w0 G fun u G'=>u=vi (oG (l.findIdx? p))):=by
 obtain ⟨A,c,rfl,hc1,hc2,hg⟩:=hv.slice;have hml:maxLen=9223372036854775807:=rfl;rw [bS] at *;refine eN [(0,_),(1,_)] func211 M ntmps211 M M hG ?_;intro a H;refine kP H (SR fun _ K1=>aj K1 M (SQ fun _ K2=>SR fun _ K3=>Rm M (Rl oK M (Rm M (Kz K3 (SB ?_))))));clear H K1 K3;intro a H;skip;refine eX (ι:=Nat × GH) (Tc:=[(0,_),(1,_),(7,_)]) (Lc:=[]) (fun gh=>[(8,vi gh.1)]) (fun gh=>[]) (fun gh=>gh.2) (fun gh=>gh.1<=l.length∧(l.take gh.1).findIdx? p=none∧(∀ b o,G b=some o->gh.2 b=some o)) (fun gh=>l.length - gh.1) ((0,G)) (by exact H.sub ⟨M,M,M,M,aB⟩) ?_ ?_
 ·exact rU
 clear H;rintro ⟨k,g⟩ a w hI H;dsimp only at hI H;obtain ⟨hk,hno,hgm⟩:=hI;dsimp only [lca,bM] at H;refine kP H (SR fun _ K4=>Rc M (Kz K4 (SQ fun _ K5=>Cd M ?_ ?_))) <;> clear H K4
 ·intro h9 a H
  try have p9:=dT h9
  have hk2:k < l.length:=by omega
  obtain ⟨b,o,cs,rfl,hcl,hrow,hrep⟩:=hg k l[k].dat (by simp [hk2]);obtain rfl:=Nh hrep;replace hrow:=fun j u hj=>aC hgm (hrow j u hj);refine kP H (Kc K5 (SQ fun _ K6=>SB (SR fun _ K7=>Rm M (aj K7 M (SR fun _ K8=>Rm M (Rm M (Rm M (Ri oK oJ M M ?_))))))));clear H K5 K7;intro a H;refine aU oJ (cs:=[_,_]) H wn M M (fun j v hj=>H.hp.aH (hrow j v hj)) M ?_;clear H;intro a H;refine jO H wn M M (hf _ (lq hk2) _ _ _ hgm H.ro (hrep.mono hgm)) M ?_;clear H;rintro v16 tX a w rfl nL H;refine K8 _ _ ?_;clear K8;refine jw H M ?_ ?_
  ·intro h16
   try have p16:=dT h16
   refine kP H (SR fun _ K9=>Rm M (aj K9 M ?_));clear H K9;intro a H;refine lr H results211 M ?_
   exact xJ
  exact JM
 intro h9 a H
 try have p9:=dF h9
 refine dQ ?_;refine K2 _ _ ?_;clear K2;refine kP H (SR fun _ aR=>aj aR M ?_);clear H aR;intro a H;refine lr H results211 M ?_
 exact xJ
theorem aea (G:GH) (w0:World) (hG:Hold G w0) (l:List gG) (p:gG->Bool) (v fv:ah) (hv:ak G (.sl 2 (l.map gG.dat)) v) (hf:∀ x∈l,uM fv G x.dat (p x)) :
  Calls prog 157 #[v,fv] w0 (bG w0 G fun u G'=>u=.bool (l.findIdx? p).isSome):=by
 refine eN [(0,_),(1,_)] func157 M ntmps157 M M hG ?_;intro a H;refine kP H (SR fun _ K1=>aj K1 M (SR fun _ K2=>Rm M (Rm M ?_)));clear H K1;intro a H;refine s_call apx H wn M (avz _ _ H.ro l p _ _ hv hf) M ?_;clear H;rintro v7 G7 a w rfl uG H;refine kH H (Rc M (aj K2 M ?_));clear H K2;intro a H;refine lr H results157 M ?_
 exact H.rt (by cases h:l.findIdx? p <;> simp [oG])
theorem Y9 (G:GH) (w0:World) (hG:Hold G w0) (l:List Int) (t:Int) (v:ah) (hv:ak G (.sl 1 (l.map fun k=>[li k])) v) (hl:l.length<=4294967296) :
  Calls prog 76 #[v,vi t] w0 (bG w0 G fun u G'=>u=.bool (oU l t)):=by
 refine eN [(0,_),(1,_)] func76 M ntmps76 M M hG ?_;intro a H;refine kP H (SR fun _ K1=>aj K1 M (SR fun _ K2=>Rm M (Rm M ?_)));clear H K1;intro a H;refine s_call afd H wn M (adr _ _ H.ro l t _ hv hl) M ?_;clear H;rintro v10 EA a w ⟨rfl,rfl⟩ DW H;refine kH H (Rm M ?_);clear H;intro a H;(iterate 2 refine lT H wn M M M ?_;clear H;intro a H);exact kH H (Ra M (aj K2 M (SR fun _ K3=>Rm M (aj K3 M (LR results76 M fun H=>H.rt M)))))
abbrev IZ (s:Int × Bool):ah:=.agg #[vi s.1,.bool s.2]
theorem alu (G:GH) (w0:World) (hG:Hold G w0) (y:bZ):Calls prog 161 #[.agg y.cells.toArray] w0 (bG w0 G fun u G'=>u=IZ (y.before,y.had)):=by
 refine eN [(0,_)] func161 M ntmps161 M M hG ?_;intro a H;refine dz (fun _ K1=>?_);refine dR (cs:=[_,_,_,_]) H wn M M M ?_;clear H;intro b1 a w hb1 H;refine dJ tQ H wn M ?_;clear H;intro b2 a w hb2 H;refine K1 _ _ ?_;clear K1;refine kP H (SR fun _ K2=>bQ EP aF 1 M M (bQ QW Et 1 M M ?_));clear H;intro a H;refine jU ajE [_,_] H wn M M M M ?_;clear H;intro a H;refine bC tQ 0 (vs:=[_,_]) H wn M ?_;clear H;intro w H;refine K2 _ _ ?_;clear K2;refine fE ?_;refine (leave1 H results161 (.cons (ny tQ (cs:=[_,_]) H M M (H.hp.cB 0 M M)) .nil) ?_).1;exact xK
theorem axH (G:GH) (w0:World) (hG:Hold G w0) (h:dN) (p d l:ah) (hh:jr G h p d l) (k:Int) (hl:h.props.length<=4294967296):Calls prog 162 #[sj h p d l,vi k] w0 (bG w0 G fun u G'=>u=IZ (kT h.props k)):=by
 obtain ⟨pA,pn,pc,rfl⟩:=hh.props.form;obtain ⟨dA,dn,dc,rfl⟩:=hh.bK.form;obtain ⟨lA,ln,lc,rfl⟩:=hh.layers.form;refine eN [(0,_),(1,_)] func162 M ntmps162 M M hG ?_;intro a H;refine dz (fun _ K1=>?_);refine dR (cs:=[_,_,_,_,_]) H wn M M M ?_;clear H;intro b2 a w hb2 H;refine dJ tQ H wn M ?_;clear H;intro b4 a w hb4 H;refine K1 _ _ ?_;clear K1;refine kP H (SR fun _ K2=>bQ yR tO 1 M M (Rm M ?_));clear H;intro a H;refine s_call apy H wn M (asr _ _ H.ro h.props k _ hh.props hl) M ?_;clear H;rintro v11 zx a w rfl DY H;refine kH H (Rm M ?_);clear H;intro a H;(iterate 2 refine lT H wn M M M ?_;clear H;intro a H);refine kH H (Ra M (aj K2 M (SR fun _ K3=>Rm M (Rm M ?_))));clear H K2;intro a H;refine jU ajE [_,_] H wn M M M M ?_;clear H;intro a H;refine bC tQ 0 (vs:=[_,_]) H wn M ?_;clear H;intro w H;refine K3 _ _ ?_;clear K3;refine fE ?_;refine (leave1 H results162 (.cons (ny tQ (cs:=[_,_]) H M M (H.hp.cB 0 M M)) .nil) ?_).1;exact xK
theorem alM {p:Prop} (h:p:=by
 exact Ch HT Hb hG hv (fun _ _ _ _ _ h=>h) H M):p:=h
theorem alN {p:Prop} (h:p:=by
 exact anW M HT hG hv H):p:=h
theorem GI {p:Prop} (h:p:=by
 clear H;intro a H;refine aG ⟨M,?_⟩;exact alM):p:=h
theorem MX {p:Prop} (h:p:=by
 intro _ _ _ _ _ hB;exact fP):p:=h
theorem Vm {p:Prop} (h:p:=by
 clear H;intro w H;refine aG ⟨M,?_⟩;exact alN):p:=h
theorem acg {p:Prop} (h:p:=by
 clear aM;have H:=H.aN (hv 2 7 (hc 2 Z) M) M;have Hb:=H.full;have H:=Hb;clear hc;refine kH H (Ro Et 1 M ?_);exact GI):p:=h
theorem acs {p:Prop} (h:p:=by
 clear aM;have Hb:=H.full;have H:=Hb;clear hc;refine kH H (Rf afw M ?_);exact GI):p:=h
theorem asn (G:GH) (w0:World) (hG:Hold G w0) (y:bZ) (s:Int × Bool):Calls prog 163 #[.agg y.cells.toArray,IZ s] w0 (bG w0 G fun u G'=>u=.agg (bZ.cells ⟨y.rev,y.key,s.1,s.2⟩).toArray):=by
 refine eN [(0,_),(1,_)] func163 M ntmps163 M M hG ?_;intro a H;refine dz (fun _ K1=>?_);refine dR (cs:=[_,_,_,_]) H wn M M M ?_;clear H;intro b2 a w hb2 H;refine dR (cs:=[_,_]) H wn M M M ?_;clear H;intro b3 a w hb3 H;refine dJ jP H wn M ?_;clear H;intro b4 a w hb4 H;refine K1 _ _ ?_;clear K1;refine bO (fun _ K2=>?_);refine ady (hmx) [[],[0],[],[2],[0,1],[0,1,4],ra 0 6,ra 0 7] [6,7] V V 5 Z (fun (bX:Nat) (v:ah) (G:GH)=>match bX with|0=>v=(aK b3 0)|1=>v=vi s.1|2=>v=(aK b3 1)|3=>v=.bool s.2|4=>v=(aK b2 2)|_=>True) 2 ((b2,.cells #[vi y.rev,vi y.key,vi s.1,.bool y.had] 161 (0,0))) H ?_ ?_ ?_ ?_ V
 ·clear H;refine ay ?_ ?_ ?_ ?_ (ay ?_ ?_ (bT M) (bT M) dB)
  ·intro bH a w G1 _ _ aM hc hG HT hv;have H:=HT;clear aM;have Hb:=H.full;have H:=Hb;clear hc;refine kH H (Rf afv M ?_);exact GI
  ·intro bH a w G1 _ _ aM hc hG HT hv;have H:=HT;clear aM;have H:=H.aN (hv 0 5 (hc 0 Z) M) M;have Hb:=H.full;have H:=Hb;clear hc;refine kH H (Ro aF 1 M ?_);exact GI
  ·intro bH a w G1 _ _ aM hc hG HT hv;have H:=HT;exact acs
  ·intro bH a w G1 _ _ aM hc hG HT hv;have H:=HT;exact acg
  ·intro bH a w G1 _ _ aM hc hG HT hv;have H:=HT;clear aM;have Hb:=H.full;have H:=Hb;clear hc;refine kH H (Rf EP M ?_);exact GI
  exact MX
 ·clear H;intro o_ bH a w G1 mK _ hc hG HT hv;obtain rfl:_=o_:=Option.some.inj mK;clear mK;have H:=HT;have H:=H.aN (hv 4 9 (hc 4 Z) M) M;have H:=H.aN (hv 1 6 (hc 1 Z) M) M;have Hb:=H.full;have H:=Hb;clear hc;refine bC aF 2 (vs:=[_]) H wn M ?_;exact Vm
 ·clear H;refine ay (bT M) (bT M) ?_ ?_ (ay (bT M) ?_ (bT M) (bT M) dB)
  ·intro bH a w G1 _ _ aM hc hG HT hv;have H:=HT;dsimp only [List.set,List.append,lca,bM] at H;exact acs
  ·intro bH a w G1 _ _ aM hc hG HT hv;have H:=HT;dsimp only [List.set,List.append,lca,bM] at H;exact acg
  exact MX
 clear H;intro a w G jC H hv;dsimp only [List.set,List.append,lca,bM] at H;have H:=H.aN (hv 3 8 M M) M;clear hv;refine kH H (Rf QW M ?_);clear H;intro a H;refine bC Et 2 (vs:=[_]) H wn M ?_;clear H;intro w H;refine aG ⟨M,?_⟩;refine K2 _ _ ?_;clear K2;refine dz (fun _ K3=>?_);refine aU jP (cs:=[_,_,_,_]) H wn M M (H.hp.cB 2 M M) M ?_;clear H;intro a H;refine bC jP 0 (vs:=[_,_,_,_]) H wn M ?_;clear H;intro w H;refine K3 _ _ ?_;clear K3;refine fE ?_;refine (leave1 H results163 (.cons (ny jP (cs:=[_,_,_,_]) H M M (H.hp.cB 0 M M)) .nil) ?_).1;exact xK
theorem aBe (G:GH) (w0:World) (hG:Hold G w0) (ps:List aO) (io mo:Int) (p:ah) (dA lA:Option Addr) (dn dc ln lc:Nat) (hp:ak G (.sl 2 (ps.map aO.dat)) p) (k:Int) (s:Int × Bool) (hl:ps.length<=4294967295) :
  Calls prog 164 #[.agg #[p,vi io,vi mo,.slice dA dn dc,.slice lA ln lc],vi k,IZ s] w0 (bG w0 G fun u G'=>∃ p',u=.agg #[p',vi io,vi mo,.slice dA dn dc,.slice lA ln lc]∧ak G' (.sl 2 ((vI ps k s).map aO.dat)) p'):=by
 obtain ⟨pA,pn,pc,rfl⟩:=hp.form;refine eN [(0,_),(1,_),(2,_)] func164 M ntmps164 M M hG ?_;intro a H;refine dz (fun _ K1=>?_);refine dR (cs:=[_,_,_,_,_]) H wn M M M ?_;clear H;intro b3 a w hb3 H;refine dR (cs:=[_,_]) H wn M M M ?_;clear H;intro b5 a w hb5 H;refine dJ fB H wn M ?_;clear H;intro b6 a w hb6 H;refine K1 _ _ ?_;clear K1;refine kP H (SQ fun _ K2=>SR fun _ K3=>bQ afw Et 1 M M (Kz K3 (Cd M ?_ ?_))) <;> clear H K3
 ·intro h8 a H
  try have p8:=dT h8
  refine kP H (SC (bQ yR tO 2 M M (Rm M (bQ afv aF 1 M M ?_))));clear H;intro a H;refine s_call apz H wn M (azN _ _ H.ro ps k s.1 _ hp hl) M ?_;clear H;rintro v14 EB a w uY D6 H;obtain ⟨Um,n14,c14,rfl⟩:=uY.form;refine kH H (Rf yR M ?_);clear H;intro a H;refine bC tO 2 (vs:=[_]) H wn M ?_;clear H;intro w H;refine aG ?_;refine K2 _ _ ?_;clear K2;refine dz (fun _ K4=>?_);refine aU fB (cs:=[_,_,_,_,_]) H wn M M (H.hp.cB 2 M M) M ?_;clear H;intro a H;refine bC fB 0 (vs:=[_,_,_,_,_]) H wn M ?_;clear H;intro w H;refine K4 _ _ ?_;clear K4;refine fE ?_;refine (leave1 H results164 (.cons (ny fB (cs:=[_,_,_,_,_]) H M M (H.hp.cB 0 M M)) .nil) ?_).1;exact H.rt ⟨_,M,by rw [vI,aD (by assumption)];exact uY⟩
 intro h8 a H
 try have p8:=dF h8
 refine kP H (SC (bQ yR tO 2 M M (Rm M ?_)));clear H;intro a H;refine s_call apA H wn M (anb _ _ H.ro ps k _ hp hl) M ?_;clear H;rintro v19 Jf a w Od uE H;obtain ⟨Jb,n19,c19,rfl⟩:=Od.form;refine kH H (Rf yR M ?_);clear H;intro a H;refine bC tO 2 (vs:=[_]) H wn M ?_;clear H;intro w H;refine aG ?_;refine K2 _ _ ?_;clear K2;refine dz (fun _ K5=>?_);refine aU fB (cs:=[_,_,_,_,_]) H wn M M (H.hp.cB 2 M M) M ?_;clear H;intro a H;refine bC fB 0 (vs:=[_,_,_,_,_]) H wn M ?_;clear H;intro w H;refine K5 _ _ ?_;clear K5;refine fE ?_;refine (leave1 H results164 (.cons (ny fB (cs:=[_,_,_,_,_]) H M M (H.hp.cB 0 M M)) .nil) ?_).1;exact H.rt ⟨_,M,by rw [vI,av (by simp_all)];exact Od⟩
theorem aeS:aS 212:=aT func212 M
def gP (q:Int × List bZ):AP:=fun args g=>∃ v,args=[vi q.1,v]∧ak g (.sl 4 (q.2.map bZ.dat)) v
theorem afN {A:List (Int × List bZ)} {k:Nat} {args:List ah} {g:GH} (h:zw (A.map gP) k args g):∃ (hk:k < A.length) (B:Option Addr) (c:Nat),args=[vi A[k].1,.slice B A[k].2.length c]∧ak g (.sl 4 (A[k].2.map bZ.dat)) (.slice B A[k].2.length c):=by
 obtain ⟨p,hp,hargs⟩:=h;rw [tZ] at hp;obtain ⟨q,hq,rfl⟩:=qD.1 hp;obtain ⟨hk,rfl⟩:=ko.1 hq;obtain ⟨v,h1,h2⟩:=hargs;obtain ⟨B,n,c,rfl⟩:=h2.form;have hn:=h2.len;rw [bS] at hn;subst hn;exact ⟨hk,B,c,h1,h2⟩
theorem ak.hd {G:GH} {sz:Nat} {rows:List (List Dat)} {A:Option Addr} {n c:Nat} (h:ak G (.sl sz rows) (.slice A n c)) (m:Nat) (hm:m<=rows.length):ak G (.sl sz (rows.take m)) (.slice A m c):=by
 have h2:=h.part 0 m (lg _) hm;obtain ⟨A',c',he,hc1,-,-⟩:=h.slice;rw [wI,Nat.sub_zero,Nat.sub_zero] at h2
 by_cases hc:c=0
 ·rw [aD hc] at h2;exact h2
 rw [av hc] at h2
 cases A with
 | none=>exact h2
 | some p=>simpa [Addr.add] using h2
theorem Z9 {α:Type} {p:α->Bool}:∀ (r:List α) (i:Nat) (hi:i < r.length),i<=(r.takeWhile p).length->(p r[i]=true↔i < (r.takeWhile p).length)
 | [],_,hi,_=>absurd hi (by simp)
 | x :: r,i,hi,h=>by
  rw [List.takeWhile_cons] at h |-
  cases hx:p x
  ·rw [hx] at h
   simp only [ug,if_false,List.length_nil,Nat.le_zero] at h
   subst h
   simp [hx]
  rw [hx] at h
  simp only [if_true,lW] at h |-
  cases i with
  | zero=>simp [hx]
  | succ i=>simpa using Z9 r i (by simpa using hi) O
theorem ajS {α:Type} {p:α->Bool} (r:List α):r.drop (r.takeWhile p).length=r.dropWhile p:=by
 conv=>lhs;rw [<- List.takeWhile_append_dropWhile (p:=p) (l:=r)]
 rw [List.drop_append_of_le_length (by simp [List.takeWhile_append_dropWhile])]
 simp [List.takeWhile_append_dropWhile]
theorem ajT {α:Type} {p:α->Bool} (r:List α):r.take (r.takeWhile p).length=r.takeWhile p:=by
 have:=List.take_left (l₁:=r.takeWhile p) (l₂:=r.dropWhile p)
 rwa [List.takeWhile_append_dropWhile] at this
theorem abr {p:Prop} (h:p:=by
 first
  | exact H.hp.mW (L':=P6) (by repeat (first|exact lX _|apply List.Sublist.cons)) (.inr (hb2 (by simpa using fU)))
  | exact H.hp.gL (.inl (by
    have:=lD.len;rw [show rest=[] from List.eq_nil_of_length_eq_zero O] at this
    cases f <;> (simp only [qY,List.length_nil,zF] at this;first|(rw [bS,<- this];exact lD.now)|(rw [<- this];exact lD.now))))):p:=h
theorem alO {p:Prop} (h:p:=by
 exact h1.mono fun b o h=>XY b o (oD b o (rZ b o (hg3 b o h)))):p:=h
theorem acD {p:Prop} (h:p:=by
 by_cases hlt:m < 1+(r.takeWhile p).length
 ·exfalso
  have h1:=(Z9 (p:=p) r (m - 1) O O).2 O;have h3:=hkm O
  have h2:(y :: r)[m]=r[m - 1]:=by
   obtain ⟨q,rfl⟩:∃ q,m=q+1:=⟨m - 1,O⟩
   rfl
  have h4:=pQ ((congrFun hp _).symm.trans h1);rw [h2] at h3;rw [h3] at h4
  first|exact p26 h4|exact c0 O
 omega):p:=h
theorem acE {p:Prop} (h:p:=by
 (try dsimp only);refine ⟨by rw [List.length_drop];omega,by rw [List.length_drop];omega,fun b o h=>XY b o (oD b o (rZ b o (hg3 b o (hgm b o h)))),?_,lD.step (hb1 (by simpa using fU))⟩;have h1:=qJ.part m (y :: r).length O (by simp);rw [<- List.map_drop,jF (by simp)] at h1;rw [List.length_drop];exact alO):p:=h
theorem abO {p:Prop} (h:p:=by
 intro fU
 try have p38:=dT fU
 refine fE ?_;refine (leave0 H results212 ?_).1
 exact abr):p:=h
theorem ach {p:Prop} (h:p:=by
 refine eT 5 34 6 35 M M fun _ a w G1 hG HT H fin=>?_;refine IY lU jP m H wn M M M O M ?_;exact jG):p:=h
theorem acn {p:Prop} (h:p:=by
 refine gN 1 30 M M fun _ a w G1 hG HT H fin=>?_;refine zZ lU jP 0 H wn M M M (by simp) M ?_;exact jG):p:=h
set_option maxHeartbeats 2000000 in
theorem asx {G:GH} {bd:Nat} {l:List bZ} {v:ah} (hb:aH G bd 4=some v) (hv:ak G (.sl 4 (l.map bZ.dat)) v) (hz:l.length<=4294967290) :
  Iter prog G (.func (.func 212) #[] #[(aK bd 0)]) ((qY l.length l).map gP):=by
 intro J Jx fv G1 L w0 hfv hGi zO hJx hJ hO hcb;refine jy (caps:=[(aK bd 0)]) aeS ?_;obtain ⟨A,c,rfl,hc1,hc2,hg⟩:=hv.slice;rw [bS] at *;replace hb:=aC hGi hb;refine jA (N:=42) (T:=[(0,_),(1,_)]) func212 M ntmps212 M M hO ?_;intro a H;refine kP H (SR fun _ K1=>Rf qo M (Rf Au M (Rg BA M hb (aj K1 M (SB ?_)))));clear H K1;intro a H;skip;refine eX (ι:=Nat × List bZ × Option Addr × Nat × Nat × OL × GH) (Tc:=[(0,_)]) (Lc:=[]) (fun gh=>[(3,.slice gh.2.2.1 gh.2.1.length gh.2.2.2.1)]) (fun gh=>[]++gh.2.2.2.2.2.1) (fun gh=>gh.2.2.2.2.2.2) (fun gh=>gh.2.1.length<=gh.1∧gh.2.1.length<=4294967290∧(∀ b o,G1 b=some o->gh.2.2.2.2.2.2 b=some o)∧ak gh.2.2.2.2.2.2 (.sl 4 (gh.2.1.map bZ.dat)) (.slice gh.2.2.1 gh.2.1.length gh.2.2.2.1)∧Now ((qY l.length l).map gP) gP J (qY l.length l).length gh.2.2.2.2.1 (qY gh.1 gh.2.1) gh.2.2.2.2.2.2 gh.2.2.2.2.2.1) (fun gh=>gh.2.1.length) ((l.length,l,A,c,0,L,G1)) (by exact H.sub ⟨M,M,aB⟩) ?_ ?_
 ·exact ⟨eG _,hz,fun _ _ h=>h,hv.mono hGi,⟨hJ,fun i a h=>by rw [gy,tZ];rw [h];rfl,by simp⟩⟩
 clear H;rintro ⟨f,rest,B,d,j1,Lt,g⟩ a w hI H;dsimp only at hI H;obtain ⟨hf,hzr,hgm,qJ,lD⟩:=hI;dsimp only [lca,bM] at H;refine kP H (SQ fun _ K2=>SR fun _ K3=>Rm M (Rl lU M (Rc M (Kz K3 (Cd M ?_ ?_))))) <;> clear H K3
 ·intro h10 a H
  try have jc:=dT h10
  obtain ⟨y,r,rfl⟩:∃ y r,rest=y :: r:=by cases rest with|nil=>simp at jc|cons y r=>exact ⟨y,r,M⟩
  obtain ⟨f,rfl⟩:∃ f',f=f'+1:=⟨f - 1,by rw [lW] at hf;omega⟩;rw [qY] at lD;obtain ⟨b,o,rfl,hr0⟩:=Fz qJ (k:=0) (by simp);obtain ⟨p,hp⟩:∃ p:bZ->Bool,p=fun z=>decide (z.key=y.key):=⟨_,M⟩;rw [<- hp] at lD;refine kP H (Kc K2 (SB (SR fun _ K4=>aj K4 M (SQ fun _ K5=>SB ?_))));clear H K2 K4;intro a H;skip;refine eX (ι:=Nat × GH) (Tc:=[(0,_),(3,_)]) (Lc:=[]) (fun gh=>[(4,vi gh.1)]) (fun gh=>[]++Lt) (fun gh=>gh.2) (fun gh=>1<=gh.1∧gh.1<=1+(r.takeWhile p).length∧(∀ b o,g b=some o->gh.2 b=some o)) (fun gh=>(y :: r).length - gh.1) ((1,g)) (by exact H.sub ⟨M,M,M,aB⟩) ?_ ?_
  ·exact ⟨eG _,O,fun _ _ h=>h⟩
  clear H;rintro ⟨m,g3⟩ a w hI H;dsimp only at hI H;obtain ⟨hm1,hm2,hg3⟩:=hI;dsimp only [lca,bM] at H;refine bO (fun _ K6=>?_);refine bO (fun _ K7=>?_)
  obtain ⟨km,hkm⟩:∃ km:Int,∀ (h:m < (y :: r).length),(y :: r)[m].key=km:=by
   by_cases h:m < (y :: r).length
   ·exact ⟨((y :: r)[m]'h).key,fun _=>rfl⟩
   exact ⟨0,fun h2=>absurd h2 h⟩
  have hkc:m < (y :: r).length->aH g b (o+m*4+1)=some (vi km):=fun h=>by
   obtain ⟨b',o',he,hrm⟩:=Fz qJ (k:=m) h
   injection he with he
   injection he with e1 e2
   subst e1 e2;rw [<- hkm h];exact hrm 1 _ M
  have hlen:(y :: r).length=r.length+1:=rfl
  have hdc:(y :: r).length<=d:=by
   obtain ⟨_,_,he,h1,-,-⟩:=qJ.slice
   injection he with _ _ e3
   rw [bS] at h1
   omega
  have htl:(r.takeWhile p).length<=r.length:=(List.takeWhile_sublist (l:=r) p).length_le
  by_cases c0:(m:Int) < ((y :: r).length:Int)
  ·skip;refine dI hmx [[],[],[1],[0,1,2],ra 0 4,ra 0 5,ra 0 5,ra 0 7,ra 0 8,ra 0 9,ra 0 5,[0,1,2,3,4,10],[0,1,2,3,4,10,11],[0,1,2,3,4,10,11,12],ra 0 14,ra 0 15] [] V [_,_,_,_,_,_,_,(aK b (o+m*4)),_,_,_,(aK b (o+0*4)),_,_,_,_] H (ay (Z0 M (Rm M)) (Z0 M (Rm M)) (Z1 1 12 M (Rl lU M)) (Z2 0 11 2 13 M (Rc M)) (ay (Z1 3 14 M (Rm M)) (Z1 4 15 M (YM (aI c0) M)) (Z1 4 15 M (YM (aI c0) M)) ?_ (ay (Z2 7 18 4 15 M (YF yQ (aI c0) M)) (X2 8 19 4 15 M fun hG=>YR aF (aI c0) M (aC hG (aC hg3 (hkc O)))) (Z1 4 15 M (YM (aI c0) M)) ?_ (ay (Z2 11 22 4 15 M (YF yQ (aI c0) M)) (X2 12 23 4 15 M fun hG=>YR aF (aI c0) M (aC hG (aC hg3 (hr0 1 _ M)))) (Z3 9 20 13 24 4 15 M (YC (aI c0) M)) (Z2 4 15 14 25 M (Pt (aI c0) M)) dB)))) ?_
   ·refine Dj 5 16 6 17 4 15 M M fun _ a w G1 hG HT H fin=>?_;refine zZ lU jP m H (wg H M M (aI c0)) M M M O M ?_;exact jG
   ·refine eT 10 21 4 15 M M fun _ a w G1 hG HT H fin=>?_;refine zZ lU jP 0 H (wg H M M (aI c0)) M M M (by simp) M ?_;exact jG
   clear H;intro a w G rZ H hv;have H:=H.aN (hv 15 26 M M) M;clear hv;refine aG ⟨M,?_⟩;refine K7 _ _ ?_;clear K7;refine jw H M ?_ ?_
   ·intro jB
    try have p26:=dT jB
    have hmr:m - 1 < (r.takeWhile p).length:=by
     refine (Z9 (p:=p) r (m - 1) O O).1 ?_;have h1:=hkm O
     have h2:(y :: r)[m]=r[m - 1]:=by
      obtain ⟨q,rfl⟩:∃ q,m=q+1:=⟨m - 1,O⟩
      rfl
     rw [hp];rw [h2] at h1;exact mP (by rw [h1];exact p26)
    refine kP H (Kc K6 (SB (SC (Rm M (Rd M (Ra M ?_))))));clear H K6;intro a H;refine aG ?_;refine dY ((m+1,_)) (by exact H.sub ⟨M,M,M,aB⟩) ?_
    (try dsimp only);exact ⟨O,O,fun b o h=>rZ b o (hg3 b o h)⟩
   intro jB
   try have p26:=dF jB
   refine dQ ?_;refine K5 _ _ ?_;clear K5;refine bO (fun _ K8=>?_);refine bO (fun _ K9=>?_)
   have hmr:m=1+(r.takeWhile p).length:=by
    exact acD
   have htk:(y :: r).take m=y :: r.takeWhile p:=by rw [hmr,Nat.add_comm,List.take_succ_cons,ajT]
   have hdr:(y :: r).drop m=r.dropWhile p:=by rw [hmr,Nat.add_comm,xG,ajS]
   rw [<- htk,<- hdr] at lD;refine dI hmx [[],[],[1],[1,2],[1,2,3],[],[],[5,6],ra 0 8,ra 0 9] [8,9] V [_,_,(aK b (o+0*4)),_,_,_,_,.slice (some ⟨b,o,none⟩) m d] H (ay (Z0 M (Rm M)) (Z0 M (Rm M)) ?_ (Z1 2 31 M (Rf yQ M)) (ay (X1 3 32 M fun hG=>Rg aF M (aC hG (aC rZ (aC hg3 (hr0 1 _ M))))) (Z0 M (Rm M)) (Z0 M (Rm M)) ?_ (bN (bT M) (bN (bT M) dB)))) ?_
   ·exact acn
   ·exact ach
   clear H;intro a w G oD H hv;have H:=H.aN (hv 0 29 M M) M;have H:=H.aN (hv 4 33 M M) M;have H:=H.aN (hv 7 36 M M) M;clear hv;refine El (Li:=[]) (L:=Lt) H wn M M (hcb j1 _ _ _ _ ⟨_,lD.head,_,M,by rw [List.map_take];exact ((qJ.hd m (by simp;omega)).mono fun b o h=>oD b o (rZ b o (hg3 b o h)))⟩ (fun b o h=>oD b o (rZ b o (hg3 b o (hgm b o h)))) (zO _ _ _ _ (fun b o h=>oD b o (rZ b o (hg3 b o h))) lD.now) (Hp.owns (Li:=[]) H.hp)) M ?_;clear H;rintro v37 PS P6 a w ⟨b37,rfl,hb1,hb2⟩ XY H;refine kH H (Rn M ?_);clear H;intro a H;refine aG ⟨M,?_⟩;refine K9 _ _ ?_;clear K9;refine jw H M ?_ ?_
   ·exact abO
   intro fU
   try have p38:=dF fU
   refine kP H (Kc K8 (SC (Rm M (Rm M ?_))));clear H K8;intro a H;refine CW lU jP m H wn M M M O M ?_;clear H;intro a H;refine kH H (Ra M ?_);clear H;intro a H;refine aG ?_;refine Y1 ((f,(y :: r).drop m,_,d - m,j1+1,P6,PS)) (by exact (show St _ _ _ _ _ _ _ ((3,.slice _ ((y :: r).drop m).length (d - m)) :: _) _ _ from by rw [List.length_drop];exact H).sub ⟨M,M,aB⟩) ?_ ?_
   ·exact acE
   show ((y :: r).drop m).length < (y :: r).length;rw [List.length_drop];omega
  skip;refine dI hmx [[],[],[1],[0,1,2],ra 0 4,ra 0 5,ra 0 5,ra 0 7,ra 0 8,ra 0 9,ra 0 5,[0,1,2,3,4,10],[0,1,2,3,4,10,11],[0,1,2,3,4,10,11,12],ra 0 14,ra 0 15] [] V [_,_,_,_,_,undef,undef,undef,undef,undef,undef,undef,undef,undef,undef,_] H (ay (Z0 M (Rm M)) (Z0 M (Rm M)) (Z1 1 12 M (Rl lU M)) (Z2 0 11 2 13 M (Rc M)) (ay (Z1 3 14 M (Rm M)) (aZ 4 (aY c0) M M) (aZ 4 (aY c0) M M) (aZ 4 (aY c0) M M) (ay (aZ 4 (aY c0) M M) (aZ 4 (aY c0) M M) (aZ 4 (aY c0) M M) (aZ 4 (aY c0) M M) (ay (aZ 4 (aY c0) M M) (aZ 4 (aY c0) M M) (aZ 4 (aY c0) M M) (Z2 4 15 14 25 M (Pf (aY c0) M)) dB)))) ?_
  clear H;intro a w G rZ H hv;have H:=H.aN (hv 15 26 M M) M;clear hv;refine aG ⟨M,?_⟩;refine K7 _ _ ?_;clear K7;refine sQ H M M ?_;refine dQ ?_;refine K5 _ _ ?_;clear K5;refine bO (fun _ aR=>?_);refine bO (fun _ bq=>?_)
  have hmr:m=1+(r.takeWhile p).length:=by
   exact acD
  have htk:(y :: r).take m=y :: r.takeWhile p:=by rw [hmr,Nat.add_comm,List.take_succ_cons,ajT]
  have hdr:(y :: r).drop m=r.dropWhile p:=by rw [hmr,Nat.add_comm,xG,ajS]
  rw [<- htk,<- hdr] at lD;refine dI hmx [[],[],[1],[1,2],[1,2,3],[],[],[5,6],ra 0 8,ra 0 9] [8,9] V [_,_,(aK b (o+0*4)),_,_,_,_,.slice (some ⟨b,o,none⟩) m d] H (ay (Z0 M (Rm M)) (Z0 M (Rm M)) ?_ (Z1 2 31 M (Rf yQ M)) (ay (X1 3 32 M fun hG=>Rg aF M (aC hG (aC rZ (aC hg3 (hr0 1 _ M))))) (Z0 M (Rm M)) (Z0 M (Rm M)) ?_ (bN (bT M) (bN (bT M) dB)))) ?_
  ·exact acn
  ·exact ach
  clear H;intro a w G oD H hv;have H:=H.aN (hv 0 29 M M) M;have H:=H.aN (hv 4 33 M M) M;have H:=H.aN (hv 7 36 M M) M;clear hv;refine El (Li:=[]) (L:=Lt) H wn M M (hcb j1 _ _ _ _ ⟨_,lD.head,_,M,by rw [List.map_take];exact ((qJ.hd m (by simp;omega)).mono fun b o h=>oD b o (rZ b o (hg3 b o h)))⟩ (fun b o h=>oD b o (rZ b o (hg3 b o (hgm b o h)))) (zO _ _ _ _ (fun b o h=>oD b o (rZ b o (hg3 b o h))) lD.now) (Hp.owns (Li:=[]) H.hp)) M ?_;clear H;rintro v37 PS P6 a w ⟨b37,rfl,hb1,hb2⟩ XY H;refine kH H (Rn M ?_);clear H;intro a H;refine aG ⟨M,?_⟩;refine bq _ _ ?_;clear bq;refine jw H M ?_ ?_
  ·exact abO
  intro fU
  try have p38:=dF fU
  refine kP H (Kc aR (SC (Rm M (Rm M ?_))));clear H aR;intro a H;refine CW lU jP m H wn M M M O M ?_;clear H;intro a H;refine kH H (Ra M ?_);clear H;intro a H;refine aG ?_;refine Y1 ((f,(y :: r).drop m,_,d - m,j1+1,P6,PS)) (by exact (show St _ _ _ _ _ _ _ ((3,.slice _ ((y :: r).drop m).length (d - m)) :: _) _ _ from by rw [List.length_drop];exact H).sub ⟨M,M,aB⟩) ?_ ?_
  ·exact acE
  show ((y :: r).drop m).length < (y :: r).length;rw [List.length_drop];omega
 intro h10 a H
 try have jc:=dF h10
 refine dQ ?_;refine (leave0 H results212 ?_).2
 exact abr
theorem awv (G:GH) (w0:World) (hG:Hold G w0) (h:dN) (p d l:ah) (hh:jr G h p d l) (hz:h.marks.layers.length<=4294967290) :
  Calls prog 160 #[sj h p d l] w0 (bG w0 G fun u G'=>∃ bd,u=.func (.func 212) #[] #[(aK bd 0)]∧Iter prog G' u ((qY h.marks.layers.length h.marks.layers).map gP)):=by
 obtain ⟨pA,pn,pc,rfl⟩:=hh.props.form;obtain ⟨dA,dn,dc,rfl⟩:=hh.bK.form;obtain ⟨lA,ln,lc,rfl⟩:=hh.layers.form;refine eN [(0,_)] func160 M ntmps160 M M hG ?_;intro a H;refine dz (fun _ K1=>?_);refine dR (cs:=[_,_,_,_,_]) H wn M M M ?_;clear H;intro b1 a w hb1 H;refine kH H (aj K1 M (SR fun _ K2=>?_));clear H K1;intro a H;refine uJ H wn M M ?_;clear H;intro a H;refine kH H (aj K2 M ?_);clear H K2;intro a H;refine fE ?_;obtain ⟨G2,hm2,hb1,H⟩:=H.fF;refine lv H results160 M ?_;exact H.rt ⟨b1,M,asx (v:=.slice lA ln lc) (by unfold aH;rw [hb1];rfl) (hh.layers.mono hm2) hz⟩
theorem lY {G:GH} {b:Nat} {cs:List ah} {e:TypeId} {q:Nat × Nat} (h:G b=some (.cells cs.toArray e q)) (k:Nat) (ds:List ah) (hd:ds=(cs.drop k).take ds.length) (j:Nat) (v:ah) (hj:ds[j]?=some v):aH G b (k+j)=some v:=by
 unfold aH
 rw [h]
 show cs.toArray[k+j]?=some v
 rw [hd,uN] at hj
 split at hj
 ·simpa using hj
 cases hj
end Go.Proofs.YtdiflmikikiedaaGreat
