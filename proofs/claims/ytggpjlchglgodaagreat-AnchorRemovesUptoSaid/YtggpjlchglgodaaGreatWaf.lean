/-
  What the claim stands on, part 6: Dcl Nml Nd13 Ne13 Sb13 Rb13 Npre Odc Rpf Cx13 Cy13 Sfp Sf13 Dpi Rbg Sfg An13 Rm16 En Spn16 Ml16 Dn Ms16 Fd16 Kt K16 Sm16 Dwe Re16.
-/
import Derived.Test.YtggpjlchglgodaaGreatWae
namespace Go.Proofs.YtggpjlchglgodaaGreat
set_option linter.all false
open Go.Proofs.Tryz
open Go.RowKit
theorem aeJ:aW 113:=aY func113 O
theorem aqB:aW 191:=aY func191 O
theorem akU:qW prog 38 [(0,1),(1,5),(6,1),(7,4)] [.slice none 0 0,.slice none 0 0,.int .i64 0,.int .i64 0,.slice none 0 0,.slice none 0 0,.slice none 0 0,.slice none 0 0,.slice none 0 0,.slice none 0 0,.slice none 0 0]:=⟨Z,Z⟩
theorem aoQ (G:GH) (w0:World) (hO:fM G [] w0) (l:List ak) (v:ah) (hv:av G (.sl 11 (l.map ak.dat)) v) (hz:aP l<=4294967296) :
  Calls prog 71 #[v] w0 (fB w0 G [] fun u G' L'=>∃ xs,bV 128 11 u l.length xs L'∧bT G' 11 (l.map ak.dat) xs):=by
 have ih:=Qm 4294967297 V;have hl:=Au l;refine iB (N:=5) (T:=[(0,_)]) func71 O ntmps71 O O hO ?_;intro a H;refine kP H (SR fun _ K1=>au K1 O (SR fun _ K2=>Rm O ?_));clear H K1;intro a H;refine gD aeO (Li:=[]) (L:=[]) H wn O (aez (fun x=>x) _ _ (wR H.ro) l _ _ hv V (fun y hy=>adW (n:=4294967296) (Qm 4294967296 V) V y (by have:=LM hy;omega))) rfl ?_;clear H;rintro v4 G4 L4 a w ⟨xs4,aww,auX⟩ Kl H;dsimp only [List.nil_append] at H;exact kH H (au K2 O (LR results71 O fun H=>H.hp.gI ⟨xs4,aww,auX⟩))
def amh (G:GH) (D:jd) (d:jD) (L:OL):Prop :=
 ∃ xf Lf xr Lr,L=Lf++Lr∧bV 128 11 (bX D.f) d.flow.length xf Lf∧bT G 11 (d.flow.map ak.dat) xf∧bV 91 3 (bX D.r) d.revs.length xr Lr∧bT G 3 (d.revs.map dw.dat) xr ∧
  jI G d.fin (bX D.p) (bX D.d) (bX D.y)∧D.ins=d.fin.marks.ins∧D.move=d.fin.marks.move∧AB G d.nS (bX D.s1) (bX D.s2) (bX D.s3) (bX D.s4)
theorem adz {p:Prop} (h:p:=by
 (iterate 14 (rcases i with _|i;(first|exact h|exact absurd hi Q1|exact absurd hc Q1)));exact trivial):p:=h
set_option maxHeartbeats 2000000 in
theorem apA (G:GH) (w0:World) (hO:fM G [] w0) (D:jd) (d:jD) (hR:mU G D d) (hz:sP d) :
  Calls prog 116 #[D.val] w0 (fB w0 G [] fun u G' L'=>∃ D':jd,u=D'.val∧amh G' D' d L'):=by
 obtain ⟨hfl,hhd,hins,hmv,wO,hst⟩:=hR;obtain ⟨zf,zh,zr,zt,zs,IY⟩:=hz;refine iB (N:=16) (T:=[(0,_)]) func116 O ntmps116 O O hO ?_;intro a H;refine dH (fun _ K1=>?_);refine eB (cs:=[_,_,_,_,_,_,_,_,_,_,_]) H wn O O O ?_;clear H;intro b1 a w hb1 H;refine dR jH H wn O ?_;clear H;intro b2 a w hb2 H;refine K1 _ _ ?_;clear K1;refine bP (fun _ K2=>?_);have H:=H.dV (Pl:=[_,_]) (dL:=[_,_]) [1,0] Q1 O;obtain ⟨Ga,hma,hb1',H⟩:=H.fJ;have hga:=fun j v hj=>tC hb1' 0 D.cells O j v hj;replace hfl:=hfl.mono hma;replace hhd:=hhd.mono hma;replace wO:=wO.mono hma;replace hst:=hst.mono hma
 have gK:Mo1 (fun (dW:Nat->ah × OL) (dK:Nat) (v:ah) (G:GH)=>match dK with|0=>v=(aJ b1 0)|1=>v=bX D.f|2=>v=(dW 2).1∧∃ xs,bV 128 11 v d.flow.length xs (dW 2).2∧bT G 11 (d.flow.map ak.dat) xs|3=>v=(aJ b1 1)|4=>v=vJ d.fin (bX D.p) (bX D.d) (bX D.y)|5=>∃ p y z,v=.agg #[p,vi d.fin.marks.ins,vi d.fin.marks.move,y,z]∧jI G d.fin p y z|6=>v=(aJ b1 6)|7=>v=bX D.r|8=>v=(dW 8).1∧∃ xs,bV 91 3 v d.revs.length xs (dW 8).2∧bT G 3 (d.revs.map dw.dat) xs|9=>v=(aJ b1 7)|10=>v=.agg #[bX D.s1,bX D.s2,bX D.s3,bX D.s4]|11=>∃ a' b' c' d',v=.agg #[a',b',c',d']∧AB G d.nS a' b' c' d'|_=>True):=by intro dW dK v G G' hm h;(iterate 14 (rcases dK with _|dK;(first|exact h|exact let ⟨h1,xs,h2,h3⟩:=h;⟨h1,xs,h2,h3.mono hm⟩|exact let ⟨p,y,z,h1,h2⟩:=h;⟨p,y,z,h1,h2.mono hm⟩|exact let ⟨p,q,y,z,h1,h2⟩:=h;⟨p,q,y,z,h1,h2.mono hm⟩)));exact trivial
 refine adI [2,8] (hmx) [[],[0],[0,1],[],[3],ra 0 5,[],[6],ra 0 8,[],[9],ra 0 11,ra 0 12,ra 0 13] [12,13] Z Z Q1 Z (fun (dW:Nat->ah × OL) (dK:Nat) (v:ah) (G:GH)=>match dK with|0=>v=(aJ b1 0)|1=>v=bX D.f|2=>v=(dW 2).1∧∃ xs,bV 128 11 v d.flow.length xs (dW 2).2∧bT G 11 (d.flow.map ak.dat) xs|3=>v=(aJ b1 1)|4=>v=vJ d.fin (bX D.p) (bX D.d) (bX D.y)|5=>∃ p y z,v=.agg #[p,vi d.fin.marks.ins,vi d.fin.marks.move,y,z]∧jI G d.fin p y z|6=>v=(aJ b1 6)|7=>v=bX D.r|8=>v=(dW 8).1∧∃ xs,bV 91 3 v d.revs.length xs (dW 8).2∧bT G 3 (d.revs.map dw.dat) xs|9=>v=(aJ b1 7)|10=>v=.agg #[bX D.s1,bX D.s2,bX D.s3,bX D.s4]|11=>∃ a' b' c' d',v=.agg #[a',b',c',d']∧AB G d.nS a' b' c' d'|_=>True) (fun m hm x y i v G hi hc h=>by
  have hm:m=2∨m=8:=by simpa using hm
  rcases hm with rfl|rfl
  ·exact adz
  ·exact adz
  ) H ?_ ?_ ?_
 ·clear H;refine aC ?_ ?_ ?_ ?_ (aC ?_ ?_ ?_ ?_ (aC ?_ ?_ ?_ ?_ (bK ?_ (bK ?_ dG))))
  ·intro dW jU bC a w G1 kU _ _ aV hc hG HT hv;have H:=HT;clear aV;have Hb:=H.full;have H:=Hb;clear hc;refine kH H (Rf wJ O ?_);exact vv
  ·intro dW jU bC a w G1 kU _ _ aV hc hG HT hv;have H:=HT;clear aV;have H:=H.aQ (hv 0 3 (hc 0 Q1) O) O;have Hb:=H.full;have H:=Hb;clear hc;refine kH H (Rg fC O (aK hG (hga 0 _ O)) ?_);exact vv
  ·exact Jz
  ·intro dW jU bC a w G1 kU _ _ aV hc hG HT hv;have H:=HT;clear aV;have Hb:=H.full;have H:=Hb;clear hc;refine kH H (Rf JW O ?_);exact vv
  ·intro dW jU bC a w G1 kU _ _ aV hc hG HT hv;have H:=HT;clear aV;have H:=H.aQ (hv 3 6 (hc 3 Q1) O) O;have Hb:=H.full;have H:=Hb;clear hc;refine bq nT (cs:=[bX D.p,vi d.fin.marks.ins,vi d.fin.marks.move,bX D.d,bX D.y]) H wn O O (fun j v hj=>H.hp.aI (aK hG (by rw [<- hins,<- hmv] at hj;exact tC hb1' 1 _ O j v hj))) O ?_;exact vv
  ·intro dW jU bC a w G1 kU _ _ aV hc hG HT hv;have H:=HT;clear aV;have H:=H.aQ (hv 4 7 (hc 4 Q1) O) O;have Hb:=H.full;have H:=Hb;clear hc;refine s_call MZ H wn O (MN _ _ H.ro d.fin _ _ _ _ _ _ _ _ _ (hhd.mono hG) zh) O ?_;clear H;rintro v8 G8 a w oW vE H;refine aF ⟨O,?_⟩;exact pQ Z (gK dW) O O HT Hb hG hv vE (oW) H
  ·intro dW jU bC a w G1 kU _ _ aV hc hG HT hv;have H:=HT;clear aV;have Hb:=H.full;have H:=Hb;clear hc;refine kH H (Rf JX O ?_);exact vv
  ·intro dW jU bC a w G1 kU _ _ aV hc hG HT hv;have H:=HT;clear aV;have H:=H.aQ (hv 6 9 (hc 6 Q1) O) O;have Hb:=H.full;have H:=Hb;clear hc;refine kH H (Rg BU O (aK hG (hga 6 _ O)) ?_);exact vv
  ·exact Jz
  ·intro dW jU bC a w G1 kU _ _ aV hc hG HT hv;have H:=HT;clear aV;have Hb:=H.full;have H:=Hb;clear hc;refine kH H (Rf Nf O ?_);exact vv
  ·intro dW jU bC a w G1 kU _ _ aV hc hG HT hv;have H:=HT;clear aV;have H:=H.aQ (hv 9 12 (hc 9 Q1) O) O;have Hb:=H.full;have H:=Hb;clear hc;refine bq BX (cs:=[bX D.s1,bX D.s2,bX D.s3,bX D.s4]) H wn O O (fun j v hj=>H.hp.aI (aK hG (tC hb1' 7 _ O j v hj))) O ?_;exact vv
  ·intro dW jU bC a w G1 kU _ _ aV hc hG HT hv;have H:=HT;clear aV;have H:=H.aQ (hv 10 13 (hc 10 Q1) O) O;have Hb:=H.full;have H:=Hb;clear hc;refine s_call aqB H wn O (apa _ _ H.ro d.nS _ _ _ _ (hst.mono hG) zs IY.ln IY.cn IY.vn IY.pl IY.ll) O ?_;exact acu
  ·intro _ _ _ _ _ _ _ hB;exact jW
  intro _ _ _ _ _ _ _ hB;exact jW
 ·clear H;refine aC ?_ ?_ ?_ ?_ (aC ?_ ?_ ?_ ?_ (aC ?_ ?_ ?_ ?_ (bK ?_ (bK ?_ dG))))
  ·intro hB;exact jW
  ·intro hB;exact jW
  ·intro _ dW jU bC a w G1 kU _ hc hG HT hv;have H:=HT;have H:=H.aQ (hv (.bool false,[]) 1 4 Q1 (hc 1 Q1) O) O;have Hb:=H.full;have H:=Hb;clear hc;refine gD Qv (Li:=jU) (L:=[]) (H.cast (jV _).symm) wn O (aoQ _ _ (wR H.ro) d.flow _ (hfl.mono hG) V) O ?_;clear H;rintro v5 G5 L5 a w ⟨xs5,awy,auY⟩ Bn H;have H:=H.perm um;refine aF ⟨O,(v5,L5),?_⟩;exact EO Z (gK (zG dW 2 (v5,L5))) O HT Hb hG (fun j e h1 h2 h3=>hv (v5,L5) j e h1 h2 h3) Bn (⟨O,xs5,awy,auY⟩) H
  ·intro hB;exact jW
  ·intro hB;exact jW
  ·intro hB;exact jW
  ·intro hB;exact jW
  ·intro hB;exact jW
  ·intro _ dW jU bC a w G1 kU _ hc hG HT hv;have H:=HT;have H:=H.aQ (hv (.bool false,[]) 7 10 Q1 (hc 7 Q1) O) O;have Hb:=H.full;have H:=Hb;clear hc;refine gD aeJ (Li:=jU) (L:=[]) (H.cast (jV _).symm) wn O (adX _ _ (wR H.ro) _ _ _ _ (wO.mono hG) (by simpa using zr)) O ?_;clear H;rintro v11 Dl Gg a w ⟨LK,Ad,Kh⟩ lH H;rw [bR] at Ad;have H:=H.perm um;refine aF ⟨O,(v11,Gg),?_⟩;exact EO Z (gK (zG dW 8 (v11,Gg))) O HT Hb hG (fun j e h1 h2 h3=>hv (v11,Gg) j e h1 h2 h3) lH (⟨O,LK,Ad,Kh⟩) H
  ·intro hB;exact jW
  ·intro hB;exact jW
  ·intro hB;exact jW
  ·intro hB;exact jW
  intro hB;exact jW
 clear H;intro dW a w G jA H hv
 simp only [rE,List.flatMap_cons,List.flatMap_nil,cond_true,jV,gY] at H
 obtain ⟨u5,Ic,vM⟩:=hv 2 5 Q1 O;(try dsimp only at vM);obtain ⟨h5,xf,KG,Xy⟩:=vM;obtain ⟨fA,fc,rfl,-,-⟩:=KG.shape;have H:=H.fV Ic;obtain ⟨u8,Bz,oW⟩:=hv 5 8 Q1 O;(try dsimp only at oW);obtain ⟨p8,y8,z8,rfl,Rb⟩:=oW;obtain ⟨a1,a2,a3,rfl⟩:=Rb.props.form;obtain ⟨a4,a5,a6,rfl⟩:=Rb.dJ.form;obtain ⟨a7,a8,a9,rfl⟩:=Rb.layers.form;have H:=H.fV Bz;obtain ⟨OD,Bw,oG⟩:=hv 8 11 Q1 O;(try dsimp only at oG);obtain ⟨h11,xr,KH,XA⟩:=oG;obtain ⟨rA,rc,rfl,-,-⟩:=KH.shape;have H:=H.fV Bw;obtain ⟨u14,N7,xO⟩:=hv 11 14 Q1 O;(try dsimp only at xO);obtain ⟨lJ,q14,y14,z14,rfl,NW⟩:=xO;obtain ⟨c1,c2,c3,rfl⟩:=NW.st.form;obtain ⟨c4,c5,c6,rfl⟩:=NW.li.form;obtain ⟨c7,c8,c9,rfl⟩:=NW.cm.form;obtain ⟨d1,d2,d3,rfl⟩:=NW.va.form;have H:=H.fV N7;clear hv;obtain ⟨⟨vF,LF⟩,eF⟩:∃ y,y=dW 2:=⟨_,O⟩;obtain ⟨⟨vR,LR⟩,eR⟩:∃ y,y=dW 8:=⟨_,O⟩;rw [<- eF,<- eR] at H;rw [<- eF] at KG h5;rw [<- eR] at KH h11;dsimp only at H KG KH h5 h11;subst h5;subst h11;rw [<- gY] at H;have H:=H.perm (um (l₁:=LF++LR) (l₂:=[_]));dsimp only [lca,bD] at H;refine kg akU [_,_,_,_,_,_,_,_,_,_,_] H wn O O O O ?_;clear H;intro a H;refine bM jH 0 (vs:=[_,_,_,_,_,_,_,_,_,_,_]) H wn O ?_;clear H;intro w H;refine aF ⟨O,?_⟩;refine K2 _ _ ?_;clear K2;refine gu ?_;refine (leave1 H results116 (.cons (vX jH (cs:=[_,_,_,_,_,_,_,_,_,_,_]) H O O (H.hp.dD 0 O O)) .nil) ?_).1;exact H.hp.kJ (L':=LF++LR) (Dq _ _) ⟨⟨(fA,d.flow.length,fc),(a1,a2,a3),(a4,a5,a6),(a7,a8,a9),(rA,d.revs.length,rc),(c1,c2,c3),(c4,c5,c6),(c7,c8,c9),(d1,d2,d3),d.fin.marks.ins,d.fin.marks.move⟩,O,xf,LF,xr,LR,O,KG,Xy,KH,XA,Rb,O,O,NW⟩
theorem apP:aW 115:=aY func115 O
theorem apN:aW 112:=aY func112 O
theorem apQ:aW 116:=aY func116 O
theorem apM:aW 111:=aY func111 O
theorem apO:aW 114:=aY func114 O
theorem aCt {G:GH} {b3:Nat} {us:List Int} {uv:ah} (hb:aI G b3 0=some uv) (hu:av G (.sl 1 (us.map fun k=>[li k])) uv) (hl:us.length<=4294967296) (x:dw):uW (.func (.func 114) #[] #[(aJ b3 0)]) G x.dat (!xK us x.id):=by
 intro G1 w0 cs hm hG hr;obtain rfl:=Zx hr;replace hb:=aK hm hb;replace hu:=hu.mono hm;obtain ⟨uA,uc,rfl,-,-,-⟩:=hu.slice;refine kG (caps:=[(aJ b3 0)]) apO ?_;refine eN [(0,_),(1,_)] func114 O ntmps114 O O hG ?_;intro a H;refine dH (fun _ K1=>?_);refine eB (cs:=[_,_,_]) H wn O O O ?_;clear H;intro b2 a w hb2 H;refine kH H (au K1 O (SR fun _ K2=>Rg IL O hb (aU WG aD 0 O O ?_)));clear H K1;intro a H;refine s_call apP H wn O (anR _ _ H.ro us x.id _ hu hl) O ?_;clear H;rintro v10 tZ a w ⟨rfl,rfl⟩ tH H;refine kH H (Rm O ?_);clear H;intro a H;(iterate 2 refine ko H wn O O O ?_;clear H;intro a H);exact kH H (Ra O (au K2 O (SR fun _ K3=>Rm O (Rn O (au K3 O (LR results114 O fun H=>H.rt O))))))
def uJ (d:jD):jD:=⟨iy d.flow,d.fin,d.revs,d.nS⟩
def nD (d:jD):jD:=⟨iy d.flow,d.fin,d.revs.filter fun r=>xK (Ak (rR (uJ d))) r.id,d.nS⟩
theorem aAe (G:GH) (l:List dw):bT G 3 (l.map dw.dat) (oK l):=by
 have h:∀ (B A:List dw),bT G 3 (A.map dw.dat) (oK A)->bT G 3 ((A++B).map dw.dat) (oK (A++B)):=by
  intro B
  induction B with
  | nil=>intro A h;rw [jV];exact h
  | cons x B ih =>
   intro A h;have h2:=h.snoc (Zy G x) O;have h3:=ih (A++[x]) (by rw [Zu,jM];exact h2)
   simpa using h3
 exact h l [] bT.nil
set_option maxHeartbeats 2000000 in
set_option maxRecDepth 8000 in
theorem aeu (G:GH) (w0:World) (hG:Hold G w0) (D:jd) (d:jD) (hR:mU G D d) (hz:sP d) (hne:lq d.flow) (hz2:aP (iy d.flow)<=1073741824) (hw:∀ k∈rR (uJ d),-9223372036854775808<=k∧k < 9223372036854775808) (hl:(rR (uJ d)).length<=4294967296) :
  Calls prog 44 #[D.val] w0 (bG w0 G fun u G'=>∃ D':jd,u=D'.val∧mU G' D' (nD d)):=by
 obtain ⟨df,dp,dd,dy,dr,d1,d2,d3,d4,ins,mv⟩:=D;obtain ⟨zf,zh,zr,zt,zs,IY⟩:=hz;refine eN [(0,_)] func44 O ntmps44 O O hG ?_;intro a H;refine dH (fun _ K1=>?_);refine eB (cs:=[_,_,_,_,_,_,_,_,_,_,_]) H wn O O O ?_;clear H;intro b1 a w hb1 H;refine dR jH H wn O ?_;clear H;intro b2 a w hb2 H;refine K1 _ _ ?_;clear K1;refine kP H (SR fun _ K2=>aU wJ fC 1 O O ?_);clear H;intro a H;refine s_call JL H wn O (ajn _ _ H.ro d.flow _ hR.fl hne zf) O ?_;clear H;rintro v6 G6 a w hv6 H8 H;obtain ⟨fA,fn,fc,rfl⟩:=hv6.form;have Bo:mU G6 ⟨(fA,fn,fc),dp,dd,dy,dr,d1,d2,d3,d4,ins,mv⟩ (uJ d):=⟨hv6,hR.hd.mono H8,hR.ins,hR.mv,hR.rv.mono H8,hR.st.mono H8⟩;refine kH H (Rf wJ O ?_);clear H;intro a H;refine bM fC 1 (vs:=[_]) H wn O ?_;clear H;intro w H;refine K2 _ _ ?_;clear K2;refine dH (fun _ K3=>?_);refine bq jH (cs:=(⟨(fA,fn,fc),dp,dd,dy,dr,d1,d2,d3,d4,ins,mv⟩:jd).cells) H wn O O (H.hp.dD 1 O O) O ?_;clear H;intro a H;refine s_call apM H wn O (apC _ _ H.ro _ _ Bo (by show aP (iy d.flow)<=_;omega) hw hl) rfl ?_;clear H;rintro v9 G9 a w RB yY H;obtain ⟨uA,un,uc,rfl⟩:=RB.form;refine dR IL H wn O ?_;clear H;intro b3 a w hb3 H;refine bM IL 0 (vs:=[_]) H wn O ?_;clear H;intro w H;refine K3 _ _ ?_;clear K3;refine bP (fun _ K4=>?_);obtain ⟨Gb,hmb,Bp,H⟩:=H.fJ;have hq3:aI Gb b3 0=some (.slice uA un uc):=tC Bp 0 [.slice uA un uc] O 0 _ O;replace RB:=RB.mono hmb;replace Bo:=(Bo.mono yY).mono hmb;refine kP H (SC (aU JX BU 1 O O ?_));clear H;intro a H;refine gD aeJ (Li:=[_,_]) (L:=[]) H wn O (adX _ _ (wR H.ro) _ _ _ _ Bo.rv (by simpa [uJ] using zr)) O ?_;clear H;rintro v12 Dm L12 a w ⟨aEv,KE,auV⟩ Bt H;obtain rfl:=aAf auV;rw [bR] at KE;obtain ⟨rA,rc,rfl,-,-⟩:=KE.shape;refine wV H wn O O ?_;clear H;intro a H;refine gD apN (Li:=[_,_]) (L:=L12) H wn O (apx d.revs (fun r=>!xK (Ak (rR (uJ d))) r.id) (Hp.owns (Li:=[_,_]) H.hp) KE (fun x _=>aCt (aK Bt hq3) (RB.mono Bt) (by rw [Ak,List.length_mergeSort];exact hl) x)) O ?_;clear H;rintro v14 EA L14 a w Fw Kj H
 simp only [Bool.not_not] at Fw
 obtain ⟨Gr,hmr,ahG,H⟩:=St.qF (Li:=[_,_]) H Fw (rows:=(nD d).revs.map dw.dat) (by simp [nD]) (aAe _ _);obtain ⟨rB,rn,rd,rfl⟩:=ahG.form;replace Bo:=((Bo.mono Bt).mono Kj).mono hmr;have hR2:mU Gr ⟨(fA,fn,fc),dp,dd,dy,(rB,rn,rd),d1,d2,d3,d4,ins,mv⟩ (nD d):=⟨Bo.fl,Bo.hd,Bo.ins,Bo.mv,ahG,Bo.st⟩;refine kH H (Rf JX O ?_);clear H;intro a H;refine bM BU 1 (vs:=[_]) H wn O ?_;clear H;intro w H;refine aF ?_;refine K4 _ _ ?_;clear K4;refine dH (fun _ K5=>?_);refine bq jH (cs:=(⟨(fA,fn,fc),dp,dd,dy,(rB,rn,rd),d1,d2,d3,d4,ins,mv⟩:jd).cells) H wn O O (H.hp.dD 1 O O) O ?_;clear H;intro a H;refine gD apQ (Li:=[_,_]) (L:=[]) H wn O (apA _ _ (wR H.ro) _ _ hR2 ⟨by show aP (iy d.flow)<=_;omega,zh,Nat.le_trans (List.length_filter_le _ _) zr,fun x hx=>zt x (List.mem_filter.1 hx).1,zs,IY⟩) O ?_;clear H;rintro v17 Ay L17 a w ⟨D',rfl,xf,Lf,xr,Lr,rfl,KG,Xy,KH,XA,avA,avC,avR,hst'⟩ tK H;obtain ⟨Gs,hms,awt,H⟩:=St.qF (Li:=[_,_]++Lf) (by rw [gY];exact H) KH (rows:=(nD d).revs.map dw.dat) (by simp) XA;obtain ⟨Gt,hmt,avw,H⟩:=St.qF (Li:=[_,_]) H KG (rows:=(nD d).flow.map ak.dat) (by simp) (Xy.mono hms);refine bM jH 0 (vs:=[_,_,_,_,_,_,_,_,_,_,_]) H wn O ?_;clear H;intro w H;refine K5 _ _ ?_;clear K5;refine gu ?_;refine (leave1 H results44 (.cons (vX jH (cs:=[_,_,_,_,_,_,_,_,_,_,_]) H O O (H.hp.dD 0 O O)) .nil) ?_).1;exact H.rt ⟨D',O,avw,(avA.mono hms).mono hmt,avC,avR,awt.mono hmt,(hst'.mono hms).mono hmt⟩
theorem QI {l:List Int} (h:∀ x∈l,x=0):eu l=0:=by
 induction l with
 | nil=>rfl
 | cons x l ih=>rw [h x eT];simp only [eu,ne_eq,not_true_eq_false,if_false];exact ih fun y hy=>h y (gH _ hy)
theorem UE {E:Nat->Int} {n:Nat} (h:∀ i,i < n->E i=0):kF E n=0:=QI fun x hx=>by
 obtain ⟨i,hi,rfl⟩:=List.mem_map.1 hx;exact h i (qD.1 hi)
def F9 (mg:List Int) (h:fH):Prop:=∀ q∈refs h,q≠0->q∈mg
theorem Q7 {C C':bN} {e:Int} {h:fH} (h1:C'.st=C.st) (h2:C'.nP=C.nP) (h0:0∉C.mg) (hin:F9 C'.mg h) (hE:iw C e h=0):iw C' e h=0:=by
 have z:=lG hE;have z1:=z (qZ e h.props) (by simp);have z2:=z (zu C h.props) (by simp);have z3:=z (jR C h.marks) (by simp);have z4:=z (kF (wE C h.marks.dJ) h.marks.dJ.length) (by simp);have z5:=z (dN (decide (64 < (h.marks.layers.length:Int))) 9) (by simp);have z6:=z (kF (BF C e h.marks.layers) h.marks.layers.length) (by simp);have hr:∀ q∈refs h,q=0∨q∈C.mg:=XC hE;refine QI fun x hx=>?_
 simp only [iD,List.not_mem_nil,or_false] at hx
 rcases hx with rfl|rfl|rfl|rfl|rfl|rfl
 ·exact z1
 ·rw [zu,h1,h2];exact z2
 ·unfold jR at z3 |-
  have hi:¬ (h.marks.ins≠0∧h.marks.ins∉C'.mg):=fun hn=>hn.2 (hin _ (by simp [refs]) hn.1)
  by_cases hq:h.marks.ins≠0∧h.marks.ins∉C.mg
  ·rw [aH hq] at z3;cases z3
  rw [ay hq] at z3;rw [ay hi];exact z3
 ·refine UE fun k hk=>?_;have h5:=EI z4 k hk
  unfold wE at h5 |-
  rw [fF hk] at h5 |-;dsimp only [yI] at h5 |-
  have hm:h.marks.dJ[k].rev∈refs h:=by simp only [refs,iD,iP,List.mem_map];exact .inr (.inl ⟨_,jl hk,O⟩)
  by_cases hq:h.marks.dJ[k].rev∉C.mg
  ·rw [aH hq] at h5;cases h5
  rw [ay hq] at h5;rw [ay (fun hn=>hn (hin _ hm fun e=>h0 (e ▸ nV.1 hq)))];exact h5
 ·exact z5
 refine UE fun k hk=>?_;have h5:=EI z6 k hk
 unfold BF at h5 |-
 rw [fF hk] at h5 |-;dsimp only [Im] at h5 |-
 have hm:h.marks.layers[k].rev∈refs h:=by simp only [refs,iD,iP,List.mem_map];exact .inr (.inr ⟨_,jl hk,O⟩)
 by_cases hq:h.marks.layers[k].rev∉C.mg
 ·rw [aH hq] at h5;cases h5
 rw [ay hq] at h5;rw [ay (fun hn=>hn (hin _ hm fun e=>h0 (e ▸ nV.1 hq))),h1,h2];exact h5
mutual
theorem aAL {C C':bN} (h1:C'.st=C.st) (h2:C'.nP=C.nP) (h0:0∉C.mg) (body note:Bool) (t:Int):∀ x:ak,(∀ h∈Hu x,F9 C'.mg h)->lY C body note t x->lY C' body note t x
 | .mk k c i tx h f r,hh,hx=>by
  have hf:=SN h1 h2 h0 false true t f;have hr:=akp h1 h2 h0 note (t+1) r;rw [Hu] at hh;rw [lY] at hx |-;refine ⟨hx.1,hx.2.1,Q7 h1 h2 h0 (hh h eT) hx.2.2.1,fun e=>?_,fun e=>⟨(hx.2.2.2.2 e).1,?_⟩⟩
  ·subst e;exact hf (fun y hy=>hh y (gH _ (by simpa using hy))) (hx.2.2.2.1 O)
  subst e;exact hr (fun y hy=>hh y (gH _ (by simpa using hy))) (hx.2.2.2.2 O).2
theorem aAM {C C':bN} (h1:C'.st=C.st) (h2:C'.nP=C.nP) (h0:0∉C.mg) (note:Bool) (t:Int):∀ x:aM,(∀ h∈Hz x,F9 C'.mg h)->qJ C note t x->qJ C' note t x
 | .mk h cs,hh,hx=>by
  have hc:=ako h1 h2 h0 note t cs;rw [Hz] at hh;rw [qJ] at hx |-;refine ⟨QI fun y hy=>?_,hc (fun y hy=>hh y (gH _ hy)) hx.2⟩;have z:=lG hx.1
  simp only [iD,List.not_mem_nil,or_false] at hy
  rcases hy with rfl|rfl|rfl
  ·exact Q7 h1 h2 h0 (hh h eT) (z _ eT)
  ·exact z _ (by simp)
  exact z _ (by simp)
theorem aAK {C C':bN} (h1:C'.st=C.st) (h2:C'.nP=C.nP) (h0:0∉C.mg) (note:Bool) (t:Int):∀ x:aN,(∀ h∈Hr x,F9 C'.mg h)->qI C note t x->qI C' note t x
 | .mk i h f,hh,hx=>by
  have hf:=SN h1 h2 h0 false note t f;rw [Hr] at hh;rw [qI] at hx |-;exact ⟨Q7 h1 h2 h0 (hh h eT) hx.1,hf (fun y hy=>hh y (gH _ hy)) hx.2⟩
theorem SN {C C':bN} (h1:C'.st=C.st) (h2:C'.nP=C.nP) (h0:0∉C.mg) (body note:Bool) (t:Int):∀ l:List ak,(∀ h∈oD l,F9 C'.mg h)->iQ C body note t l->iQ C' body note t l
 | [],_,_=>by rw [iQ];trivial
 | x :: l,hh,h=>by
  rw [oD] at hh;rw [iQ] at h |-;exact ⟨aAL h1 h2 h0 body note t x (fun y hy=>hh y (List.mem_append_left _ hy)) h.1,SN h1 h2 h0 body note t l (fun y hy=>hh y (List.mem_append_right _ hy)) h.2⟩
theorem akp {C C':bN} (h1:C'.st=C.st) (h2:C'.nP=C.nP) (h0:0∉C.mg) (note:Bool) (t:Int):∀ l:List aM,(∀ h∈zU l,F9 C'.mg h)->oh C note t l->oh C' note t l
 | [],_,_=>by rw [oh];trivial
 | x :: l,hh,h=>by
  rw [zU] at hh;rw [oh] at h |-;exact ⟨aAM h1 h2 h0 note t x (fun y hy=>hh y (List.mem_append_left _ hy)) h.1,akp h1 h2 h0 note t l (fun y hy=>hh y (List.mem_append_right _ hy)) h.2⟩
theorem ako {C C':bN} (h1:C'.st=C.st) (h2:C'.nP=C.nP) (h0:0∉C.mg) (note:Bool) (t:Int):∀ l:List aN,(∀ h∈Bj l,F9 C'.mg h)->oH C note t l->oH C' note t l
 | [],_,_=>by rw [oH];trivial
 | x :: l,hh,h=>by
  rw [Bj] at hh;rw [oH] at h |-;exact ⟨aAK h1 h2 h0 note t x (fun y hy=>hh y (List.mem_append_left _ hy)) h.1,ako h1 h2 h0 note t l (fun y hy=>hh y (List.mem_append_right _ hy)) h.2⟩
end
def Mg (l:List dw):Prop:=l.length<=256∧(∀ x∈l,xw x.author=true∧(0<=x.time∧x.time<=1099511627776)∧1<=x.id∧x.id<=1073741824)∧l.Pairwise fun x y=>x.id < y.id
theorem aAJ {l:List dw} (h:Dz l=0):Mg l:=by
 have h1:=lG h _ (eT);have h2:=lG h _ (gH _ eT)
 have hl:l.length<=256:=by
  rw [Aq Q1,Dr] at h1;omega
 have hi:∀ i (hi:i < l.length),SF l i l[i]=0:=fun i hi=>by
  have h3:=EI h2 i V
  unfold CK at h3
  rwa [fF hi] at h3
 refine ⟨hl,fun x hx=>?_,?_⟩
 ·obtain ⟨i,hi',rfl⟩:=List.getElem_of_mem hx;have z:=lG (hi i hi');have z1:=RJ (z _ eT);rw [fF hi'] at z1;have z2:=z (dN (!xw l[i].author) 39) (by simp);have z3:=z (dN (!decide (0<=l[i].time∧l[i].time<=1099511627776)) 40) (by simp);rw [Aq Q1] at z2 z3;exact ⟨by simpa using z2,by simpa using z3,z1.1,z1.2.1⟩
 have step:∀ i (hi':i+1 < l.length),l[i].id < l[i+1].id:=fun i hi'=>by
  have z1:=(RJ (lG (hi (i+1) hi') _ eT)).2.2 V;rw [Nat.add_sub_cancel,fF hi',fF (show i < l.length by omega)] at z1;exact z1
 rw [List.pairwise_iff_getElem];intro i j hi' hj hij
 induction j with
 | zero=>omega
 | succ j ih =>
  by_cases e:i=j
  ·subst e;exact step i hj
  exact Int.lt_trans (ih V V) (step j hj)
theorem axj {id:Nat->Int} {i:Nat} (h1:1<=id i∧id i<=1073741824) (h2:0 < i->id (i - 1) < id i):wQ id i=0:=by
 unfold wQ
 rw [ay (fun hn=>hn h1),ay (fun hn=>by have:=h2 hn.1;omega),ay (fun hn=>by have:=h2 hn.1;omega)]
theorem atL {l:List dw} (h:Mg l):Dz l=0:=by
 obtain ⟨hl,hx,hp⟩:=h;refine WK.2 ⟨(Aq Q1).2 (oP V),UE fun i hi=>?_⟩
 have hi':i < l.length:=by omega
 unfold CK
 rw [fF hi'];have h1:=hx _ (jl hi');refine QI fun y hy=>?_
 simp only [iD,List.not_mem_nil,or_false] at hy
 rcases hy with rfl|rfl|rfl
 ·have e:∀ k (hk:k < l.length),(l[k]?.map dw.id).getD 0=l[k].id:=fun k hk=>by rw [fF hk];rfl
  exact axj (by rw [e i hi'];exact h1.2.2) (fun h0=>by
   rw [e i hi',e (i - 1) V]
   exact List.pairwise_iff_getElem.1 hp (i - 1) i V hi' V)
 ·rw [Aq Q1,h1.1];rfl
 rw [Aq Q1,lT h1.2.1];rfl
theorem Mg.sub {l m:List dw} (h:Mg l) (hs:m.Sublist l):Mg m:=⟨Nat.le_trans hs.length_le h.1,fun x hx=>h.2.1 x (hs.subset hx),h.2.2.sublist hs⟩
def uF (A:List gF):Int:=(A.map fun f=>sI f.items).sum
theorem Z5 (a b:List gF):uF (a++b)=uF a+uF b:=by simp [uF]
theorem Tp (x:gF) (b:List gF):uF (x :: b)=sI x.items+uF b:=by simp [uF]
theorem aCg (A:List gF):OI A=uF A:=by
 have key:∀ (A:List gF) (n:Int),A.foldl (fun n f=>n+sI f.items) n=n+uF A:=by
  intro A
  induction A with
  | nil=>intro n;simp [uF]
  | cons x A ih=>intro n;rw [List.foldl_cons,ih,Tp];omega
 rw [OI,key];omega
theorem Yz {C:bN} {body note:Bool} {t:Int} {l:List ak} (h:iQ C body note t l):sI l=fU l:=by
 unfold sI
 rw [aH]
 unfold xE
 rw [lS];intro x hx;have h1:=(EY ((KS x).1 (zo.1 h x hx)).1).1;refine lT ?_
 unfold sN FT;rw [aH h1];split <;> rfl
theorem aCe (k c i:Int) (tx:ByteArray) (h:fH) (f:List ak) (r:List aM):uI (.mk k c i tx h f r)=eG (.mk k c i tx h f r)+(if k=6 then jv f else if k=7 then qz r else 0):=by rw [uI];rfl
mutual
theorem aCi (C:bN) (body note:Bool) (t:Int) (n2:Bool) (t2:Int):∀ x:ak,lY C body note t x->(eG x:Nat)+uF (qQ n2 t2 x)=(uI x:Nat)
 | .mk k c i tx h f r,hx=>by
  have hf:=Tx C false true t true t2 f;have hr:=alp C note (t+1) n2 t2 r;rw [lY] at hx;rw [aCe,qQ]
  by_cases h6:k=6
  ·subst h6;have ho:=hx.2.2.2.1 O;have:=hf ho;rw [aH O,aH O,Tp];dsimp only;rw [Yz ho];push_cast;omega
  by_cases h7:k=7
  ·subst h7;have:=hr (hx.2.2.2.2 O).2;rw [ay h6,ay h6,aH O,aH O];push_cast;omega
  rw [ay h6,ay h6,ay h7,ay h7];simp [uF]
theorem aCj (C:bN) (note:Bool) (t:Int) (n2:Bool) (t2:Int):∀ x:aM,qJ C note t x->uF (sO n2 t2 x)=(uR x:Nat)
 | .mk h cs,hx=>by
  have hc:=aln C note t n2 t2 cs;rw [qJ] at hx;rw [uR,sO];exact hc hx.2
theorem aCh (C:bN) (note:Bool) (t:Int) (n2:Bool) (t2:Int):∀ x:aN,qI C note t x->uF (qP n2 t2 x)=(uC x:Nat)
 | .mk i h f,hx=>by
  have hf:=Tx C false note t n2 (t2+1) f;rw [qI] at hx;have:=hf hx.2;rw [uC,qP,Tp];dsimp only;rw [Yz hx.2];omega
theorem Tx (C:bN) (body note:Bool) (t:Int) (n2:Bool) (t2:Int):∀ l:List ak,iQ C body note t l->(fU l:Nat)+uF (iO n2 t2 l)=(jv l:Nat)
 | [],_=>by simp [fU,iO,uF,jv]
 | x :: l,h=>by
  rw [iQ] at h;have h1:=aCi C body note t n2 t2 x h.1;have h2:=Tx C body note t n2 t2 l h.2;rw [fU,iO,jv,Z5];push_cast;omega
theorem alp (C:bN) (note:Bool) (t:Int) (n2:Bool) (t2:Int):∀ l:List aM,oh C note t l->uF (mR n2 t2 l)=(qz l:Nat)
 | [],_=>by simp [mR,uF,qz]
 | x :: l,h=>by
  rw [oh] at h;have h1:=aCj C note t n2 t2 x h.1;have h2:=alp C note t n2 t2 l h.2;rw [mR,qz,Z5];push_cast;omega
theorem aln (C:bN) (note:Bool) (t:Int) (n2:Bool) (t2:Int):∀ l:List aN,oH C note t l->uF (nA n2 t2 l)=(qN l:Nat)
 | [],_=>by simp [nA,uF,qN]
 | x :: l,h=>by
  rw [oH] at h;have h1:=aCh C note t n2 t2 x h.1;have h2:=aln C note t n2 t2 l h.2;rw [nA,qN,Z5];push_cast;omega
end
theorem alo {C:bN} {body note:Bool} {t:Int} {l:List ak} (h:iQ C body note t l):OI (mI l)=(jv l:Nat):=by
 have:=Tx C body note t false 0 l h;rw [aCg,mI,Tp];dsimp only;rw [Yz h];exact this
theorem YW {d:jD} (h:jo d=0):jo (uJ d)=0∧OI (mI (iy d.flow))=OI (mI d.flow):=by
 obtain ⟨h1,h2,h3,h4,h5⟩:=(GR d).1 h;obtain ⟨e1,e2⟩:=Yn h3;exact ⟨(GR (uJ d)).2 ⟨h1,h2,Y7 h3,by show kC [] [] (gZ (iy d.flow));rw [e1];exact h4,by show jv (iy d.flow)<=_;rw [e2];exact h5⟩,by rw [alo (Y7 h3),alo h3,e2]⟩
theorem aB0 (l:List Int):(Ak l).Pairwise (·<=·):=by
 have h:=List.pairwise_mergeSort (le:=leI) (fun a b c h1 h2=>by simp only [leI,sW] at *;omega) (fun a b=>by simp only [leI,Bool.or_eq_true,sW];omega) l
 exact h.imp fun h=>by simpa [leI] using h
theorem axE (d:jD):(fun r:dw=>xK (Ak (rR (uJ d))) r.id)=fun r=>decide (r.id∈rR (uJ d)):=by
 funext r
 rw [auF (aB0 _)];exact decide_eq_decide.2 (by rw [Ak,List.mem_mergeSort])
theorem ays {d:jD} (h:jo d=0):jo (nD d)=0:=by
 obtain ⟨h1,h2,h3,h4,h5⟩:=(GR _).1 (YW h).1;have hg:=aAJ h1.2
 have h0:(0:Int)∉(uJ d).lW.mg:=by
  intro hm;obtain ⟨x,hx,e⟩:=List.mem_map.1 (show (0:Int)∈d.revs.map dw.id from hm);have:=(hg.2.1 x hx).2.2.1
  omega
 have hin:∀ q∈KX (uJ d),q≠0->q∈(nD d).lW.mg:=by
  intro q hq hn
  have hu:q∈rR (uJ d):=by
   unfold rR
   rw [List.mem_filter,sW,Uz];exact ⟨.inr hq,hn⟩
  have hr:=(Zl (YW h).1 q hq).resolve_left hn;obtain ⟨x,hx,rfl⟩:=List.mem_map.1 hr
  show x.id∈(nD d).revs.map dw.id
  refine List.mem_map.2 ⟨x,?_,O⟩
  show x∈d.revs.filter _
  rw [axE,List.mem_filter];exact ⟨hx,lT hu⟩
 refine (GR (nD d)).2 ⟨⟨h1.1,atL (hg.sub List.filter_sublist)⟩,⟨Q7 (C:=(uJ d).lW) (C':=(nD d).lW) O O h0 (fun q hq hn=>hin q (by unfold KX;exact List.mem_append_right _ hq) hn) h2.1,h2.2⟩,SN (C:=(uJ d).lW) (C':=(nD d).lW) O O h0 true false 0 _ (fun x hx q hq hn=>hin q (by unfold KX;exact List.mem_append_left _ (List.mem_flatMap.2 ⟨x,hx,hq⟩)) hn) h3,h4,h5⟩
mutual
/-- The first is what is left of the second: items of its flows are missing. -/
def sbI (y:ak):ak->Prop
 | .mk k c i tx h f r=>∃ f' r',y=.mk k c i tx h f' r'∧Oy f' f∧akA r' r
def sbR (y:aM):aM->Prop
 | .mk h cs=>∃ cs',y=.mk h cs'∧akz cs' cs
def sbC (y:aN):aN->Prop
 | .mk i h f=>∃ f',y=.mk i h f'∧Oy f' f
def Oy (m:List ak):List ak->Prop
 | []=>m=[]
 | x :: l=>Oy m l∨∃ y m',m=y :: m'∧sbI y x∧Oy m' l
def akA (m:List aM):List aM->Prop
 | []=>m=[]
 | x :: l=>∃ y m',m=y :: m'∧sbR y x∧akA m' l
def akz (m:List aN):List aN->Prop
 | []=>m=[]
 | x :: l=>∃ y m',m=y :: m'∧sbC y x∧akz m' l
end
mutual
def alI (Q:Int->List ak->Prop):ak->Prop
 | .mk k _ i _ _ f r=>(k=6->Q i f∧Py Q f)∧(k=7->aaM Q r)
def alR (Q:Int->List ak->Prop):aM->Prop
 | .mk _ cs=>aaL Q cs
def alC (Q:Int->List ak->Prop):aN->Prop
 | .mk i _ f=>Q i f∧Py Q f
def Py (Q:Int->List ak->Prop):List ak->Prop
 | []=>True
 | x :: l=>alI Q x∧Py Q l
def aaM (Q:Int->List ak->Prop):List aM->Prop
 | []=>True
 | x :: l=>alR Q x∧aaM Q l
def aaL (Q:Int->List ak->Prop):List aN->Prop
 | []=>True
 | x :: l=>alC Q x∧aaL Q l
end
theorem Ww:aW 78:=aY func78 O
theorem aqp:aW 167:=aY func167 O
theorem arV:aW 77:=aY func77 O
theorem arW:aW 79:=aY func79 O
abbrev vk (b:Nat) (q:Bool):Nat × Obj:=(b,.cells #[.bool q] 4 (0,0))
theorem wT (A B:OL) (x:Nat × Obj):(A++x :: B).Perm ((A++B)++[x]):=by
 rw [gY];exact (um (l₁:=[x]) (l₂:=B)).append_left A
theorem aoS (G:GH) (w0:World) (hO:fM G [] w0) (rows:List (List Dat)) (A:Option Addr) (n c:Nat) (hv:av G (.sl 7 rows) (.slice A n c)) (hz:rows.length<=4294967296) :
  Calls prog 167 #[.slice A n c] w0 (fB w0 G [] fun u G' L'=>∃ xs,bV 134 7 u rows.length xs L'∧bT G' 7 rows xs):=by
 obtain ⟨hn,hc1,hc2,hnil,hx⟩:=hv.cells;refine iB (N:=8) (T:=[(0,_)]) func167 O ntmps167 O O hO ?_;intro a H;refine kP H (SR fun _ K1=>au K1 O (SQ fun _ K2=>SR fun _ K3=>Rm O ?_));clear H K1;intro a H;refine CV kQ H wn O O ?_;clear H;intro a H;refine K3 _ _ ?_;clear K3;refine jX H O ?_ ?_
 ·intro h4
  refine kP H (SR fun _ K4=>au K4 O ?_);clear H K4;intro a H;refine lr H results167 O ?_;exact GN
 intro h4
 try have p4:=dF h4
 refine gT ?_;refine K2 _ _ ?_;clear K2;refine bP (fun _ K5=>?_)
 have hA:¬ A=none:=by intro e;rw [e] at h4;cases h4
 refine mX ?_;refine CU kQ iN H wn O ?_;clear H;intro b5 a w hb5 H;refine kH H (Rm O ?_);clear H;intro a H
 by_cases hr0:rows=[]
 ·have hn0:n=0:=by rw [hn,hr0];rfl
  subst hn0;refine BM kQ iN H wn O O (fD _) O ?_;clear H;intro a H;refine kH H (aZ K5 O ?_);clear H K5;intro a H;refine lr H results167 O ?_;subst hr0;exact GA
 obtain ⟨b,o,xs,rfl,hxl,hxc,hx1,fZ⟩:=hx hr0;refine mh (Li:=[]) (Lo:=[_]) (news:=xs) kQ iN O O H wn O O bV.empty hxl (fun j u hj=>H.hp.aI (hxc j u hj)) hx1 V V O ?_;clear H;intro v7 Lo a w hrow H;dsimp only [List.nil_append] at H;exact kH H (aZ K5 O (LR results167 O fun H=>H.hp.gI ⟨_,by rw [fO,hn] at hrow;exact hrow,fZ⟩))
abbrev S9:ah:=.func (.func 77) #[] #[]
abbrev Lj (b4 bd b5:Nat):ah:=.func (.func 79) #[] #[(aJ b4 0),(aJ bd 0),(aJ b5 0)]
def sfQ (id:Int) (new:List ak):Int->List ak->Prop:=fun i f=>i=id->Oy new f
structure Ur (G:GH) (id:Int) (new:List ak) (b4 b5:Nat):Prop where
 i:aI G b4 0=some (vi id)
 n:∃ A n c,aI G b5 0=some (.slice A n c)∧av G (.sl 11 (new.map ak.dat)) (.slice A n c)
 al:Py (sfQ id new) new
theorem Ur.mono {G G':GH} (hm:∀ b o,G b=some o->G' b=some o) {id:Int} {new:List ak} {b4 b5:Nat} (h:Ur G id new b4 b5):Ur G' id new b4 b5 :=
 ⟨aK hm h.i,let ⟨A,n,c,h1,h2⟩:=h.n;⟨A,n,c,aK hm h1,h2.mono hm⟩,h.al⟩
theorem aBn (G:GH) (w0:World) (hG:Hold G w0) (i:Int) (A:Option Addr) (n c:Nat):tY prog S9 [vi i,.slice A n c] w0 (bG w0 G fun u G'=>u=.slice A n c):=by
 refine kG (caps:=[]) arV ?_;refine eN [(0,_),(1,_)] func77 O ntmps77 O O hG ?_;intro a H;exact kP H (SR fun _ K1=>au K1 O (SR fun _ K2=>Rm O (au K2 O (LR results77 O fun H=>H.rt O))))
theorem bT.akB {G:GH} {sz:Nat}:∀ {rows:List (List Dat)} {xs:List ah} {i k:Nat} {r r':List Dat} {v:ah},bT G sz rows xs->rows[i]?=some r->(∀ cs,aX G r cs->aX G r' (cs.set k v))->k < sz->bT G sz (rows.set i r') (xs.set (i*sz+k) v)
 | [],_,_,_,_,_,_,_,h,_,_=>by simp at h
 | q :: rows,xs,i,k,r,r',v,h,hr,hv,hs=>by
  obtain ⟨css,rfl,h2,h3⟩:=h
  cases css with
  | nil=>simp at h2
  | cons c css =>
   obtain ⟨h4,h5⟩:=h3 0 q c O O;have h6:bT G sz rows css.flatten:=⟨css,O,by simpa using h2,fun j r' cs hr' hc=>h3 (j+1) r' cs (by simpa using hr') (by simpa using hc)⟩
   have h7:∀ {q':List Dat} {rows':List (List Dat)} {c' x':List ah},aX G q' c'->c'.length=sz->bT G sz rows' x'->bT G sz (q' :: rows') (c'++x'):=fun a b e=>by
    have h8:=((bT.nil (G:=G) (sz:=sz)).snoc a b).append e
    simpa using h8
   rw [List.flatten_cons]
   cases i with
   | zero =>
    simp only [AO,ou] at hr
    subst hr;rw [Nat.zero_mul,fO,List.set_append_left _ _ V];exact h7 (hv _ h4) (by rw [List.length_set];exact h5) h6
   | succ i =>
    rw [List.set_append_right _ _ (by rw [h5,Nat.succ_mul];omega),h5,show (i+1)*sz+k - sz=i*sz+k by rw [Nat.succ_mul];omega];exact h7 h4 h5 (bT.akB h6 (by simpa using hr) hv hs)
theorem bT.aBj {G:GH} {ds:List aN} {zs:List ah} {i:Nat} {f:List ak} {v:ah} (h:bT G 7 (ds.map aN.dat) zs) (hi:i < ds.length) (hv:av G (.sl 11 (f.map ak.dat)) v):bT G 7 ((ds.set i (.mk ds[i].id ds[i].head f)).map aN.dat) (zs.set (i*7+6) v):=by
 rw [List.map_set];refine h.akB (r:=ds[i].dat) (by simp [hi]) (fun cs hc=>?_) Q1;obtain ⟨aA,an,ac,gA,gn,gc,uA,un,uc,wA,wn,wc,rfl,hh,-⟩:=hc.cell;exact aX.RY (x:=.mk ds[i].id ds[i].head f) hh hv
mutual
theorem ayG (C:bN) (body note:Bool) (t:Int):∀ x:ak,lY C body note t x->El x
 | .mk k c i tx h f r,hx=>by
  have hf:=R9 C false true t f;have hr:=ajg C note (t+1) r;rw [lY] at hx;obtain ⟨-,-,Fv,Ns⟩:=EY hx.1;dsimp only [ak.kind,ak.rows,ak.flow] at Fv Ns;rw [El];refine ⟨?_,?_⟩
  ·by_cases h6:k=6
   ·exact hf (hx.2.2.2.1 h6)
   rw [Ns h6,lq];trivial
  by_cases h7:k=7
  ·exact hr (hx.2.2.2.2 h7).2
  rw [Fv h7,xS];trivial
theorem ayH (C:bN) (note:Bool) (t:Int):∀ x:aM,qJ C note t x->CG x
 | .mk h cs,hx=>by
  have hc:=ajf C note t cs;rw [qJ] at hx;rw [CG];refine ⟨fun e=>?_,hc hx.2⟩;have z:=lG hx.1 (dN (decide ((cs.length:Int)=0)) 11) (by simp);rw [Aq Q1,e] at z
  simp at z
theorem ayF (C:bN) (note:Bool) (t:Int):∀ x:aN,qI C note t x->CF x
 | .mk i h f,hx=>by
  have hf:=R9 C false note t f;rw [qI] at hx;rw [CF];exact hf hx.2
theorem R9 (C:bN) (body note:Bool) (t:Int):∀ l:List ak,iQ C body note t l->lq l
 | [],_=>by rw [lq];trivial
 | x :: l,h=>by
  rw [iQ] at h;rw [lq];exact ⟨ayG C body note t x h.1,R9 C body note t l h.2⟩
theorem ajg (C:bN) (note:Bool) (t:Int):∀ l:List aM,oh C note t l->xS l
 | [],_=>by rw [xS];trivial
 | x :: l,h=>by
  rw [oh] at h;rw [xS];exact ⟨ayH C note t x h.1,ajg C note t l h.2⟩
theorem ajf (C:bN) (note:Bool) (t:Int):∀ l:List aN,oH C note t l->BH l
 | [],_=>by rw [BH];trivial
 | x :: l,h=>by
  rw [oH] at h;rw [BH];exact ⟨ayF C note t x h.1,ajf C note t l h.2⟩
end
theorem ayu {d:jD} (hz:sP d):sP (nD d):=⟨Nat.le_trans (aai _) hz.fl,hz.hd,Nat.le_trans (List.length_filter_le _ _) hz.rn,fun x hx=>hz.rt x (List.mem_filter.1 hx).1,hz.sn,hz.st⟩
theorem ayt {d:jD} (hz:sP d) (h:jo d=0):lq d.flow∧aP (iy d.flow)<=1073741824∧(∀ k∈rR (uJ d),-9223372036854775808<=k∧k < 9223372036854775808)∧(rR (uJ d)).length<=4294967296:=by
 have h0:=(YW h).1;refine ⟨R9 _ _ _ _ _ ((GR d).1 h).2.2.1,Nat.le_trans (aai _) hz.fl,fun q hq=>by have:=aCv h0 hq;omega,?_⟩;exact Nat.le_trans (aCu h0) hz.rn
theorem Sk {d:jD} (h:jo d=0):yx d.flow:=by
 have h1:=lG h _ (gH _ (gH _ eT));exact yx.of (Qn h1)
mutual
def oJ (id:Int) (new:List ak) (q:Bool):ak->ak × Bool
 | .mk k c i tx h f r=>if k=6 then (if i=id∧q=false then (.mk k c i tx h new r,true) else (.mk k c i tx h (iM id new q f).1 r,(iM id new q f).2))
  else if k=7 then (.mk k c i tx h f (lM id new q r).1,(lM id new q r).2) else (.mk k c i tx h f r,q)
def rH (id:Int) (new:List ak) (q:Bool):aM->aM × Bool
 | .mk h cs=>(.mk h (lZ id new q cs).1,(lZ id new q cs).2)
def pY (id:Int) (new:List ak) (q:Bool):aN->aN × Bool
 | .mk i h f=>if i=id∧q=false then (.mk i h new,true) else (.mk i h (iM id new q f).1,(iM id new q f).2)
def iM (id:Int) (new:List ak) (q:Bool):List ak->List ak × Bool
 | []=>([],q)
 | x :: l=>((oJ id new q x).1 :: (iM id new (oJ id new q x).2 l).1,(iM id new (oJ id new q x).2 l).2)
def lM (id:Int) (new:List ak) (q:Bool):List aM->List aM × Bool
 | []=>([],q)
 | x :: l=>((rH id new q x).1 :: (lM id new (rH id new q x).2 l).1,(lM id new (rH id new q x).2 l).2)
def lZ (id:Int) (new:List ak) (q:Bool):List aN->List aN × Bool
 | []=>([],q)
 | x :: l=>((pY id new q x).1 :: (lZ id new (pY id new q x).2 l).1,(lZ id new (pY id new q x).2 l).2)
end
mutual
theorem ajY (id:Int) (new:List ak):∀ x:ak,oJ id new true x=(x,true)
 | .mk k c i tx h f r=>by
  rw [oJ,FC id new f,La id new r,ay (by simp:¬ (i=id∧true=false))]
  split
  ·rfl
  split <;> rfl
theorem akd (id:Int) (new:List ak):∀ x:aM,rH id new true x=(x,true)
 | .mk h cs=>by rw [rH,KZ id new cs]
theorem ajU (id:Int) (new:List ak):∀ x:aN,pY id new true x=(x,true)
 | .mk i h f=>by rw [pY,FC id new f,ay (by simp:¬ (i=id∧true=false))]
theorem FC (id:Int) (new:List ak):∀ l:List ak,iM id new true l=(l,true)
 | []=>by rw [iM]
 | x :: l=>by rw [iM,ajY id new x,FC id new l]
theorem La (id:Int) (new:List ak):∀ l:List aM,lM id new true l=(l,true)
 | []=>by rw [lM]
 | x :: l=>by rw [lM,akd id new x,La id new l]
theorem KZ (id:Int) (new:List ak):∀ l:List aN,lZ id new true l=(l,true)
 | []=>by rw [lZ]
 | x :: l=>by rw [lZ,ajU id new x,KZ id new l]
end
def qx (id:Int) (new:List ak) (q:Bool) (i:Int) (f:List ak):List ak:=if i=id∧q=false then new else f
def qM (id:Int) (q:Bool) (i:Int):Bool:=q || decide (i=id)
theorem ajB (id:Int) (new:List ak) (q:Bool) (i:Int) (f:List ak):iM id new (qM id q i) (qx id new q i f)=if i=id∧q=false then (new,true) else iM id new q f:=by
 unfold qM qx
 by_cases h:i=id∧q=false
 ·rw [aH h,aH h,lT h.1,Bool.or_true,FC]
 rw [ay h,ay h]
 by_cases h1:i=id
 ·have h2:q=true:=by cases q;exact absurd ⟨h1,O⟩ h;rfl
  rw [h2];rfl
 rw [oP h1,Bool.or_false]
theorem aAw {id:Int} {new:List ak} {q:Bool} {x:ak} (h:x.kind=6) {m:List ak} {q':Bool} (e:iM id new (qM id q x.id) (qx id new q x.id x.flow)=(m,q')):oJ id new q x=(.mk x.kind x.code x.id x.text x.head m x.rows,q'):=by
 obtain ⟨k,c,i,tx,hd,f,r⟩:=x;replace e:iM id new (qM id q i) (qx id new q i f)=(m,q'):=e;rw [ajB] at e;dsimp only [ak.kind] at h;rw [oJ,aH h]
 by_cases h1:i=id∧q=false
 ·rw [aH h1] at e |-;cases e;rfl
 rw [ay h1] at e |-;rw [e];rfl
theorem aAy {id:Int} {new:List ak} {q:Bool} {x:ak} (h:x.kind=7) {m:List aM} {q':Bool} (e:lM id new q x.rows=(m,q')):oJ id new q x=(.mk x.kind x.code x.id x.text x.head x.flow m,q'):=by
 obtain ⟨k,c,i,tx,hd,f,r⟩:=x;dsimp only [ak.kind,ak.rows] at h e;rw [oJ,cu,aH h,e];rfl
theorem aAu {id:Int} {new:List ak} {q:Bool} {x:ak} (h:x.kind≠6) (h7:x.kind≠7):oJ id new q x=(x,q):=by
 obtain ⟨k,c,i,tx,hd,f,r⟩:=x;rw [oJ,ay (show ¬ k=6 from h),ay (show ¬ k=7 from h7)]
theorem aAx {id:Int} {new:List ak} {q:Bool} {x:aM} {m:List aN} {q':Bool} (e:lZ id new q x.cells=(m,q')):rH id new q x=(.mk x.head m,q'):=by
 obtain ⟨h,cs⟩:=x;dsimp only [aM.cells] at e;rw [rH,e];rfl
theorem aAt {id:Int} {new:List ak} {q:Bool} (x:aN):pY id new q x=(.mk x.id x.head (iM id new (qM id q x.id) (qx id new q x.id x.flow)).1,(iM id new (qM id q x.id) (qx id new q x.id x.flow)).2):=by
 obtain ⟨i,hd,f⟩:=x
 show pY id new q (.mk i hd f)=(.mk i hd (iM id new (qM id q i) (qx id new q i f)).1,(iM id new (qM id q i) (qx id new q i f)).2)
 rw [pY,ajB]
 by_cases h:i=id∧q=false
 ·rw [aH h,aH h]
 rw [ay h,ay h]
theorem akb {id:Int} {new:List ak}:∀ {q q':Bool} {l m:List ak} (x:ak),iM id new q l=(m,q')->iM id new q (l++[x])=(m++[(oJ id new q' x).1],(oJ id new q' x).2)
 | q,q',[],m,x,h=>by rw [iM] at h;cases h;rw [gJ,iM,iM];rfl
 | q,q',y :: l,m,x,h=>by
  rw [iM] at h
  cases h
  rw [iT,iM,akb x (Prod.eta _).symm];rfl
theorem akg {id:Int} {new:List ak}:∀ {q q':Bool} {l m:List aM} (x:aM),lM id new q l=(m,q')->lM id new q (l++[x])=(m++[(rH id new q' x).1],(rH id new q' x).2)
 | q,q',[],m,x,h=>by rw [lM] at h;cases h;rw [gJ,lM,lM];rfl
 | q,q',y :: l,m,x,h=>by
  rw [lM] at h
  cases h
  rw [iT,lM,akg x (Prod.eta _).symm];rfl
theorem ajW {id:Int} {new:List ak}:∀ {q q':Bool} {l m:List aN} (x:aN),lZ id new q l=(m,q')->lZ id new q (l++[x])=(m++[(pY id new q' x).1],(pY id new q' x).2)
 | q,q',[],m,x,h=>by rw [lZ] at h;cases h;rw [gJ,lZ,lZ];rfl
 | q,q',y :: l,m,x,h=>by
  rw [lZ] at h
  cases h
  rw [iT,lZ,ajW x (Prod.eta _).symm];rfl
theorem ajZ {id:Int} {new:List ak}:∀ {q q':Bool} {l m:List ak},iM id new q l=(m,q')->m.length=l.length
 | q,q',[],m,h=>by rw [iM] at h;cases h;rfl
 | q,q',y :: l,m,h=>by rw [iM] at h;cases h;rw [lD,lD,ajZ (Prod.eta _).symm]
theorem akf {id:Int} {new:List ak}:∀ {q q':Bool} {l m:List aM},lM id new q l=(m,q')->m.length=l.length
 | q,q',[],m,h=>by rw [lM] at h;cases h;rfl
 | q,q',y :: l,m,h=>by rw [lM] at h;cases h;rw [lD,lD,akf (Prod.eta _).symm]
theorem aAr {id:Int} {new:List ak} {q q':Bool} {x:aN} {l ds:List aN} {k:Nat} (hk:k < ds.length) (h:lZ id new q l=(ds.take k,q')):lZ id new q (l++[x])=((ds.set k (pY id new q' x).1).take (k+1),(pY id new q' x).2):=by
 rw [ajW x h,jk (by rw [List.length_set];exact hk),List.take_set_of_le (fD _),List.getElem_set_self]
def R3 (q:Bool) (l:List ak):Nat:=aP l+bif q then 0 else 2147483648
theorem aiU {id:Int} {new:List ak} {b q:Bool} {l f:List ak} {n:Nat} {i:Int} (hb:b=true->q=true) (hz:aP f < aP l) (hl:aP l<=1073741824) (h:R3 b l < n+1) (hn:aP new<=1073741824):R3 (qM id q i) (qx id new q i f) < n∧aP (qx id new q i f)<=1073741824:=by
 unfold R3 qM qx at *
 cases b <;> cases q <;> by_cases hi:i=id <;> simp_all <;> omega
theorem aAv {id:Int} {new:List ak} {b q:Bool} {l m:List ak} (h:iM id new b l=(m,q)) (hb:b=true):q=true:=by subst hb;rw [FC] at h;cases h;rfl
theorem aAs {id:Int} {new:List ak} {b q:Bool} {l m:List aM} (h:lM id new b l=(m,q)) (hb:b=true):q=true:=by subst hb;rw [La] at h;cases h;rfl
theorem aAq {id:Int} {new:List ak} {b q:Bool} {l m:List aN} (h:lZ id new b l=(m,q)) (hb:b=true):q=true:=by subst hb;rw [KZ] at h;cases h;rfl
inductive gW where
 | note (a b:List ak) (c i:Int) (tx:ByteArray) (h:fH) (r:List aM)
 | cell (a b:List ak) (c i:Int) (tx:ByteArray) (h:fH) (f:List ak) (ra rb:List aM) (rh:fH) (ca cb:List aN) (ci:Int) (ch:fH)
def gW.plug:gW->List ak->List ak
 | .note a b c i tx h r,m=>a++.mk 6 c i tx h m r :: b
 | .cell a b c i tx h f ra rb rh ca cb ci ch,m=>a++.mk 7 c i tx h f (ra++.mk rh (ca++.mk ci ch m :: cb) :: rb) :: b
def gW.id:gW->Int
 | .note _ _ _ i _ _ _=>i
 | .cell _ _ _ _ _ _ _ _ _ _ _ _ ci _=>ci
def gW.ext (p q:List ak):gW->gW
 | .note a b c i tx h r=>.note (p++a) (b++q) c i tx h r
 | .cell a b c i tx h f ra rb rh ca cb ci ch=>.cell (p++a) (b++q) c i tx h f ra rb rh ca cb ci ch
theorem gW.afw (p q:List ak) (fr:gW) (m:List ak):(fr.ext p q).plug m=p++fr.plug m++q:=by cases fr <;> simp [gW.ext,gW.plug]
theorem gW.asH (p q:List ak) (fr:gW):(fr.ext p q).id=fr.id:=by cases fr <;> rfl
def lu:List gW->List ak->List ak
 | [],m=>m
 | fr :: c,m=>fr.plug (lu c m)
def hid (d:Int):List gW->Int
 | []=>d
 | fr :: c=>hid fr.id c
theorem aci {p:Prop} (h:p:=by
 by_cases hi:i=id∧q=false
 ·rw [aH hi] at e;cases e
 rw [ay hi] at e |-;rw [hf e]):p:=h
mutual
theorem ajX (id:Int) (new:List ak) (q:Bool):∀ x:ak,(oJ id new q x).2=false->oJ id new q x=(x,false)
 | .mk k c i tx h f r,e=>by
  have hf:=Zm id new q f;have hr:=ake id new q r;rw [oJ] at e |-
  by_cases h6:k=6
  ·rw [aH h6] at e |-
   exact aci
  rw [ay h6] at e |-
  by_cases h7:k=7
  ·rw [aH h7] at e |-;rw [hr e]
  rw [ay h7] at e |-;dsimp only at e;rw [e]
theorem akc (id:Int) (new:List ak) (q:Bool):∀ x:aM,(rH id new q x).2=false->rH id new q x=(x,false)
 | .mk h cs,e=>by
  have hc:=ajV id new q cs;rw [rH] at e |-;rw [hc e]
theorem ajT (id:Int) (new:List ak) (q:Bool):∀ x:aN,(pY id new q x).2=false->pY id new q x=(x,false)
 | .mk i h f,e=>by
  have hf:=Zm id new q f;rw [pY] at e |-
  exact aci
theorem Zm (id:Int) (new:List ak) (q:Bool):∀ l:List ak,(iM id new q l).2=false->iM id new q l=(l,false)
 | [],e=>by rw [iM] at e |-;dsimp only at e;rw [e]
 | x :: l,e=>by
  rw [iM] at e |-
  cases hx:(oJ id new q x).2 with
  | true=>rw [hx,FC] at e;cases e
  | false =>
   have h1:=ajX id new q x hx
   have hq:q=false:=by cases q;rfl;rw [ajY] at hx;cases hx
   subst hq;rw [h1] at e |-;rw [Zm id new false l e]
theorem ake (id:Int) (new:List ak) (q:Bool):∀ l:List aM,(lM id new q l).2=false->lM id new q l=(l,false)
 | [],e=>by rw [lM] at e |-;dsimp only at e;rw [e]
 | x :: l,e=>by
  rw [lM] at e |-
  cases hx:(rH id new q x).2 with
  | true=>rw [hx,La] at e;cases e
  | false =>
   have h1:=akc id new q x hx
   have hq:q=false:=by cases q;rfl;rw [akd] at hx;cases hx
   subst hq;rw [h1] at e |-;rw [ake id new false l e]
theorem ajV (id:Int) (new:List ak) (q:Bool):∀ l:List aN,(lZ id new q l).2=false->lZ id new q l=(l,false)
 | [],e=>by rw [lZ] at e |-;dsimp only at e;rw [e]
 | x :: l,e=>by
  rw [lZ] at e |-
  cases hx:(pY id new q x).2 with
  | true=>rw [hx,KZ] at e;cases e
  | false =>
   have h1:=ajT id new q x hx
   have hq:q=false:=by cases q;rfl;rw [ajU] at hx;cases hx
   subst hq;rw [h1] at e |-;rw [ajV id new false l e]
end
def Mi (id:Int) (new l m:List ak):Prop:=∃ fr c f0,hid fr.id c=id∧l=lu (fr :: c) f0∧m=lu (fr :: c) new
def aax (id:Int) (new:List ak) (x y:aN):Prop:=∃ ci ch c f0,hid ci c=id∧x=.mk ci ch (lu c f0)∧y=.mk ci ch (lu c new)
def aay (id:Int) (new:List ak) (l m:List aN):Prop:=∃ ca x y cb,aax id new x y∧l=ca++x :: cb∧m=ca++y :: cb
def aaz (id:Int) (new:List ak) (x y:aM):Prop:=∃ rh cs cs',aay id new cs cs'∧x=.mk rh cs∧y=.mk rh cs'
def amD (id:Int) (new:List ak) (l m:List aM):Prop:=∃ ra x y rb,aaz id new x y∧l=ra++x :: rb∧m=ra++y :: rb
theorem Mi.ext {id:Int} {new l m:List ak} (h:Mi id new l m) (p q:List ak):Mi id new (p++l++q) (p++m++q):=by
 obtain ⟨fr,c,f0,h1,rfl,rfl⟩:=h;exact ⟨fr.ext p q,c,f0,by rw [gW.asH];exact h1,(gW.afw p q fr _).symm,(gW.afw p q fr _).symm⟩
theorem abO {p:Prop} (h:p:=by
 exact ⟨x :: ra,x',y,rb,h1,by rw [h2];rfl,by rw [h3];rfl⟩):p:=h
mutual
theorem aCM (id:Int) (new:List ak):∀ x:ak,(oJ id new false x).2=true->Mi id new [x] [(oJ id new false x).1]
 | .mk k c i tx h f r,e=>by
  have hf:=TG id new f;have hr:=alN id new r;rw [oJ] at e |-
  by_cases h6:k=6
  ·subst h6;rw [aH O] at e |-
   by_cases hi:i=id∧false=false
   ·rw [aH hi];exact ⟨.note [] [] c i tx h r,[],f,hi.1,O,O⟩
   rw [ay hi] at e |-;obtain ⟨fr,c',f0,h1,h2,h3⟩:=hf e;refine ⟨.note [] [] c i tx h r,fr :: c',f0,h1,?_,?_⟩
   ·show _=[ak.mk 6 c i tx h (lu (fr :: c') f0) r];rw [<- h2]
   show _=[ak.mk 6 c i tx h (lu (fr :: c') new) r];rw [<- h3]
  rw [ay h6] at e |-
  by_cases h7:k=7
  ·subst h7;rw [aH O] at e |-;obtain ⟨ra,x,y,rb,⟨rh,cs,cs',⟨ca,x1,y1,cb,⟨ci,ch,c',f0,h1,rfl,rfl⟩,rfl,rfl⟩,rfl,rfl⟩,h2,h3⟩:=hr e;exact ⟨.cell [] [] c i tx h f ra rb rh ca cb ci ch,c',f0,h1,by rw [h2];rfl,by rw [h3];rfl⟩
  rw [ay h7] at e;cases e
theorem aCN (id:Int) (new:List ak):∀ x:aM,(rH id new false x).2=true->aaz id new x (rH id new false x).1
 | .mk h cs,e=>by
  have hc:=alM id new cs;rw [rH] at e |-;exact ⟨h,cs,_,hc e,O,O⟩
theorem aCL (id:Int) (new:List ak):∀ x:aN,(pY id new false x).2=true->aax id new x (pY id new false x).1
 | .mk i h f,e=>by
  have hf:=TG id new f;rw [pY] at e |-
  by_cases hi:i=id∧false=false
  ·rw [aH hi];exact ⟨i,h,[],f,hi.1,O,O⟩
  rw [ay hi] at e |-;obtain ⟨fr,c',f0,h1,h2,h3⟩:=hf e;exact ⟨i,h,fr :: c',f0,h1,by rw [<- h2],by rw [<- h3]⟩
theorem TG (id:Int) (new:List ak):∀ l:List ak,(iM id new false l).2=true->Mi id new l (iM id new false l).1
 | [],e=>by rw [iM] at e;cases e
 | x :: l,e=>by
  have hl:=TG id new l;rw [iM] at e |-
  cases hx:(oJ id new false x).2 with
  | true=>rw [FC];exact (aCM id new x hx).ext [] l
  | false =>
   rw [ajX id new false x hx] at e |-;have:=(hl e).ext [x] []
   simpa using this
theorem alN (id:Int) (new:List ak):∀ l:List aM,(lM id new false l).2=true->amD id new l (lM id new false l).1
 | [],e=>by rw [lM] at e;cases e
 | x :: l,e=>by
  have hl:=alN id new l;rw [lM] at e |-
  cases hx:(rH id new false x).2 with
  | true=>rw [La];exact ⟨[],x,_,l,aCN id new x hx,O,O⟩
  | false =>
   rw [akc id new false x hx] at e |-;obtain ⟨ra,x',y,rb,h1,h2,h3⟩:=hl e;exact abO
theorem alM (id:Int) (new:List ak):∀ l:List aN,(lZ id new false l).2=true->aay id new l (lZ id new false l).1
 | [],e=>by rw [lZ] at e;cases e
 | x :: l,e=>by
  have hl:=alM id new l;rw [lZ] at e |-
  cases hx:(pY id new false x).2 with
  | true=>rw [KZ];exact ⟨[],x,_,l,aCL id new x hx,O,O⟩
  | false =>
   rw [ajT id new false x hx] at e |-;obtain ⟨ra,x',y,rb,h1,h2,h3⟩:=hl e;exact abO
end
theorem aie:∀ a b:List aM,nN (a++b)=nN a++nN b
 | [],b=>by rw [gJ,nN];rfl
 | x :: a,b=>by rw [iT,nN,nN,aie a b,gY]
theorem aic:∀ a b:List aN,nY (a++b)=nY a++nY b
 | [],b=>by rw [gJ,nY];rfl
 | x :: a,b=>by rw [iT,nY,nY,aic a b,gY]
theorem alk:∀ a b:List aM,qz (a++b)=qz a+qz b
 | [],b=>by rw [gJ,qz,fO]
 | x :: a,b=>by rw [iT,qz,qz,alk a b,Nat.add_assoc]
theorem alj:∀ a b:List aN,qN (a++b)=qN a+qN b
 | [],b=>by rw [gJ,qN,fO]
 | x :: a,b=>by rw [iT,qN,qN,alj a b,Nat.add_assoc]
theorem aaE:∀ a b:List aM,jC (a++b)=jC a++jC b
 | [],b=>by rw [gJ,jC];rfl
 | x :: a,b=>by rw [iT,jC,jC,aaE a b,gY]
theorem aaC:∀ a b:List aN,kE (a++b)=kE a++kE b
 | [],b=>by rw [gJ,kE];rfl
 | x :: a,b=>by rw [iT,kE,kE,aaC a b,gY]
def sJ:List ak->Nat
 | []=>0
 | x :: l=>n1 x+sJ l
theorem Dp (g:Int):∀ (t:Nat) (a b:List ak),dx g t (a++b)=dx g t a++dx g (t+sJ a) b
 | t,[],b=>by rw [gJ,dx,sJ,wB];rfl
 | t,x :: a,b=>by rw [iT,dx,dx,Dp g (t+n1 x) a b,sJ,gY,Nat.add_assoc]
theorem atC (fr:gW):∃ A B,∀ m,gZ (fr.plug m)=A++gZ m++B:=by
 cases fr with
 | note a b c i tx h r=>exact ⟨gZ a++[i],gZ b,fun m=>by simp [gW.plug,Fy,gZ,pW]⟩
 | cell a b c i tx h f ra rb rh ca cb ci ch=>exact ⟨gZ a++[i]++nN ra++nY ca++[ci],nY cb++nN rb++gZ b,fun m=>by simp [gW.plug,Fy,gZ,pW,aie,nN,vO,aic,nY,vN]⟩
theorem atF (fr:gW):∃ n,∀ m,jv (fr.plug m)=n+jv m:=by
 cases fr with
 | note a b c i tx h r=>exact ⟨jv a+1+jv b,fun m=>by simp [gW.plug,FP,jv,uI];omega⟩
 | cell a b c i tx h f ra rb rh ca cb ci ch=>exact ⟨jv a+1+qz ra+qN ca+qN cb+qz rb+jv b,fun m=>by simp [gW.plug,FP,jv,uI,alk,qz,uR,alj,qN,uC];omega⟩
theorem aah (x:ak) (l:List ak):aP (x :: l)=1+bY x.dat+aP l:=by rw [show x :: l=[x]++l from rfl,Aw,TN]
theorem aCV (a b:List aM):gq (a++b)=gq a+gq b:=by rw [gq,jM,LA]
theorem aCW (x:aM) (l:List aM):gq (x :: l)=1+bY x.dat+gq l:=by simp [gq,eZ]
theorem aCQ (a b:List aN):iA (a++b)=iA a+iA b:=by rw [iA,jM,LA]
theorem aCR (x:aN) (l:List aN):iA (x :: l)=1+bY x.dat+iA l:=by simp [iA,eZ]
theorem atE (fr:gW):∃ n,∀ m,aP (fr.plug m)=n+aP m:=by
 cases fr with
 | note a b c i tx h r=>exact ⟨aP a+1+(tx.size+oN h+gq r+6)+aP b,fun m=>by
   rw [gW.plug,Aw,aah,pG];dsimp only [ak.text,ak.head,ak.flow,ak.rows];omega⟩
 | cell a b c i tx h f ra rb rh ca cb ci ch=>exact ⟨aP a+1+(tx.size+oN h+aP f+(gq ra+(1+(oN rh+(iA ca+(1+(oN ch+2)+iA cb))+1)+gq rb))+6)+aP b,fun m=>by
   rw [gW.plug,Aw,aah,pG];dsimp only [ak.text,ak.head,ak.flow,ak.rows];rw [aCV,aCW,Av];dsimp only [aM.head,aM.cells]
   rw [aCQ,aCR,Ar];dsimp only [aN.head,aN.flow];omega⟩
theorem atB (fr:gW) (g:Int) (t:Nat):∃ A B,∀ m,dx g t (fr.plug m)=A++dx fr.id 0 m++B:=by
 cases fr with
 | note a b c i tx h r=>exact ⟨dx g t a,dx g (t+sJ a+1) b,fun m=>by
   rw [gW.plug,Dp,dx,qC,show n1 (.mk 6 c i tx h m r)=1 from rfl];simp [gW.id]⟩
 | cell a b c i tx h f ra rb rh ca cb ci ch=>exact ⟨dx g t a++(jC ra++kE ca),kE cb++jC rb++dx g (t+sJ a+1) b,fun m=>by
   rw [gW.plug,Dp,dx,qC,show ∀ rs,n1 (.mk 7 c i tx h f rs)=1 from fun _=>rfl];simp [gW.id,aaE,jC,uY,aaC,kE,uX]⟩
theorem atD (C:bN) (fr:gW) (body note:Bool) (t:Int) (f0:List ak) (h:iQ C body note t (fr.plug f0)):∃ b n tt,iQ C b n tt f0∧∀ m,iQ C b n tt m->iQ C body note t (fr.plug m):=by
 rw [zo] at h
 cases fr with
 | note a b c i tx hd r =>
  have hx:=h (.mk 6 c i tx hd f0 r) (by simp [gW.plug]);rw [lY] at hx;refine ⟨false,true,t,hx.2.2.2.1 O,fun m hm=>?_⟩;rw [zo];intro x hx'
  simp only [gW.plug,iP,iD] at hx'
  rcases hx' with h1|rfl|h1
  ·exact h x (by simp [gW.plug,h1])
  ·rw [lY];exact ⟨WT hx.1 (fun e=>absurd O e) O,hx.2.1,hx.2.2.1,fun _=>hm,hx.2.2.2.2⟩
  exact h x (by simp [gW.plug,h1])
 | cell a b c i tx hd f ra rb rh ca cb ci ch =>
  have hx:=h (.mk 7 c i tx hd f (ra++.mk rh (ca++.mk ci ch f0 :: cb) :: rb)) (by simp [gW.plug]);rw [lY] at hx;obtain ⟨h1,h2,h3,h4,h5⟩:=hx;obtain ⟨h5,h6⟩:=h5 O;rw [Y5] at h6;have h7:=h6 (.mk rh (ca++.mk ci ch f0 :: cb)) (by simp);rw [qJ,Y2] at h7;have h8:=h7.2 (.mk ci ch f0) (by simp);rw [qI] at h8;refine ⟨false,note,t+1,h8.2,fun m hm=>?_⟩;rw [zo];intro x hx'
  simp only [gW.plug,iP,iD] at hx'
  rcases hx' with g1|rfl|g1
  ·exact h x (by simp [gW.plug,g1])
  ·rw [lY];refine ⟨WT h1 (fun _ e=>e) (by simp),h2,h3,h4,fun _=>⟨by simpa using h5,?_⟩⟩;rw [Y5];intro y hy
   simp only [iP,iD] at hy
   rcases hy with g2|rfl|g2
   ·exact h6 y (by simp [g2])
   ·rw [qJ,Y2];refine ⟨by simpa using h7.1,fun z hz=>?_⟩
    simp only [iP,iD] at hz
    rcases hz with g3|rfl|g3
    ·exact h7.2 z (by simp [g3])
    ·rw [qI];exact ⟨h8.1,hm⟩
    exact h7.2 z (by simp [g3])
   exact h6 y (by simp [g2])
  exact h x (by simp [gW.plug,g1])
theorem TF {note:Bool} {t:Int} {F:gF}:∀ {l:List ak} {x:ak},x∈l->F∈qQ note t x->F∈iO note t l
 | y :: l,x,hx,h=>by
  rw [iO]
  rcases iD.1 hx with rfl|hx
  ·exact List.mem_append_left _ h
  exact List.mem_append_right _ (TF hx h)
theorem alH {note:Bool} {t:Int} {F:gF}:∀ {l:List aM} {x:aM},x∈l->F∈sO note t x->F∈mR note t l
 | y :: l,x,hx,h=>by
  rw [mR]
  rcases iD.1 hx with rfl|hx
  ·exact List.mem_append_left _ h
  exact List.mem_append_right _ (alH hx h)
theorem alE {note:Bool} {t:Int} {F:gF}:∀ {l:List aN} {x:aN},x∈l->F∈qP note t x->F∈nA note t l
 | y :: l,x,hx,h=>by
  rw [nA]
  rcases iD.1 hx with rfl|hx
  ·exact List.mem_append_left _ h
  exact List.mem_append_right _ (alE hx h)
theorem agp (fr:gW) (note:Bool) (t:Int) (m:List ak):∃ b n tt,⟨fr.id,m,b,n,tt⟩∈iO note t (fr.plug m)∧∀ F∈iO n tt m,F∈iO note t (fr.plug m):=by
 cases fr with
 | note a b c i tx h r =>
  refine ⟨false,true,t,TF (x:=.mk 6 c i tx h m r) (by simp [gW.plug]) (by rw [qQ,aH O];exact eT),fun F hF=>TF (x:=.mk 6 c i tx h m r) (by simp [gW.plug]) (by rw [qQ,aH O];exact gH _ hF)⟩
 | cell a b c i tx h f ra rb rh ca cb ci ch =>
  have hc:∀ F∈qP note t (.mk ci ch m),F∈iO note t ((gW.cell a b c i tx h f ra rb rh ca cb ci ch).plug m):=fun F hF =>
   TF (x:=.mk 7 c i tx h f (ra++.mk rh (ca++.mk ci ch m :: cb) :: rb)) (by simp [gW.plug]) (by
    rw [qQ,ay Q1,aH O]
    exact alH (x:=.mk rh (ca++.mk ci ch m :: cb)) (by simp) (by rw [sO];exact alE (x:=.mk ci ch m) (by simp) hF))
  refine ⟨false,note,t+1,hc _ (by rw [qP];exact eT),fun F hF=>hc _ (by rw [qP];exact gH _ hF)⟩
theorem ajD:∀ c:List gW,∃ A B,∀ m,gZ (lu c m)=A++gZ m++B
 | []=>⟨[],[],fun m=>by simp [lu]⟩
 | fr :: c=>by
  obtain ⟨A,B,h1⟩:=atC fr;obtain ⟨A',B',h2⟩:=ajD c;exact ⟨A++A',B'++B,fun m=>by rw [lu,h1,h2];simp⟩
theorem abP {p:Prop} (h:p:=by
 exact ⟨n+k,fun m=>by rw [lu,h1,h2,Nat.add_assoc]⟩):p:=h
theorem ajH:∀ c:List gW,∃ n,∀ m,jv (lu c m)=n+jv m
 | []=>⟨0,fun m=>by simp [lu]⟩
 | fr :: c=>by
  obtain ⟨n,h1⟩:=atF fr;obtain ⟨k,h2⟩:=ajH c;exact abP
theorem ajG:∀ c:List gW,∃ n,∀ m,aP (lu c m)=n+aP m
 | []=>⟨0,fun m=>by simp [lu]⟩
 | fr :: c=>by
  obtain ⟨n,h1⟩:=atE fr;obtain ⟨k,h2⟩:=ajG c;exact abP
theorem ajC:∀ (c:List gW) (g:Int),∃ A B,∀ m,dx g 0 (lu c m)=A++dx (hid g c) 0 m++B
 | [],g=>⟨[],[],fun m=>by simp [lu,hid]⟩
 | fr :: c,g=>by
  obtain ⟨A,B,h1⟩:=atB fr g 0;obtain ⟨A',B',h2⟩:=ajC c fr.id;exact ⟨A++A',B'++B,fun m=>by rw [lu,h1,h2,hid];simp⟩
theorem ajF (C:bN):∀ (c:List gW) (body note:Bool) (t:Int) (f0:List ak),iQ C body note t (lu c f0)->∃ b n tt,iQ C b n tt f0∧∀ m,iQ C b n tt m->iQ C body note t (lu c m)
 | [],body,note,t,f0,h=>⟨body,note,t,h,fun _ h=>h⟩
 | fr :: c,body,note,t,f0,h=>by
  obtain ⟨b,n,tt,h1,h2⟩:=atD C fr body note t _ h;obtain ⟨b',n',ZT,h3,h4⟩:=ajF C c b n tt f0 h1;exact ⟨b',n',ZT,h3,fun m hm=>h2 _ (h4 m hm)⟩
theorem ajE:∀ (fr:gW) (c:List gW) (note:Bool) (t:Int) (m:List ak),∃ b n tt,⟨hid fr.id c,m,b,n,tt⟩∈iO note t (lu (fr :: c) m)
 | fr,[],note,t,m=>by
  obtain ⟨b,n,tt,h,-⟩:=agp fr note t m;exact ⟨b,n,tt,h⟩
 | fr,fr' :: c,note,t,m=>by
  obtain ⟨b,n,tt,-,h⟩:=agp fr note t (lu (fr' :: c) m);obtain ⟨b',n',ZT,h'⟩:=ajE fr' c n tt m;exact ⟨b',n',ZT,h _ h'⟩
theorem azx {c:List gW} {f0:List ak} (h:yx (lu c f0)):uz (lu c f0) (hid 0 c)=some f0:=by
 have hm:∃ F∈mI (lu c f0),F.id=hid 0 c∧F.items=f0:=by
  cases c with
  | nil=>exact ⟨_,eT,O,O⟩
  | cons fr c =>
   obtain ⟨b,n,tt,h1⟩:=ajE fr c false 0 f0;exact ⟨_,gH _ h1,O,O⟩
 obtain ⟨F,h1,h2,h3⟩:=hm
 unfold uz
 rw [<- h2,QG h.ids h1,<- h3];rfl
def qR (d:jD) (m:List ak):jD:=⟨m,d.fin,d.revs,d.nS⟩
theorem adi {p:Prop} (h:p:=by
 by_cases hi:i=id∧false=false
 ·rw [aH hi] at e;cases e
 rw [ay hi] at e;intro F hF
 rcases iD.1 hF with rfl|hF
 ·exact fun e=>hi ⟨e,O⟩
 exact hf e F hF):p:=h
mutual
theorem ayO (id:Int) (new:List ak) (note:Bool) (t:Int):∀ x:ak,(oJ id new false x).2=false->∀ F∈qQ note t x,F.id≠id
 | .mk k c i tx h f r,e=>by
  have hf:=Sc id new true t f;have hr:=ajk id new note t r;rw [oJ] at e;rw [qQ]
  by_cases h6:k=6
  ·rw [aH h6] at e |-
   exact adi
  rw [ay h6] at e |-
  by_cases h7:k=7
  ·rw [aH h7] at e |-;exact hr e
  rw [ay h7] at e |-;exact fun F hF=>(by cases hF)
theorem ayP (id:Int) (new:List ak) (note:Bool) (t:Int):∀ x:aM,(rH id new false x).2=false->∀ F∈sO note t x,F.id≠id
 | .mk h cs,e=>by rw [rH] at e;rw [sO];exact ajj id new note t cs e
theorem ayN (id:Int) (new:List ak) (note:Bool) (t:Int):∀ x:aN,(pY id new false x).2=false->∀ F∈qP note t x,F.id≠id
 | .mk i h f,e=>by
  have hf:=Sc id new note (t+1) f;rw [pY] at e;rw [qP]
  exact adi
theorem Sc (id:Int) (new:List ak) (note:Bool) (t:Int):∀ l:List ak,(iM id new false l).2=false->∀ F∈iO note t l,F.id≠id
 | [],_,F,hF=>by rw [iO] at hF;cases hF
 | x :: l,e,F,hF=>by
  rw [iM] at e;rw [iO] at hF
  cases hx:(oJ id new false x).2 with
  | true=>rw [hx,FC] at e;cases e
  | false =>
   rw [hx] at e
   rcases iP.1 hF with hF|hF
   ·exact ayO id new note t x hx F hF
   exact Sc id new note t l e F hF
theorem ajk (id:Int) (new:List ak) (note:Bool) (t:Int):∀ l:List aM,(lM id new false l).2=false->∀ F∈mR note t l,F.id≠id
 | [],_,F,hF=>by rw [mR] at hF;cases hF
 | x :: l,e,F,hF=>by
  rw [lM] at e;rw [mR] at hF
  cases hx:(rH id new false x).2 with
  | true=>rw [hx,La] at e;cases e
  | false =>
   rw [hx] at e
   rcases iP.1 hF with hF|hF
   ·exact ayP id new note t x hx F hF
   exact ajk id new note t l e F hF
theorem ajj (id:Int) (new:List ak) (note:Bool) (t:Int):∀ l:List aN,(lZ id new false l).2=false->∀ F∈nA note t l,F.id≠id
 | [],_,F,hF=>by rw [nA] at hF;cases hF
 | x :: l,e,F,hF=>by
  rw [lZ] at e;rw [nA] at hF
  cases hx:(pY id new false x).2 with
  | true=>rw [hx,KZ] at e;cases e
  | false =>
   rw [hx] at e
   rcases iP.1 hF with hF|hF
   ·exact ayN id new note t x hx F hF
   exact ajj id new note t l e F hF
end
def nQ (id:Int) (new l:List ak):List ak:=if id=0 then new else (iM id new false l).1
theorem aBD {l:List ak} (h:yx l) {g:gF} (hg:g∈mI l) (new:List ak):∃ c,hid 0 c=g.id∧l=lu c g.items∧nQ g.id new l=lu c new:=by
 have hfo:uz l g.id=some g.items:=by unfold uz;rw [QG h.ids hg];rfl
 have key:∃ c f0,hid 0 c=g.id∧l=lu c f0∧nQ g.id new l=lu c new:=by
  by_cases h0:g.id=0
  ·exact ⟨[],l,h0.symm,O,aH h0⟩
  rw [nQ,ay h0]
  have hr:(iM g.id new false l).2=true:=by
   cases e:(iM g.id new false l).2 with
   | true=>rfl
   | false =>
    rcases iD.1 hg with rfl|hg
    ·exact absurd O h0
    exact absurd O (Sc g.id new false 0 l e g hg)
  obtain ⟨fr,c,f0,h1,h2,h3⟩:=TG g.id new l hr;exact ⟨fr :: c,f0,h1,h2,h3⟩
 obtain ⟨c,f0,h1,h2,h3⟩:=key;have h4:=azx (h2 ▸ h);rw [<- h2,h1,hfo] at h4;exact ⟨c,h1,by rw [h2,Option.some.inj h4],h3⟩
theorem afg:aW 44:=aY func44 O
theorem arN:aW 34:=aY func34 O
section
section
variable {N:Nat} {D:List Deferred} {w0:World} {F:Nat->Prop} {G0 G G1 G2:GH} {L L1 L2:OL} {T Xs:List (Nat × ah)}
variable {r:Option Nat} {P:Program} {Q:Exit->Act->World->Prop} {l:List Oper} {a a':Act} {w w':World}
theorem anX {id:Nat} {κ:Type} (k0:κ) (Lf:κ->OL) (J:(Nat->Bool)->κ->Prop) (hJ:J (fun _=>false) k0) (hm:P.follows .mixedOrders=true) (bS:List (List Nat)) (B:List Nat) (hk:yL l bS=true) (hB:zB l bS B=true) (pr:Nat->ah->GH->Prop)
  (H:St N D w0 F G0 G (Lf k0) T a w)
  (hstep:allI (fun i o=>∀ k S a w G1,B.contains i=false->J S k->S i=false->(∀ j∈bS.getD i [],S j=true)->(∀ k o,G k=some o->G1 k=some o)->St N D w0 F G0 G1 (Lf k) T a w->(∀ i d,S i=true->dZ l i=some d->∃ v,a.tmps[d]?=some v∧pr i v G1) ->
   WL r P l.toArray (fun e a' w'=>e=.normal∧∃ k',J (dO S i) k'∧DX N D w0 F G0 G (Lf k') T l pr (dO S i) a' w') [o] a w) 0 l)
  (hend:∀ k S a w G1,(∀ i,i < l.length->B.contains i=false->S i=true)->J S k->(∀ k o,G k=some o->G1 k=some o)->St N D w0 F G0 G1 (Lf k) T a w->(∀ i d,B.contains i=false->dZ l i=some d->∃ v,a.tmps[d]?=some v∧pr i v G1)->WL r P l.toArray (fun e a w=>e=.normal∧Q .normal a w) (qK l B) a w):WP r P (.region id l.toArray true) Q a w:=by
 refine MH hm bS B hk hB (fun S a w=>∃ k,J S k∧DX N D w0 F G0 G (Lf k) T l pr S a w) ⟨k0,hJ,G,fun _ _ h=>h,H.move H.hp.drew,fun _ _ h=>absurd (show false=true from h) Q1⟩ ?_ ?_
 ·rintro i o S a w ho hb aV kM - ⟨k,hj,G1,hG,HS,hv⟩
  have h:=zL hstep i o ho
  rw [fO] at h
  exact h k S a w G1 hb hj aV kM hG HS hv
 ·rintro S a w hall Rw ⟨k,hj,G1,hG,HS,hv⟩
  exact hend k S a w G1 hall hj hG HS fun j d hb hd=>hv j d (hall j (wG hd) hb) hd
theorem Io {κ:Type} {Lf:κ->OL} {J:(Nat->Bool)->κ->Prop} {bS:List (List Nat)} {B:List Nat} {pr:Nat->ah->GH->Prop} {i:Nat} {o:Oper} (hJ:∀ S k,J S k->J (dO S i) k)
  (h:∀ k,(∀ S a w G1,B.contains i=false->S i=false->(∀ j∈bS.getD i [],S j=true)->(∀ k o,G k=some o->G1 k=some o)->St N D w0 F G0 G1 (Lf k) T a w->(∀ i d,S i=true->dZ l i=some d->∃ v,a.tmps[d]?=some v∧pr i v G1) ->
   WL r P l.toArray (fun e a' w'=>e=.normal∧DX N D w0 F G0 G (Lf k) T l pr (dO S i) a' w') [o] a w)) :
  ∀ k S a w G1,B.contains i=false->J S k->S i=false->(∀ j∈bS.getD i [],S j=true)->(∀ k o,G k=some o->G1 k=some o)->St N D w0 F G0 G1 (Lf k) T a w->(∀ i d,S i=true->dZ l i=some d->∃ v,a.tmps[d]?=some v∧pr i v G1) ->
   WL r P l.toArray (fun e a' w'=>e=.normal∧∃ k',J (dO S i) k'∧DX N D w0 F G0 G (Lf k') T l pr (dO S i) a' w') [o] a w :=
 fun k S a w G1 h1 hj h2 h3 h4 h5 h6=>pF (fun _ _ _ ⟨e,hd⟩=>⟨e,k,hJ S k hj,hd⟩) (h k S a w G1 h1 h2 h3 h4 h5 h6)
end
end
structure Mh (G:GH) (id:Int) (new:List ak) (b4 b5:Nat):Prop where
 i:aI G b4 0=some (vi id)
 n:∃ A n c,aI G b5 0=some (.slice A n c)∧av G (.sl 11 (new.map ak.dat)) (.slice A n c)
 z:aP new<=1073741824
theorem Mh.mono {G G':GH} (hm:∀ b o,G b=some o->G' b=some o) {id:Int} {new:List ak} {b4 b5:Nat} (h:Mh G id new b4 b5):Mh G' id new b4 b5 :=
 ⟨aK hm h.i,let ⟨A,n,c,h1,h2⟩:=h.n;⟨A,n,c,aK hm h1,h2.mono hm⟩,h.z⟩
theorem akF (G:GH) (w0:World) (id:Int) (new:List ak) (b4 bd b5:Nat) (q:Bool) (hO:fM G [vk bd q] w0) (hE:Mh G id new b4 b5) (i:Int) (f:List ak) (v:ah) (hv:av G (.sl 11 (f.map ak.dat)) v) :
  tY prog (Lj b4 bd b5) [vi i,v] w0 (fB w0 G [vk bd q] fun u G' L'=>L'=[vk bd (qM id q i)]∧av G' (.sl 11 ((qx id new q i f).map ak.dat)) u):=by
 refine kG (caps:=[(aJ b4 0),(aJ bd 0),(aJ b5 0)]) arW ?_;obtain ⟨A,n,c,rfl⟩:=hv.form;obtain ⟨hi,⟨B,m,e,hb,hn⟩,hz⟩:=hE;refine iB (N:=16) (T:=[(0,_),(1,_),(2,_),(3,_),(4,_)]) func79 O ntmps79 O O hO ?_;intro a H;refine kP H (SR fun _ K1=>au K1 O (SQ fun _ K2=>SR fun _ K3=>Rm O (Rg aD O hi (Rc O (Rm O (Sp 11 O ?_ ?_)))))) <;> clear H K1
 ·intro h11 a H
  try have qp:=dT h11
  exact kH H (Ks h11 O (Pt h11 O (Kz K3 (Ct O O (SR fun _ K4=>Rm O (au K4 O (LR results79 O fun H=>H.hp.gI (by unfold qM qx;simp_all))))))))
 intro h11 a H
 try have qp:=dF h11
 refine kH H (YO uS 0 h11 O (Pf h11 O (Kz K3 (Cd O ?_ ?_)))) <;> clear H K3
 ·intro fT a H
  try have pz:=dT fT
  exact kP H (SR fun _ K5=>Rm O (au K5 O (LR results79 O fun H=>H.hp.gI (by unfold qM qx;simp_all))))
 intro fT a H
 try have pz:=dF fT
 refine gT ?_;refine K2 _ _ ?_;clear K2;refine dH (fun _ K6=>?_);refine bM uS 0 (vs:=[_]) H wn O ?_;clear H;intro w H;refine K6 _ _ ?_;clear K6;exact kP H (SR fun _ K7=>Rg fC O hb (au K7 O (LR results79 O fun H=>H.hp.gI (by unfold qM qx;simp_all))))
def Uo (id:Int) (new:List ak) (b4 bd b5 n:Nat):Prop:=∀ (G:GH) (w0:World) (l:List ak) (v:ah) (q:Bool),fM G [vk bd q] w0->Mh G id new b4 b5->av G (.sl 11 (l.map ak.dat)) v->R3 q l < n->aP l<=1073741824 ->
 Calls prog 78 #[v,S9,Lj b4 bd b5] w0 (fB w0 G [vk bd q] fun u G' L'=>∃ m q',iM id new q l=(m,q')∧L'=[vk bd q']∧av G' (.sl 11 (m.map ak.dat)) u)
theorem Jw {p:Prop} (h:p:=by
 refine dB [] O trivial Z lg O O ?_;intro bC a w G1 hG HT H fin;exact abm):p:=h
theorem zO {p:Prop} (h:p:=by
 intro _ _ _ _ _ hB;exact jW):p:=h
theorem Qa {p:Prop} (h:p:=by
 refine Io (fun _ _ h=>h) fun iW=>?_;exact Jw):p:=h
set_option maxHeartbeats 4000000 in
theorem azT {id:Int} {new:List ak} {b4 bd b5 n:Nat} (ih:Uo id new b4 bd b5 n):Uo id new b4 bd b5 (n+1):=by
 intro G w0 l v b hO hE hv hms hz;obtain ⟨A,c,rfl,hc1,hc2,hg⟩:=hv.slice
 have hml:4294967297<=maxLen:=by decide
 have hll:=Au l;rw [bR] at *;refine iB (N:=88) (T:=[(0,_),(1,_),(2,_)]) func78 O ntmps78 O O hO ?_;intro a H;refine kP H (SR fun _ K1=>au K1 O (SR fun _ K2=>au K2 O (SQ fun _ K3=>SR fun _ K4=>Rm O (Rl eH O (Rm O (Kz K4 (SB ?_)))))));clear H K1 K2 K4;intro a H;skip;refine eO (ι:=Nat × Bool × ah × List ak × List ah × OL × GH) (Tc:=[(1,_),(2,_),(15,_),(16,_)]) (Lc:=[]) (fun gh=>[(7,gh.2.2.1),(17,vi gh.1)]) (fun gh=>[vk bd gh.2.1]++gh.2.2.2.2.2.1) (fun gh=>gh.2.2.2.2.2.2) (fun gh=>gh.1<=l.length∧bV 128 11 gh.2.2.1 gh.2.2.2.1.length gh.2.2.2.2.1 gh.2.2.2.2.2.1∧bT gh.2.2.2.2.2.2 11 (gh.2.2.2.1.map ak.dat) gh.2.2.2.2.1∧iM id new b (l.take gh.1)=(gh.2.2.2.1,gh.2.1)∧(∀ b o,G b=some o->gh.2.2.2.2.2.2 b=some o)) (fun gh=>l.length - gh.1) ((0,b,.slice none 0 0,[],[],[],G)) (by exact (H.KR (A:=[_])).sub ⟨O,O,O,O,O,O,aB⟩) ?_ ?_
 ·exact ⟨V,bV.nil,bT.nil,by rw [List.take_zero,iM],fun _ _ h=>h⟩
 clear H;rintro ⟨k,q,v,m,xs,Lo,g⟩ a w hI H;dsimp only at hI H;obtain ⟨hk,hrw,fZ,hsb,hgm⟩:=hI;have NH:=ajZ hsb;rw [List.length_take] at NH;dsimp only [lca,bD] at H;refine kP H (SR fun _ K5=>Rc O (Kz K5 (SQ fun _ K6=>Cd O ?_ ?_))) <;> clear H K5
 ·intro h18 a H
  try have qw:=dT h18
  have hk2:k < l.length:=by omega
  obtain ⟨b_,o_,pA,pn,pc,dA,dn,dc,yA,yn,yc,fA,fn,fc,rA,rn,rc,rfl,hrow,hhd,hfl,hrs⟩:=zT hk2 hg;replace hrow:=fun j u hj=>aK hgm (hrow j u hj);replace hhd:=hhd.mono hgm;replace hfl:=hfl.mono hgm;replace hrs:=hrs.mono hgm;have hE2:=hE.mono hgm;have agR:=aAv hsb;have hzi:=IW hk2;refine kP H (Kc K6 (SQ fun _ K7=>SB (SR fun _ K8=>Ri eH cO O O ?_)));clear H K6;intro a H;refine bq cO (cs:=[_,_,_,_,_,_,_,_,_,_,_]) H wn O O (fun j v hj=>H.hp.aI (hrow j v hj)) O ?_;clear H;intro a H;refine dR cO H wn O ?_;clear H;intro b9 a w uG H;refine bM cO 0 (vs:=[_,_,_,_,_,_,_,_,_,_,_]) H wn O ?_;clear H;intro w H;refine K8 _ _ ?_;clear K8;refine rX (ι:=Bool × ak × List ah × GH) (Tc:=[(1,_),(2,_),(7,_),(9,_),(15,_),(16,_),(17,_)]) (Lc:=[]) (fun gh=>[]) (fun gh=>[(b9,.cells gh.2.2.1.toArray 128 (0,0)),vk bd gh.1]++Lo) (fun gh=>gh.2.2.2) (fun gh=>oJ id new q l[k]=(gh.2.1,gh.1)∧aX gh.2.2.2 gh.2.1.dat gh.2.2.1∧(∀ b o,g b=some o->gh.2.2.2 b=some o)) (by exact H.sub ⟨O,O,O,O,O,O,O,aB⟩) ?_ ?_
  ·skip;refine kP H (SR fun _ K9=>aU iL aD 0 O O (Kz K9 (SB (SR fun _ aT=>Rc O (au aT O (Cd O ?_ ?_)))))) <;> clear H K9 aT
   ·intro h23 a H
    try have qL:=dT h23
    have ahi:=aiU (id:=id) (new:=new) (i:=l[k].id) (f:=l[k].flow) agR V hz hms hE.z;refine kP H (SC (Rm O (aU yO aD 0 O O (aU uw fC 0 O O ?_))));clear H;intro a H;refine Ai (Li:=[_]++Lo) (L:=[vk bd _]) (H.perm (wT [_] Lo _)) wn O O (akF _ _ id new b4 bd b5 _ (Hp.owns (Li:=[_]++Lo) (H.perm (wT [_] Lo _)).hp) hE2 l[k].id l[k].flow _ hfl) O ?_;clear H;rintro v30 EC L30 a w ⟨rfl,ahQ⟩ zZ H;have H:=H.perm (wT [_] Lo _).symm;obtain ⟨A30,n30,c30,rfl⟩:=ahQ.form;refine kH H (Rm O (Rm O ?_));clear H;intro a H;refine gD Ww (Li:=[_]++Lo) (L:=[vk bd _]) (H.perm (wT [_] Lo _)) wn O (ih _ _ _ _ _ (Hp.owns (Li:=[_]++Lo) (H.perm (wT [_] Lo _)).hp) (hE2.mono zZ) ahQ ahi.1 ahi.2) O ?_;clear H;rintro v33 Ua L33 a w ⟨m33,q33,awI,rfl,ahR⟩ Rp H;have H:=H.perm (wT [_] Lo _).symm;obtain ⟨A33,n33,c33,rfl⟩:=ahR.form;dsimp only [lca,bD] at H;refine kH H (Rf uw O ?_);clear H;intro a H;refine bM fC 0 (vs:=[_]) H wn O ?_;clear H;intro w H;refine aF ?_;refine ⟨(q33,.mk l[k].kind l[k].code l[k].id l[k].text l[k].head m33 l[k].rows,[vi l[k].kind,vi l[k].code,vi l[k].id,.string l[k].text,.slice pA pn pc,vi l[k].head.marks.ins,vi l[k].head.marks.move,.slice dA dn dc,.slice yA yn yc,.slice A33 n33 c33,.slice rA rn rc],Ua),by exact H.sub ⟨O,O,O,O,O,O,O,aB⟩,?_⟩;(try dsimp only);exact ⟨aAw qL awI,aX.mkItem (x:=.mk l[k].kind l[k].code l[k].id l[k].text l[k].head m33 l[k].rows) (hhd.mono fun b o h=>Rp b o (zZ b o h)) ahR (hrs.mono fun b o h=>Rp b o (zZ b o h)),fun b o h=>Rp b o (zZ b o h)⟩
   intro h23 a H
   try have qL:=dF h23
   refine kP H (SR fun _ bJ=>Rc O (au bJ O (Cd O ?_ ?_))) <;> clear H bJ
   ·intro iV a H
    try have p35:=dT iV
    refine kP H (SR fun _ bO=>au bO O (SQ fun _ bU=>SR fun _ bZ=>Rm O (aU yO aD 0 O O (aU pR oq 0 O O ?_))));clear H bO;intro a H;refine oL H wn O O (aBn _ _ H.ro l[k].id rA rn rc) O ?_;clear H;rintro v42 Uc a w rfl ahd H;have aDX:=hrs;obtain ⟨_,rc_,he,hc3,hc4,avz⟩:=hrs.slice
    injection he with he1 he2 he3
    subst he1 he2 he3;have hrl:=F4 l[k].rows;rw [bR] at *;refine kH H (Rl jS O (Rm O (Kz bZ (SB ?_))));clear H bZ;intro a H;skip;refine eO (ι:=Nat × Bool × ah × List aM × List ah × OL × GH) (Tc:=[(1,_),(2,_),(7,_),(9,_),(15,_),(16,_),(17,_),(42,_),(43,_)]) (Lc:=[(_,_)]) (fun gh=>[(10,gh.2.2.1),(44,vi gh.1)]) (fun gh=>[vk bd gh.2.1]++(Lo++gh.2.2.2.2.2.1)) (fun gh=>gh.2.2.2.2.2.2) (fun gh=>gh.1<=l[k].rows.length∧bV 131 6 gh.2.2.1 gh.2.2.2.1.length gh.2.2.2.2.1 gh.2.2.2.2.2.1∧bT gh.2.2.2.2.2.2 6 (gh.2.2.2.1.map aM.dat) gh.2.2.2.2.1∧lM id new q (l[k].rows.take gh.1)=(gh.2.2.2.1,gh.2.1)∧(∀ b o,g b=some o->gh.2.2.2.2.2.2 b=some o)) (fun gh=>l[k].rows.length - gh.1) ((0,q,.slice none 0 0,[],[],[],Uc)) (by exact (H.KR (A:=[_,_])).sub ⟨O,O,O,O,O,O,O,O,O,O,O,aB⟩) ?_ ?_
    ·exact ⟨V,bV.nil,bT.nil,by rw [List.take_zero,lM],ahd⟩
    clear H;rintro ⟨j,q2,vr,rs,ys,Lr,g2⟩ a w hI H;dsimp only at hI H;obtain ⟨hj,hrw2,Ki,hsr,mM⟩:=hI;have awr:=akf hsr;rw [List.length_take] at awr;dsimp only [lca,bD] at H;refine kP H (SR fun _ dP=>Rc O (Kz dP (SQ fun _ dY=>Cd O ?_ ?_))) <;> clear H dP
    ·intro h45 a H
     try have p45:=dT h45
     have hj2:j < l[k].rows.length:=by omega
     obtain ⟨b2_,o2_,qA,qn,qc,sA,sn,sc,tA,tn,tc,cA,cn,cc,rfl,hrow2,XF,hcl⟩:=IB hj2 avz;replace hrow2:=fun j u hj=>aK mM (hrow2 j u hj);replace XF:=XF.mono mM;replace hcl:=hcl.mono mM;have avu:=fun h=>aAs hsr (agR h);have hzr:=IX hj2;have aDC:=FZ l[k].rows[j].cells;refine kP H (Kc dY (SQ fun _ dQ=>SB (SR fun _ eX=>Ri jS ig O O ?_)));clear H dY;intro a H;refine bq ig (cs:=[_,_,_,_,_,_]) H wn O O (fun j v hj=>H.hp.aI (hrow2 j v hj)) O ?_;clear H;intro a H;refine dR ig H wn O ?_;clear H;intro b12 a w D9 H;refine bM ig 0 (vs:=[_,_,_,_,_,_]) H wn O ?_;clear H;intro w H;refine eX _ _ ?_;clear eX;refine kP H (SR fun _ gM=>aU uy rM 0 O O ?_);clear H;intro a H;refine gD aqp (Li:=[_,_,_]++(Lo++Lr)) (L:=[]) (H.cast (jV _).symm) wn O (aoS _ _ (wR H.ro) _ _ _ _ hcl (by simpa using (by omega:l[k].rows[j].cells.length<=4294967296))) rfl ?_;clear H;rintro v50 G50 L50 a w ⟨aC6,Ya,auZ⟩ ahe H;rw [bR] at Ya;obtain ⟨OV,GQ,rfl,-,-⟩:=Ya.shape;dsimp only [lca,bD] at H;refine kH H (Rf uy O ?_);clear H;intro a H;refine bM rM 0 (vs:=[_]) H wn O ?_;clear H;intro w H;refine gM _ _ ?_;clear gM;refine kP H (SQ fun _ fI=>SR fun _ gQ=>aU uy rM 0 O O (Rl kQ O (Rm O (Kz gQ (SB ?_)))));clear H gQ;intro a H;skip;refine eO (ι:=Nat × Bool × List aN × List ah × OL × GH) (Tc:=[(1,_),(2,_),(7,_),(9,_),(10,_),(12,_),(15,_),(16,_),(17,_),(42,_),(43,_),(44,_),(53,_),(54,_)]) (Lc:=[(_,_),(_,_)]) (fun gh=>[(55,vi gh.1)]) (fun gh=>[vk bd gh.2.1]++((Lo++Lr)++gh.2.2.2.2.1)) (fun gh=>gh.2.2.2.2.2) (fun gh=>gh.1<=l[k].rows[j].cells.length∧bV 134 7 (.slice OV l[k].rows[j].cells.length GQ) l[k].rows[j].cells.length gh.2.2.2.1 gh.2.2.2.2.1∧bT gh.2.2.2.2.2 7 (gh.2.2.1.map aN.dat) gh.2.2.2.1∧lZ id new q2 (l[k].rows[j].cells.take gh.1)=(gh.2.2.1.take gh.1,gh.2.1)∧gh.2.2.1.length=l[k].rows[j].cells.length∧gh.2.2.1.drop gh.1=l[k].rows[j].cells.drop gh.1∧(∀ b o,G50 b=some o->gh.2.2.2.2.2 b=some o)) (fun gh=>l[k].rows[j].cells.length - gh.1) ((0,q2,l[k].rows[j].cells,aC6,L50,G50)) (by exact H.sub ⟨O,O,O,O,O,O,O,O,O,O,O,O,O,O,O,aB⟩) ?_ ?_
     ·exact ⟨V,Ya,auZ,by simp only [List.take_zero,lZ],O,O,fun _ _ h=>h⟩
     clear H;rintro ⟨i,q3,ds,zs,Lc,g3⟩ a w hI H;dsimp only at hI H;obtain ⟨hi,hrw3,Xx,hsc,hdl,hdr,yX⟩:=hI;dsimp only [lca,bD] at H;refine kP H (SR fun _ jw=>Rc O (Kz jw (SQ fun _ kK=>Cd O ?_ ?_))) <;> clear H jw
     ·intro W9 a H
      try have p56:=dT W9
      have hi2:i < l[k].rows[j].cells.length:=by omega
      have hi3:i < ds.length:=by omega
      have hdi:ds[i]=l[k].rows[j].cells[i]:=by
       have h1:(ds.drop i)[0]?=(l[k].rows[j].cells.drop i)[0]?:=by rw [hdr]
       rw [List.getElem?_drop,List.getElem?_drop,wB,fF hi3,fF hi2] at h1;exact Option.some.inj h1
      obtain ⟨bc,rfl⟩:=hrw3.ptr V;obtain ⟨zc,hzc,hzx,axh⟩:=Xx.at (k:=i) (r:=ds[i].dat) (by simp [hi3]);obtain ⟨aA,an,ac,gA,gn,gc,uA,un,uc,wA,TI,wc,rfl,aDG,avt⟩:=axh.cell;obtain ⟨cur,-,rfl,hcur,hset⟩:=hrw3.set1;have avv:=fun h=>aAq hsc (avu h);have hE3:=hE2.mono fun b o h=>yX b o (ahe b o (mM b o h));have axf:=IV hi2;rw [<- hdi] at axf;have ahj:=aiU (id:=id) (new:=new) (i:=ds[i].id) (f:=ds[i].flow) avv V hz hms hE.z;refine kP H (Kc kK (SQ fun _ kD=>SB (SR fun _ jF=>Rm O (Ri kQ iN O O ?_))));clear H kK;intro a H;refine bq iN (cs:=[vi ds[i].id,.slice aA an ac,vi ds[i].head.marks.ins,vi ds[i].head.marks.move,.slice gA gn gc,.slice uA un uc,.slice wA TI wc]) H wn O O (fun j v hj=>hrw3.at H.hp (fun x hx=>gH _ (gH _ (gH _ (List.mem_append_right _ hx)))) (by rw [fO];exact hzx j v hj)) O ?_;clear H;intro a H;refine dR iN H wn O ?_;clear H;intro b14 a w QV H;refine kH H (Ra O ?_);clear H;intro a H;refine bM iN 0 (vs:=[_,_,_,_,_,_,_]) H wn O ?_;clear H;intro w H;refine jF _ _ ?_;clear jF
      have lg:wu (fun (dK:Nat) (v:ah) (G:GH)=>match dK with|0=>v=(aJ b12 5)|1=>v=.slice (some ⟨bc,0,none⟩) l[k].rows[j].cells.length GQ|2=>v=vi i|3=>v=Lj b4 bd b5|4=>v=(aJ b14 0)|5=>v=vi ds[i].id|6=>v=(aJ b14 6)|7=>v=.slice wA TI wc|8=>av G (.sl 11 ((qx id new q3 ds[i].id ds[i].flow).map ak.dat)) v|9=>v=S9|10=>v=Lj b4 bd b5|11=>av G (.sl 11 ((iM id new (qM id q3 ds[i].id) (qx id new q3 ds[i].id ds[i].flow)).1.map ak.dat)) v|_=>True):=by intro dK v G G' hm h;(iterate 15 (rcases dK with _|dK;(first|exact h|exact av.mono hm h)));exact trivial
      refine anX (κ:=Bool) (q3) (fun q=>(b14,.cells #[vi ds[i].id,.slice aA an ac,vi ds[i].head.marks.ins,vi ds[i].head.marks.move,.slice gA gn gc,.slice uA un uc,.slice wA TI wc] 134 (0,0)) :: (b12,.cells #[.slice qA qn qc,vi l[k].rows[j].head.marks.ins,vi l[k].rows[j].head.marks.move,.slice sA sn sc,.slice tA tn tc,.slice (some ⟨bc,0,none⟩) l[k].rows[j].cells.length GQ] 131 (0,0)) :: (b9,.cells #[vi l[k].kind,vi l[k].code,vi l[k].id,.string l[k].text,.slice pA pn pc,vi l[k].head.marks.ins,vi l[k].head.marks.move,.slice dA dn dc,.slice yA yn yc,.slice fA fn fc,.slice (some ⟨b2_,o2_,none⟩) l[k].rows.length rc] 128 (0,0)) :: vk bd q :: ((Lo++Lr)++[(bc,.cells cur.toArray 134 (0,0))])) (fun S k=>(S 11=true->S 8=true)∧k=bif S 11 then (iM id new (qM id q3 ds[i].id) (qx id new q3 ds[i].id ds[i].flow)).2 else bif S 8 then qM id q3 ds[i].id else q3) (⟨fun h=>h,O⟩) (hmx) [[],[0],[],[],[],[4],[],[6],ra 3 5,[],[],ra 3 8,ra 0 12,ra 0 13,ra 0 14] [12,13,14] Z Z (fun (dK:Nat) (v:ah) (G:GH)=>match dK with|0=>v=(aJ b12 5)|1=>v=.slice (some ⟨bc,0,none⟩) l[k].rows[j].cells.length GQ|2=>v=vi i|3=>v=Lj b4 bd b5|4=>v=(aJ b14 0)|5=>v=vi ds[i].id|6=>v=(aJ b14 6)|7=>v=.slice wA TI wc|8=>av G (.sl 11 ((qx id new q3 ds[i].id ds[i].flow).map ak.dat)) v|9=>v=S9|10=>v=Lj b4 bd b5|11=>av G (.sl 11 ((iM id new (qM id q3 ds[i].id) (qx id new q3 ds[i].id ds[i].flow)).1.map ak.dat)) v|_=>True) H ?_ ?_
      ·clear H;refine aC ?_ ?_ ?_ ?_ (aC ?_ ?_ ?_ ?_ (aC ?_ ?_ ?_ ?_ (bK ?_ (bK ?_ (bK ?_ dG)))))
       ·refine Io (fun _ _ h=>h) fun iW=>?_;refine dB [] O trivial Z lg O O ?_;exact MF
       ·refine Io (fun _ _ h=>h) fun iW=>?_;refine dB [(0,60,_)] O ⟨fun _ _ h=>h,aB⟩ Z lg O O ?_;intro bC a w G1 hG HT H fin;exact abj
       ·exact Qa
       ·exact Qa
       ·refine Io (fun _ _ h=>h) fun iW=>?_;refine dB [] O trivial Z lg O O ?_;exact P7
       ·refine Io (fun _ _ h=>h) fun iW=>?_;refine dB [(4,64,_)] O ⟨fun _ _ h=>h,aB⟩ Z lg O O ?_;intro bC a w G1 hG HT H fin;exact kH H (Ro aD 0 O fun _ H=>fin H iJ O)
       ·refine Io (fun _ _ h=>h) fun iW=>?_;refine dB [] O trivial Z lg O O ?_;exact P6
       ·refine Io (fun _ _ h=>h) fun iW=>?_;refine dB [(6,66,_)] O ⟨fun _ _ h=>h,aB⟩ Z lg O O ?_;intro bC a w G1 hG HT H fin;exact kH H (Ro fC 0 O fun _ H=>fin H iJ O)
       ·intro iW bC a w G1 _ J6 aV hc hG HT hv;have H:=HT
        have agv:bC 11=false:=by cases h:bC 11 with|false=>rfl|true=>exact absurd (J6.1 h) (by rw [aV];decide)
        obtain rfl:iW=q3:=by have h:=J6.2;rw [agv,aV] at h;exact h
        have H:=H.aQ (hv 3 63 (hc 3 Q1) O) O;have H:=H.aQ (hv 5 65 (hc 5 Q1) O) O;have H:=H.aQ (hv 7 67 (hc 7 Q1) O) O;have Hb:=H.full;have H:=Hb;clear hc;refine Ai (Li:=[_,_,_]++((Lo++Lr)++[_])) (L:=[vk bd _]) (H.perm (wT [_,_,_] ((Lo++Lr)++[_]) _)) wn O O (akF _ _ id new b4 bd b5 _ (Hp.owns (Li:=[_,_,_]++((Lo++Lr)++[_])) (H.perm (wT [_,_,_] ((Lo++Lr)++[_]) _)).hp) (hE3.mono hG) ds[i].id ds[i].flow _ (avt.mono hG)) O ?_;clear H;rintro v68 G68 L68 a w ⟨rfl,axc⟩ auh H;have H:=H.perm (wT [_,_,_] ((Lo++Lr)++[_]) _).symm;dsimp only [lca,bD] at H;refine aF ⟨O,_,⟨fun _=>rfl,by show _=bif bC 11 then _ else _;rw [agv];try rfl⟩,?_⟩;exact EO Z lg O HT Hb hG (fun j e h1 h2 h3=>hv j e h2 h3) auh (axc) H
       ·exact Qa
       ·exact Qa
       ·intro iW bC a w G1 _ J6 aV hc hG HT hv;have H:=HT;have h8_:=hc 8 Q1
        obtain rfl:iW=qM id q3 ds[i].id:=by have h:=J6.2;rw [aV,h8_] at h;exact h
        obtain ⟨u68,awW,XY⟩:=hv 8 68 (hc 8 Q1) O;(try dsimp only at XY);obtain ⟨A68,n68,c68,rfl⟩:=XY.form;have H:=H.fV awW;have H:=H.aQ (hv 9 69 (hc 9 Q1) O) O;have H:=H.aQ (hv 10 70 (hc 10 Q1) O) O;have Hb:=H.full;have H:=Hb;clear hc;refine gD Ww (Li:=[_,_,_]++((Lo++Lr)++[_])) (L:=[vk bd _]) (H.perm (wT [_,_,_] ((Lo++Lr)++[_]) _)) wn O (ih _ _ _ _ _ (Hp.owns (Li:=[_,_,_]++((Lo++Lr)++[_])) (H.perm (wT [_,_,_] ((Lo++Lr)++[_]) _)).hp) (hE3.mono hG) XY ahj.1 ahj.2) O ?_;clear H;rintro v71 G71 L71 a w ⟨m71,q71,ahL,rfl,axd⟩ aui H;have H:=H.perm (wT [_,_,_] ((Lo++Lr)++[_]) _).symm;dsimp only [lca,bD] at H;refine aF ⟨O,q71,⟨fun _=>h8_,by rw [ahL];rfl⟩,?_⟩;exact EO Z lg O HT Hb hG (fun j e h1 h2 h3=>hv j e h2 h3) aui ((by rw [ahL];exact axd)) H
       ·exact zO
       ·exact zO
       exact Mx
      clear H;intro iW bC a w G hS_ J6 E8 H hv;have XH:=J6.2;rw [hS_ 11 Q1 O] at XH;dsimp only [cond_true] at XH;subst XH;have H:=H.aQ (hv 1 61 O O) O;have H:=H.aQ (hv 2 62 O O) O;obtain ⟨u71,awX,XZ⟩:=hv 11 71 Q1 O;(try dsimp only at XZ);obtain ⟨LP,n71,MG,rfl⟩:=XZ.form;have H:=H.fV awX;clear hv;refine kH H (Ri kQ iN O O (Rf DK O ?_));clear H;intro a H;refine zy fC (4+(Lo++Lr).length) (c:=cur) (vs:=[.slice LP n71 MG]) (cur.set (i*7+6) (.slice LP n71 MG)) H wn O (ail [_,_,_,_] (Lo++Lr) _) O O O O (by simp;omega) (by rw [fO];rfl) ?_;clear H;intro w H;have H:=H.cast (akD [_,_,_,_] (Lo++Lr) _ _);have hrwn:=hset (i*7+6) (.slice LP n71 MG);have Xz:=(Xx.mono E8).aBj hi3 XZ;refine aF ⟨O,?_⟩;refine kD _ _ ?_;clear kD;refine kP H (SC (Rd O (Rm O ?_)));clear H;intro a H;refine aF ?_;refine dS ((i+1,(iM id new (qM id q3 ds[i].id) (qx id new q3 ds[i].id ds[i].flow)).2,ds.set i (.mk ds[i].id ds[i].head (iM id new (qM id q3 ds[i].id) (qx id new q3 ds[i].id ds[i].flow)).1),zs.set (i*7+6) (.slice LP n71 MG),[(bc,.cells (cur.set (i*7+6) (.slice LP n71 MG)).toArray 134 (0,0))],_)) (by exact (H.dV (Pl:=[_,_,_,_]) (dL:=[_,_,_]) [1,2,3] Q1 O).sub ⟨O,O,O,O,O,O,O,O,O,O,O,O,O,O,O,aB⟩) ?_
      (try dsimp only);exact ⟨V,hrwn,Xz,by rw [jk hi2,aAr hi3 hsc,<- hdi,aAt],by rw [List.length_set];exact hdl,by rw [List.drop_set_of_lt V,<- List.tail_drop,hdr,List.tail_drop],fun b o h=>E8 b o (yX b o h)⟩
     intro W9 a H
     try have p56:=dF W9
     obtain rfl:i=l[k].rows[j].cells.length:=by omega
     refine dX ?_;refine fI _ _ ?_;clear fI;have H:=H.un (A:=[_,_,_]);obtain ⟨Gc,hmc,awp,H⟩:=St.qF (Li:=[_,_,_]++(Lo++Lr)) H hrw3 (rows:=ds.map aN.dat) (by rw [bR];exact hdl) Xx;have hgc:∀ b o,g2 b=some o->Gc b=some o:=fun b o h=>hmc b o (yX b o (ahe b o h));have ahD:aX Gc (aM.dat (.mk l[k].rows[j].head ds)) [.slice qA qn qc,vi l[k].rows[j].head.marks.ins,vi l[k].rows[j].head.marks.move,.slice sA sn sc,.slice tA tn tc,.slice OV l[k].rows[j].cells.length GQ]:=aX.RZ (x:=.mk l[k].rows[j].head ds) (XF.mono hgc) awp;dsimp only [lca,bD] at H;refine kP H (SC (Rm O ?_));clear H;intro a H;refine bq ig (cs:=[_,_,_,_,_,_]) H wn O O (H.hp.dD 0 O O) O ?_;clear H;intro a H;refine iG jS ig [_,_,_,_,_,_] [_,_,_,_,_,_] H wn O O O O O (by intro i q h;match i,h with|0,h=>exact h|n+1,h=>simp at h) O O ?_;clear H;intro b77 a w aDx H;have H:=H.un (A:=[_,_,_,_]);refine mh (Li:=[_,_,_,_]++Lo) (Lo:=Lr) (news:=[.slice qA qn qc,vi l[k].rows[j].head.marks.ins,vi l[k].rows[j].head.marks.move,.slice sA sn sc,.slice tA tn tc,.slice OV l[k].rows[j].cells.length GQ]) jS ig O O H wn O O hrw2 O (by exact H.hp.dD 0 O O) ahD.one V V O ?_;clear H;intro v78 amu a w awC H;have H:=H.assoc;dsimp only [lca,bD] at H;refine kH H (aZ dQ O (SC (Rd O (Rm O ?_))));clear H dQ;intro a H;refine aF ?_;refine dS ((j+1,q3,v78,rs++[.mk l[k].rows[j].head ds],ys++[.slice qA qn qc,vi l[k].rows[j].head.marks.ins,vi l[k].rows[j].head.marks.move,.slice sA sn sc,.slice tA tn tc,.slice OV l[k].rows[j].cells.length GQ],amu,Gc)) (by exact (H.dV (Pl:=[_,_,_,_]) (dL:=[_,_]) [2,3] Q1 O).sub ⟨O,O,O,O,O,O,O,O,O,O,O,aB⟩) ?_
     (try dsimp only);exact ⟨V,by rw [iK];exact awC,by rw [jM];exact ((Ki.mono hgc).snoc ahD O),(by have h9:=aAx (id:=id) (new:=new) (q:=q2) (x:=l[k].rows[j]) (m:=ds) (q':=q3) (by rw [lU (fD _),lU V] at hsc;exact hsc);rw [jk hj2,akg _ hsr,h9]),fun b o h=>hgc b o (mM b o h)⟩
    intro h45 a H
    try have p45:=dF h45
    obtain rfl:j=l[k].rows.length:=by omega
    refine dX ?_;refine bU _ _ ?_;clear bU;have H:=H.un (A:=[_,_]);obtain ⟨Gr,hmr,hrr,H⟩:=St.qF (Li:=[_,_]++Lo) H hrw2 (rows:=rs.map aM.dat) (by simp) Ki;have hgr:∀ b o,g b=some o->Gr b=some o:=fun b o h=>hmr b o (mM b o h);obtain ⟨rB,SG,rd,rfl⟩:=hrr.form;have hn2:=hrr.len;rw [bR] at hn2;subst hn2;dsimp only [lca,bD] at H;refine kP H (SC (Rm O (Rf pR O ?_)));clear H;intro a H;refine bM oq 0 (vs:=[_]) H wn O ?_;clear H;intro w H;refine aF ?_;refine ⟨(q2,.mk l[k].kind l[k].code l[k].id l[k].text l[k].head l[k].flow rs,[vi l[k].kind,vi l[k].code,vi l[k].id,.string l[k].text,.slice pA pn pc,vi l[k].head.marks.ins,vi l[k].head.marks.move,.slice dA dn dc,.slice yA yn yc,.slice fA fn fc,.slice rB rs.length rd],Gr),by exact H.sub ⟨O,O,O,O,O,O,O,aB⟩,?_⟩;(try dsimp only);exact ⟨aAy p35 (by rw [vg] at hsr;exact hsr),aX.mkItem (x:=.mk l[k].kind l[k].code l[k].id l[k].text l[k].head l[k].flow rs) (hhd.mono hgr) (hfl.mono hgr) hrr,hgr⟩
   intro iV a H
   try have p35:=dF iV
   refine gT ?_;refine ⟨(q,l[k],[vi l[k].kind,vi l[k].code,vi l[k].id,.string l[k].text,.slice pA pn pc,vi l[k].head.marks.ins,vi l[k].head.marks.move,.slice dA dn dc,.slice yA yn yc,.slice fA fn fc,.slice rA rn rc],g),by exact H.sub ⟨O,O,O,O,O,O,O,aB⟩,?_⟩;(try dsimp only);exact ⟨aAu (by first|assumption|(simp_all;done)|omega) (by first|assumption|(simp_all;done)|omega),aX.mkItem hhd hfl hrs,fun _ _ h=>h⟩
  clear H;rintro ⟨q9,y,cs9,g9⟩ a w hI H;dsimp only at hI H;obtain ⟨hyb,NT,Cr⟩:=hI;obtain ⟨e1,e2,e3,e4,e5,e6,e7,e8,e9,f1,f2,f3,f4,f5,f6,Q0,-,-,-⟩:=NT.item;rw [Q0] at H;dsimp only [lca,bD] at H;refine kP H (SC (Rm O ?_));clear H;intro a H;refine bq cO (cs:=[_,_,_,_,_,_,_,_,_,_,_]) H wn O O (H.hp.dD 0 O O) O ?_;clear H;intro a H;refine iG eH cO [_,_,_,_,_,_,_,_,_,_,_] [_,_,_,_,_,_,_,_,_,_,_] H wn O O O O O (by intro i q h;match i,h with|0,h=>exact h|n+1,h=>simp at h) O O ?_;clear H;intro b84 a w aDy H;refine mh (Li:=[_,_,_]) (Lo:=Lo) (news:=cs9) eH cO O O H wn O O hrw (by rw [Q0];rfl) (by rw [Q0];exact H.hp.dD 0 O O) NT.one V V O ?_;clear H;intro v85 amo a w awD H;refine kH H (aZ K7 O (SC (Rd O (Rm O ?_))));clear H K7;intro a H;refine aF ?_;refine dS ((k+1,q9,v85,m++[y],xs++cs9,amo,g9)) (by exact (H.dV (Pl:=[_,_,_]) (dL:=[_]) [2] Q1 O).sub ⟨O,O,O,O,O,O,aB⟩) ?_
  (try dsimp only);exact ⟨V,by rw [iK];exact awD,by rw [jM];exact ((fZ.mono Cr).snoc NT (by rw [Q0];rfl)),by rw [jk hk2];rw [akb _ hsb,hyb],fun b o h=>Cr b o (hgm b o h)⟩
 intro h18 a H
 try have qw:=dF h18
 obtain rfl:k=l.length:=by omega
 rw [vg] at hsb;refine dX ?_;refine K3 _ _ ?_;clear K3;refine kP H (SR fun _ kR=>Rm O (au kR O ?_));clear H kR;intro a H;refine gu ?_;obtain ⟨G',hm,hrep,H⟩:=H.qF (Li:=[_]) hrw (rows:=m.map ak.dat) (by simp) fZ;refine lv H results78 O ?_;exact H.hp.gI ⟨m,_,hsb,O,hrep⟩
theorem ajO {id:Int} {new:List ak} {b4 bd b5:Nat}:∀ n:Nat,Uo id new b4 bd b5 n
 | 0=>fun _ _ _ _ _ _ _ _ h=>absurd h V
 | n+1=>azT (ajO n)
set_option maxHeartbeats 4000000 in
theorem aBk (G:GH) (w0:World) (hG:Hold G w0) (D:jd) (d:jD) (hR:mU G D d) (hz:sP d) (hc:jo d=0) (g:gF) (hg:g∈mI d.flow) (new:List ak) (v:ah) (hv:av G (.sl 11 (new.map ak.dat)) v) (hzn:aP new<=1073741824) (hok2:jo (qR d (nQ g.id new d.flow))=0) (hz2:sP (qR d (nQ g.id new d.flow))) :
  Calls prog 25 #[D.val,vi g.id,v] w0 (bG w0 G fun u G'=>∃ E:jd,u=.tuple #[E.val,.bool true]∧mU G' E (nD (qR d (nQ g.id new d.flow)))):=by
 obtain ⟨vA,vn,vc,rfl⟩:=hv.form;obtain ⟨df,dp,dd,dy,dr,d1,d2,d3,d4,ins,mv⟩:=D;have hmem:g.id∈(mI d.flow).map gF.id:=List.mem_map_of_mem hg;have Ei:=hz.fl;obtain ⟨i,hi⟩:∃ i,i=g.id:=⟨_,O⟩;rw [<- hi] at hmem hok2 hz2 |-;obtain ⟨n1,n2,n3,n4⟩:=ayt hz2 hok2;refine eN [(0,_),(1,_),(2,_)] func25 O ntmps25 O O hG ?_;intro a H;refine dH (fun _ K1=>?_);refine eB (cs:=[_,_,_,_,_,_,_,_,_,_,_]) H wn O O O ?_;clear H;intro b3 a w hb3 H;refine eB (cs:=[_]) H wn O O O ?_;clear H;intro b4 a w hb4 H;refine eB (cs:=[_]) H wn O O O ?_;clear H;intro b5 a w hb5 H;refine dR jH H wn O ?_;clear H;intro b6 a w hb6 H;refine kH H (au K1 O (SQ fun _ K2=>SQ fun _ K3=>?_));clear H K1;intro a H;have H:=H.dV (Pl:=[_,_,_,_]) (dL:=[_,_,_,_]) [1,2,0,3] Q1 O;obtain ⟨Ga,hma,zV,H⟩:=H.fJ;obtain ⟨Gb,hmb,yV,H⟩:=H.fJ;have q5:aI Gb b5 0=some (.slice vA vn vc):=aK hmb (tC zV 0 [.slice vA vn vc] O 0 _ O);have q4:aI Gb b4 0=some (vi i):=tC yV 0 [vi i] O 0 _ O;replace hR:=(hR.mono hma).mono hmb;replace hv:=(hv.mono hma).mono hmb
 have gK:wu (fun (dK:Nat) (v:ah) (G:GH)=>match dK with|0=>v=.agg #[bX df,bX dp,vi ins,vi mv,bX dd,bX dy,bX dr,bX d1,bX d2,bX d3,bX d4]|1=>av G (.sl 1 (((mI d.flow).map gF.id).map fun k=>[li k])) v|2=>v=vi i|3=>v=.bool true|4=>v=.bool false|_=>True):=by intro dK v G G' hm h;(iterate 5 (rcases dK with _|dK;(first|exact h|exact av.mono hm h)));exact trivial
 refine xC (hmx) [[],[0],[],[0,1,2],ra 0 4] [] Z Z _ gK H ?_ ?_
 ·clear H;refine aC ?_ ?_ ?_ ?_ (bK ?_ dG)
  ·refine dB [] O trivial Z gK O O ?_;intro bC a w G1 hG HT H fin;refine bq jH (cs:=[_,_,_,_,_,_,_,_,_,_,_]) H wn O O (H.hp.dD 1 O O) O ?_;exact iX
  ·refine dB [(0,10,_)] O ⟨fun _ _ h=>h,aB⟩ Z gK O O ?_;intro bC a w G1 hG HT H fin;refine s_call arN H wn O (apB _ _ H.ro ⟨df,dp,dd,dy,dr,d1,d2,d3,d4,ins,mv⟩ d.flow (hR.mono hG).fl V) O ?_;clear H;rintro v11 Dl a w oG lH H;rw [show ((mI d.flow).map fun f:gF=>[li f.id])=((mI d.flow).map gF.id).map fun k=>[li k] by rw [List.map_map];rfl] at oG;exact fin H lH (oG)
  ·refine dB [] O trivial Z gK O O ?_;intro bC a w G1 hG HT H fin;exact kH H (Rg aD O (aK hG q4) fun _ H=>fin H iJ O)
  ·intro bC a w G1 _ aV hc hG HT hv;have H:=HT;clear aV;obtain ⟨OD,Bw,oG⟩:=hv 1 11 (hc 1 Q1) O;(try dsimp only at oG);obtain ⟨A11,n11,c11,rfl⟩:=oG.form;have H:=H.fV Bw;have H:=H.aQ (hv 2 12 (hc 2 Q1) O) O;have Hb:=H.full;have H:=Hb;clear hc;refine s_call afm H wn O (aeg _ _ H.ro _ i _ oG) O ?_;clear H;rintro v13 LU a w rfl Co H;rw [lT hmem] at H;refine aF ⟨O,?_⟩;exact pQ Z gK O O HT Hb hG hv Co (rfl) H
  refine dB [(3,13,_)] O ⟨fun _ _ h=>h,aB⟩ Z gK O O ?_;intro bC a w G1 hG HT H fin;exact kH H (Rn O fun _ H=>fin H iJ O)
 clear H;intro a w G jA H hv;have H:=H.aQ (hv 4 14 O O) O;clear hv;refine aF ⟨O,?_⟩;refine K3 _ _ ?_;clear K3;refine oQ H O O ?_;refine kP H (Kc K2 (SQ fun _ K4=>SR fun _ K5=>Rg aD O (aK jA q4) (Rc O (Kz K5 (Cd O ?_ ?_))))) <;> clear H K2 K5
 ·intro cK a H
  try have kI:=dT cK
  have e17:nQ i new d.flow=new:=aH kI;rw [e17] at hok2 hz2 n1 n2 n3 n4 |-;have hR2:mU G ⟨(vA,vn,vc),dp,dd,dy,dr,d1,d2,d3,d4,ins,mv⟩ (qR d new):=⟨hv.mono jA,(hR.mono jA).hd,hR.ins,hR.mv,(hR.mono jA).rv,(hR.mono jA).st⟩;refine kP H (SR fun _ K6=>Rg fC O (aK jA q5) (Rf wJ O ?_));clear H;intro a H;refine bM fC 1 (vs:=[_]) H wn O ?_;clear H;intro w H;refine K6 _ _ ?_;clear K6;refine dH (fun _ K7=>?_);refine bq jH (cs:=(⟨(vA,vn,vc),dp,dd,dy,dr,d1,d2,d3,d4,ins,mv⟩:jd).cells) H wn O O (H.hp.dD 1 O O) O ?_;clear H;intro a H;refine s_call afg H wn O (aeu _ _ H.ro ⟨(vA,vn,vc),dp,dd,dy,dr,d1,d2,d3,d4,ins,mv⟩ _ hR2 hz2 n1 n2 n3 n4) O ?_;clear H;rintro v21 O5 a w ⟨E,rfl,hE⟩ zY H;refine zy jH 0 (vs:=E.cells) _ H wn O O O O O O O O ?_;clear H;intro w H;dsimp only [List.set,setRow] at H;refine kH H (au K7 O ?_);clear H K7;intro a H;refine gu ?_;refine (jQ H results25 (.cons (vX jH (cs:=[_,_,_,_,_,_,_,_,_,_,_]) H O O (H.hp.dD 0 O O)) (.cons (fE H O) .nil)) ?_).1;exact H.rt ⟨E,O,hE⟩
 intro cK a H
 try have kI:=dF cK
 refine kP H (Kc K4 (SR fun _ K8=>au K8 O (SR fun _ K9=>?_)));clear H K4 K8;intro a H;refine dR uS H wn O ?_;clear H;intro b9 a w uG H;refine bM uS 0 (vs:=[_]) H wn O ?_;clear H;intro w H;refine K9 _ _ ?_;clear K9;refine kP H (SR fun _ aT=>aU wJ fC 2 O O (Rm O ?_));clear H;intro a H;refine wV H wn O O ?_;clear H;intro a H;refine gD Ww (Li:=[_,_]) (L:=[vk _ _]) (H.perm (wT [] [_,_] _)) wn O (ajO _ _ _ d.flow _ false (Hp.owns (Li:=[_,_]) (H.perm (wT [] [_,_] _)).hp) ⟨aK jA q4,⟨_,_,_,aK jA q5,hv.mono jA⟩,hzn⟩ (hR.mono jA).fl (Nat.lt_succ_self _) Ei) O ?_;clear H;rintro v26 G26 L26 a w ⟨m26,q26,awH,rfl,ahP⟩ Fg H
 obtain rfl:nQ i new d.flow=m26:=by rw [nQ,ay kI,awH]
 have H:=H.perm (wT [] [_,_] _).symm;obtain ⟨TQ,n26,VJ,rfl⟩:=ahP.form;dsimp only [lca,bD] at H;have hR2:mU G26 ⟨(TQ,n26,VJ),dp,dd,dy,dr,d1,d2,d3,d4,ins,mv⟩ (qR d (nQ i new d.flow)):=⟨ahP,((hR.mono jA).mono Fg).hd,hR.ins,hR.mv,((hR.mono jA).mono Fg).rv,((hR.mono jA).mono Fg).st⟩;refine kH H (Rf wJ O ?_);clear H;intro a H;refine bM fC 2 (vs:=[_]) H wn O ?_;clear H;intro w H;refine aT _ _ ?_;clear aT;refine dH (fun _ bJ=>?_);refine bq jH (cs:=(⟨(TQ,n26,VJ),dp,dd,dy,dr,d1,d2,d3,d4,ins,mv⟩:jd).cells) H wn O O (H.hp.dD 2 O O) O ?_;clear H;intro a H;refine s_call afg H wn O (aeu _ _ H.ro ⟨(TQ,n26,VJ),dp,dd,dy,dr,d1,d2,d3,d4,ins,mv⟩ _ hR2 hz2 n1 n2 n3 n4) O ?_;clear H;rintro v29 I9 a w ⟨E,rfl,hE⟩ Ny H;refine zy jH 1 (vs:=E.cells) _ H wn O O O O O O O O ?_;clear H;intro w H;dsimp only [List.set,setRow] at H;refine kH H (au bJ O ?_);clear H bJ;intro a H;refine gu ?_;refine (jQ H results25 (.cons (vX jH (cs:=[_,_,_,_,_,_,_,_,_,_,_]) H O O (H.hp.dD 1 O O)) (.cons (fE H O) .nil)) ?_).1;exact H.rt ⟨E,O,hE⟩
theorem aBl (G:GH) (w0:World) (hG:Hold G w0) (D:jd) (d:jD) (hR:mU G D d) (hz:sP d) (hc:jo d=0) (g:gF) (hg:g∈mI d.flow) (i:Int) (hi:i=g.id) (new:List ak) (v:ah) (hv:av G (.sl 11 (new.map ak.dat)) v) (hzn:aP new<=1073741824) (hok2:jo (qR d (nQ g.id new d.flow))=0) (hz2:sP (qR d (nQ g.id new d.flow))) :
  Calls prog 25 #[D.val,vi i,v] w0 (bG w0 G fun u G'=>∃ E:jd,u=.tuple #[E.val,.bool true]∧mU G' E (nD (qR d (nQ g.id new d.flow)))):=by
 subst hi;exact aBk G w0 hG D d hR hz hc g hg new v hv hzn hok2 hz2
theorem YU:∀ a b:List ak,sJ (a++b)=sJ a+sJ b
 | [],b=>by rw [gJ,sJ,fO]
 | x :: a,b=>by rw [iT,sJ,sJ,YU a b,Nat.add_assoc]
theorem YT {x:ak} (h:iU x=0) (hk:x.kind=1):n1 x=ru x.text:=by
 have hv:=(J2 h hk).2.2.1
 unfold n1 sN eG
 rw [aH hk,aH hk,FT,aH hv,aH O]
theorem Ux {g:Int} {t:Nat} {x:ak} (h:x.kind=1):qC g t x=[]:=by rw [Gn,cu,cu,cu];rfl
theorem ayp {z y:ak} (hz:iU z=0) (hy:iU y=0) (hj:xR z y):n1 (qo z y)=n1 z+n1 y:=by
 rw [YT hz hj.2.1,YT hy hj.1,YT (agn hz hy hj.2.1 hj.1) hj.2.1];exact aed (J2 hz hj.2.1).2.2.1 (J2 hy hj.1).2.2.1
theorem UF {C:bN} {body note:Bool} {tt:Int} {A:List ak} (h:iQ C body note tt A) (g:Int) (t:Nat):dx g t (A.foldl addN [])=dx g t A:=by
 have h1:=fold_add (γ:=(Nat->List cZ) × Nat) (F:=fun l=>(fun t=>dx g t l,sJ l)) (op:=fun a b=>(fun t=>a.1 t++b.1 (t+a.2),a.2+b.2)) (Q:=lY C body note tt)
  (fun a b=>Prod.ext (funext fun t=>Dp g t a b) (YU a b)) Sl Y3
  (fun o z y hz hy hj=>by
   rw [KS] at hz hy;have e:=ayp hz.1 hy.1 hj;refine Prod.ext (funext fun t=>?_) ?_
   ·dsimp only;rw [Dp,Dp,dx,dx,dx,dx,dx,Ux (show (qo z y).kind=1 from hj.2.1),Ux hj.2.1,Ux hj.1]
    simp [dx]
   dsimp only
   simp only [YU,sJ,e];omega) A [] (zo.1 h) (fun _ h=>(by cases h))
 exact congrFun (dh Prod.fst h1) t
mutual
theorem amU (C:bN) (body note:Bool) (tt:Int) (g:Int) (t:Nat):∀ x:ak,lY C body note tt x->qC g t (nI x)=qC g t x
 | .mk k c i tx h f r,hx=>by
  have hf:=Pz C false true tt i 0 f;have hr:=aaP C note (tt+1) r;have ho:=CJ C false true tt f;rw [lY] at hx;rw [nI,qC,qC]
  congr 1
  congr 1
  ·split
   ·rename_i h6;rw [UF (ho (hx.2.2.2.1 h6)),hf (hx.2.2.2.1 h6)]
   rfl
  split
  ·rename_i h7;rw [hr (hx.2.2.2.2 h7).2]
  rfl
theorem amV (C:bN) (note:Bool) (tt:Int):∀ x:aM,qJ C note tt x->uY (nR x)=uY x
 | .mk h cs,hx=>by
  have hc:=aaO C note tt cs;rw [qJ] at hx;rw [nR,uY,uY,hc hx.2]
theorem amT (C:bN) (note:Bool) (tt:Int):∀ x:aN,qI C note tt x->uX (nC x)=uX x
 | .mk i h f,hx=>by
  have hf:=Pz C false note tt i 0 f;have ho:=CJ C false note tt f;rw [qI] at hx;rw [nC,uX,uX,UF (ho hx.2),hf hx.2]
theorem Pz (C:bN) (body note:Bool) (tt:Int) (g:Int) (t:Nat):∀ l:List ak,iQ C body note tt l->dx g t (pX l)=dx g t l
 | [],_=>by rw [pX]
 | x :: l,h=>by
  rw [iQ] at h;rw [pX,dx,dx,amU C body note tt g t x h.1,Pz C body note tt g (t+n1 (nI x)) l h.2]
  have:n1 (nI x)=n1 x:=by rw [YX];rfl
  rw [this]
theorem aaP (C:bN) (note:Bool) (tt:Int):∀ l:List aM,oh C note tt l->jC (tN l)=jC l
 | [],_=>by rw [tN]
 | x :: l,h=>by rw [oh] at h;rw [tN,jC,jC,amV C note tt x h.1,aaP C note tt l h.2]
theorem aaO (C:bN) (note:Bool) (tt:Int):∀ l:List aN,oH C note tt l->kE (tL l)=kE l
 | [],_=>by rw [tL]
 | x :: l,h=>by rw [oH] at h;rw [tL,kE,kE,amT C note tt x h.1,aaO C note tt l h.2]
end
theorem aaQ {C:bN} {body note:Bool} {tt:Int} {l:List ak} (h:iQ C body note tt l) (g:Int) (t:Nat):dx g t (iy l)=dx g t l:=by
 rw [Sg,UF (CJ C body note tt l h),Pz C body note tt g t l h]
theorem ayq {p q:List ak} (h:fq (p++q)):sJ p=fU p:=by
 induction p with
 | nil=>rfl
 | cons x p ih =>
  obtain ⟨hx,h2⟩:=fq.head (l:=p++q) h;rw [sJ,fU,hx.n1,ih h2]
theorem aaN (g:Int):∀ (t t':Nat) (l:List ak),(dx g t l).length=(dx g t' l).length
 | t,t',[]=>by rw [dx,dx]
 | t,t',x :: l=>by
  rw [dx,dx,iK,iK,aaN g (t+n1 x) (t'+n1 x) l]
  have h:(qC g t x).length=(qC g t' x).length:=by
   rw [Gn,Gn]
   simp only [iK]
   congr 1
   split <;> rfl
  rw [h]
theorem akP {α:Type} {a:α}:∀ {P P' Q Q':List α},P++a :: Q=P'++a :: Q'->(P++a :: Q).Nodup->P=P'∧Q=Q'
 | [],[],Q,Q',h,_=>by simpa using h
 | [],y :: P',Q,Q',h,hn=>by
  rw [h] at hn
  simp only [gJ,iT,List.cons.injEq] at h
  rw [<- h.1] at hn
  simp at hn
 | y :: P,[],Q,Q',h,hn=>by
  simp only [gJ,iT,List.cons.injEq] at h
  rw [h.1] at hn
  simp at hn
 | y :: P,y' :: P',Q,Q',h,hn=>by
  simp only [iT,List.cons.injEq] at h
  simp only [iT,List.nodup_cons] at hn
  obtain ⟨h1,h2⟩:=akP h.2 hn.2;exact ⟨by rw [h.1,h1],h2⟩
theorem amZ {l:List ak} (h:yx l):(dx 0 0 l).Nodup:=by
 have h1:=(PI 0 0 l h.ok).nodup h.vnd
 unfold List.Nodup at h1
 rw [List.pairwise_map] at h1;exact h1.imp fun hne e=>hne (by rw [e])
theorem atz {x:ak} (h:iU x=0) (hk:x.kind=8):1<=x.code∧x.code<=4:=by
 unfold iU at h
 split at h
 ·cases h
 rename_i h1
 simp only [codeOk,hk,Bool.or_eq_true,not_or,Bool.not_eq_true',Bool.not_eq_false] at h1
 simpa using h1.2
structure amC (e:jD) (a:cZ) (P Q:List cZ) (p:List ak) (x:ak) (q:List ak) (g:gF):Prop where
 mem:g∈mI e.flow
 id:g.id=a.flow
 its:g.items=p++([x]++q)
 ok:fq (p++([x]++q))
 code:1<=a.code
 lo:a.at_=(fU p:Int)
 hi:a.at_+1=(fU (p++[x]):Int)
 zn:aP (iy (p++q))<=1073741824
 chk:jo (qR e (nQ g.id (iy (p++q)) e.flow))=0
 z:sP (qR e (nQ g.id (iy (p++q)) e.flow))
 anc:∃ Q',dx 0 0 (nD (qR e (nQ g.id (iy (p++q)) e.flow))).flow=P++Q'∧Q'.length=Q.length
theorem aAk {e:jD} (hc:jo e=0) (hz:sP e) {a:cZ} {P Q:List cZ} (hA:dx 0 0 e.flow=P++a :: Q):∃ p x q g,amC e a P Q p x q g:=by
 have hok:=Sk hc;obtain ⟨L,hL,ahs,p,x,q,rfl,h1,h2,h3,h4,h5⟩:=amY hok (a:=a) (by rw [hA];simp);obtain ⟨g,hg,hgi⟩:=nG.1 hL;have hgm:=List.mem_of_find?_eq_some hg;have agS:g.id=a.flow:=pK (List.find?_some (p:=fun f:gF=>decide (f.id=a.flow)) hg)
 have hx1:eG x=1:=by unfold eG;rw [cu]
 obtain ⟨c,w1,w2,w3⟩:=aBD hok hgm (iy (p++q));rw [hgi] at w2;obtain ⟨⟨c1,c2⟩,⟨c3,c4⟩,c5,c6,c7⟩:=(GR e).1 hc;rw [w2] at c5 c6 c7;obtain ⟨b,n,tt,k1,k2⟩:=ajF e.lW c true false 0 _ c5
 have k3:iQ e.lW b n tt (p++q):=zo.2 fun y hy=>zo.1 k1 y (by simp at hy |-;rcases hy with h|h <;> simp [h])
 have k4:=k2 _ (Y7 k3)
 have hIx:pW x=[]:=by rw [axi,cu,cu,cu];rfl
 have avB:gZ (iy (p++q))=gZ (p++x :: q):=by rw [(Yn k3).1,Fy,Fy,gZ,hIx,gJ]
 have hun:jv (iy (p++q))<=jv (p++x :: q):=by rw [(Yn k3).2,FP,FP,jv];omega
 have hzz:aP (iy (p++q))<=aP (p++x :: q):=Nat.le_trans (aai _) (by rw [Aw,Aw,aah];omega);obtain ⟨A,B,i1⟩:=ajD c;obtain ⟨nu,i2⟩:=ajH c;obtain ⟨nz,i3⟩:=ajG c;obtain ⟨X,Y,i4⟩:=ajC c 0;have hfz:=hz.fl;rw [w2,i3] at hfz
 have avc:jo (qR e (nQ g.id (iy (p++q)) e.flow))=0:=by
  rw [w3];refine (GR _).2 ⟨⟨c1,c2⟩,⟨c3,c4⟩,k4,?_,?_⟩
  ·show kC [] [] (gZ (lu c _))
   rw [i1,avB,<- i1];exact c6
  show jv (lu c _)<=16384
  rw [i2] at c7 |-;omega
 have hzd:sP (qR e (nQ g.id (iy (p++q)) e.flow)):=by
  refine ⟨?_,hz.hd,hz.rn,hz.rt,hz.sn,hz.st⟩;rw [w3]
  show aP (lu c _)<=_
  rw [i3];omega
 refine ⟨p,x,q,g,hgm,agS,hgi,ahs,h3 ▸ (atz ((KS _).1 (zo.1 k1 x (by simp))).1 h1).1,by rw [h5,fO],by rw [h5,Oz,fU,hx1,fU];omega,V,avc,hzd,?_⟩
 have hav:qC (hid 0 c) (0+sJ p) x=[a]:=by
  rw [Gn,aH h1,cu,cu,w1,agS,h2,h3,h4,ayq ahs,<- h5];rfl
 rw [w2,i4,Dp,dx,hav] at hA;have hnd:=amZ hok;rw [w2,i4,Dp,dx,hav] at hnd;have hs:=akP (P:=X++dx (hid 0 c) 0 p) (a:=a) (Q:=dx (hid 0 c) (0+sJ p+n1 x) q++Y) (P':=P) (Q':=Q) (by rw [<- hA];simp) (by simpa using hnd);refine ⟨dx (hid 0 c) (0+sJ p) q++Y,?_,?_⟩
 ·show dx 0 0 (iy (nQ g.id _ e.flow))=_
  rw [w3,aaQ k4,i4,aaQ k3,Dp,<- hs.1];simp
 rw [<- hs.2,iK,iK,aaN]
theorem rev_at {A:List cZ} {i:Nat} (hi:i < A.length) {f:cZ->Bool} (hf:f A[i]=true):(A.filter f).reverse[((A.drop (i+1)).filter f).length]?=some A[i]:=by
 have h:A=A.take i++A[i] :: A.drop (i+1):=by rw [List.getElem_cons_drop,List.take_append_drop]
 have h2:A.filter f=(A.take i).filter f++A[i] :: (A.drop (i+1)).filter f:=by
  conv=>lhs;rw [h]
  rw [List.filter_append,List.filter_cons,aH hf]
 rw [h2,List.reverse_append,List.reverse_cons,gY,qj (by simp),List.length_reverse,Nat.sub_self]
 rfl
section
def jN (xs:Array ah) (o:Nat × Nat):Option (Int × Int × List UInt8):=match o.2 with
 | 0=>(kY xs o.1).map fun n=>(n,0,[])
 | 1=>match xs[o.1]? with|some (.string s)=>some (0,0,s.toList)|_=>none
 | 2=>match kY xs o.1,kY xs (o.1+1) with|some a,some b=>some (a,b,[])|_,_=>none
 | 3=>match xs[o.1]? with|some (.bool b)=>some (if b=true then 1 else 0,0,[])|_=>none
 | _=>none
def aju (P:Program) (t:TypeId):Bool:=!P.stoodInHeld t && decide ((P.fieldsOf t).toList.map (·.offset)=[0,1]) && ((P.fieldsOf t).toList.all fun f=>decide (f.name ≠ "_") && P.plainKey f.type && Oa (P.underlying f.type)) && decide (P.cellsOf t=2) && (P.info? t).isSome
def Ae (P:Program) (t:TypeId):Nat:=match P.underlying t with|some (.int .i64)=>0|some .string=>1|some (.struct _)=>2|some .bool=>3|_=>4
def Y4 (P:Program) (t:TypeId):Bool:=match Ae P t with|0=>P.plainKey t|1=>P.plainKey t|2=>aju P t|3=>P.plainKey t|_=>false
structure OY (P:Program) (t:TypeId) (gL:List (Nat × Nat)):Prop where
 und:P.underlying t=some (.struct (P.fieldsOf t))
 held:P.stoodInHeld t=false
 guard:P.eqGuardType P.depth t=false
 xI:(P.fieldsOf t).toList.map (fun f=>(f.offset,Ae P f.type))=gL
 ok:(P.fieldsOf t).toList.all (fun f=>decide (f.name ≠ "_") && Y4 P f.type)=true
theorem aCk {P:Program} {t:TypeId} {fs:Array Field} (h:P.underlying t=some (.struct fs)):P.underlying t=some (.struct (P.fieldsOf t)):=by
 rw [h]
 simp [Program.fieldsOf,h]
theorem akl {P:Program} (w:World) {t:TypeId} {fs:Array Field} (hu:P.underlying t=some (.struct fs)) {i:TypeInfo} (hi:P.info? t=some i) (hc:P.cellsOf t=2) (xs:Array ah) (off:Nat):(part t xs off).run P w=.ok (.agg (xs.extract off (off+2))) w:=by
 unfold part
 simp [isAgg,dM,run_underlying hu,run_sizeOf w hi,hc]
theorem QK {xs:Array ah} {o:Nat} {n:Int} (h:kY xs o=some n):xs[o]?=some (.int .i64 n):=by
 unfold kY at h
 split at h
 ·rename_i hx;cases h;exact hx
 ·cases h
theorem agt {xs:Array ah} {off:Nat} {a b:Int} (h1:kY xs off=some a) (h2:kY xs (off+1)=some b):kY (xs.extract off (off+2)) 0=some a∧kY (xs.extract off (off+2)) 1=some b:=by
 have e1:=QK h1
 have e2:=QK h2
 have hl:off+1 < xs.size:=(Array.getElem?_eq_some_iff.1 e2).1
 constructor
 ·unfold kY
  rw [Array.getElem?_extract,aH V,wB,e1]
 ·unfold kY
  rw [Array.getElem?_extract,aH V,e2]
theorem Zp {P:Program} {w:World} {d:Nat} {xs ys:Array ah}:∀ fs:List Field,fs.all (fun f=>decide (f.name ≠ "_") && Y4 P f.type)=true ->
  (fs.map (fun f=>(f.offset,Ae P f.type))).all (fun o=>(jN xs o).isSome && (jN ys o).isSome)=true->(Op.eqFields (d+2) xs ys fs).run P w=.ok ((fs.map (fun f=>(f.offset,Ae P f.type))).all fun o=>jN xs o == jN ys o) w
 | [],_,_=>by simp [Op.eqFields]
 | f :: fs,h1,h2=>by
  simp only [List.all_cons,mG,sW,eP] at h1 h2
  obtain ⟨⟨hn,hk⟩,h1⟩:=h1
  obtain ⟨⟨hx,hy⟩,h2⟩:=h2
  have ih:=Zp (w:=w) (d:=d) fs (by simpa using h1) h2
  have fin:∀ (x y:ah) (r:Bool),(part f.type xs f.offset).run P w=.ok x w->(part f.type ys f.offset).run P w=.ok y w->(Op.equalIn (d+2) f.type x y).run P w=.ok r w->(jN xs (f.offset,Ae P f.type) == jN ys (f.offset,Ae P f.type))=r ->
    (Op.eqFields (d+2) xs ys (f :: fs)).run P w=.ok (((f :: fs).map (fun f=>(f.offset,Ae P f.type))).all fun o=>jN xs o == jN ys o) w:=by
   intro x y r p1 p2 p3 p4
   simp only [Op.eqFields,hn,ne_eq,not_false_eq_true,if_true,dM,p1,p2,kW,p3,eP,List.all_cons,p4]
   cases r with
   | true=>simp [ih,List.all_map]
   | false=>simp
  unfold Y4 at hk
  rcases hkd:Ae P f.type with _|_|_|_|n
  ·rw [hkd] at hk hx hy
   have hu:P.underlying f.type=some (.int .i64):=by unfold Ae at hkd;split at hkd <;> first|assumption|cases hkd
   obtain ⟨m,hm⟩:∃ m,kY xs f.offset=some m:=by cases h:kY xs f.offset with|some m=>exact ⟨m,O⟩|none=>simp [jN,h] at hx
   obtain ⟨m2,hm2⟩:∃ m,kY ys f.offset=some m:=by cases h:kY ys f.offset with|some m=>exact ⟨m,O⟩|none=>simp [jN,h] at hy
   refine fin _ _ _ (run_part_plain w hk (QK hm)) (run_part_plain w hk (QK hm2)) (run_equalIn_int w (d+1) f.type .i64 .i64 m m2 hu) ?_
   rw [hkd,zK]
   simp [jN,hm,hm2]
  ·rw [hkd] at hk hx hy
   have hu:P.underlying f.type=some .string:=by unfold Ae at hkd;split at hkd <;> first|assumption|cases hkd
   obtain ⟨m,hm⟩:∃ m,xs[f.offset]?=some (.string m):=by
    simp only [jN] at hx
    split at hx
    ·rename_i s hs;exact ⟨s,hs⟩
    ·cases hx
   obtain ⟨m2,hm2⟩:∃ m,ys[f.offset]?=some (.string m):=by
    simp only [jN] at hy
    split at hy
    ·rename_i s hs;exact ⟨s,hs⟩
    ·cases hy
   refine fin _ _ _ (run_part_plain w hk hm) (run_part_plain w hk hm2) (run_equalIn_string w (d+1) f.type m m2 hu) ?_
   rw [hkd,zK]
   simp [jN,hm,hm2]
  ·rw [hkd] at hk hx hy
   obtain ⟨gs,hu⟩:∃ gs,P.underlying f.type=some (.struct gs):=by
    unfold Ae at hkd
    split at hkd
    ·cases hkd
    ·cases hkd
    ·rename_i gs hg;exact ⟨gs,hg⟩
    ·cases hkd
    ·cases hkd
   simp only [aju,mG,Bool.not_eq_true',sW] at hk
   obtain ⟨⟨⟨⟨k1,k2⟩,k3⟩,k4⟩,k5⟩:=hk
   obtain ⟨inf,agX⟩:=Option.isSome_iff_exists.1 k5
   obtain ⟨a,b,ha,hb⟩:∃ a b,kY xs f.offset=some a∧kY xs (f.offset+1)=some b:=by
    simp only [jN] at hx
    split at hx
    ·rename_i a b h1 h2;exact ⟨a,b,h1,h2⟩
    ·cases hx
   obtain ⟨a',b',ha',hb'⟩:∃ a b,kY ys f.offset=some a∧kY ys (f.offset+1)=some b:=by
    simp only [jN] at hy
    split at hy
    ·rename_i a b h1 h2;exact ⟨a,b,h1,h2⟩
    ·cases hy
   obtain ⟨e1,e2⟩:=agt ha hb
   obtain ⟨e3,e4⟩:=agt ha' hb'
   have hq:=Zo (P:=P) (w:=w) (d:=d) (xs:=xs.extract f.offset (f.offset+2)) (ys:=ys.extract f.offset (f.offset+2)) _ (by simpa only [lS,mG,sW] using k3) (by rw [k2];simp [e1,e2,e3,e4])
   rw [k2] at hq
   refine fin _ _ _ (akl w hu agX k4 xs f.offset) (akl w hu agX k4 ys f.offset) ((run_equalIn_struct w (d+1) f.type _ _ (aCk hu) k1).trans hq) ?_
   rw [hkd,zK]
   simp [jN,ha,hb,ha',hb',e1,e2,e3,e4]
  ·rw [hkd] at hk hx hy
   have hu:P.underlying f.type=some .bool:=by unfold Ae at hkd;split at hkd <;> first|assumption|cases hkd
   obtain ⟨m,hm⟩:∃ m,xs[f.offset]?=some (.bool m):=by
    simp only [jN] at hx
    split at hx
    ·rename_i s hs;exact ⟨s,hs⟩
    ·cases hx
   obtain ⟨m2,hm2⟩:∃ m,ys[f.offset]?=some (.bool m):=by
    simp only [jN] at hy
    split at hy
    ·rename_i s hs;exact ⟨s,hs⟩
    ·cases hy
   refine fin _ _ _ (run_part_plain w hk hm) (run_part_plain w hk hm2) (run_equalIn_bool' w (d+1) f.type m m2 hu) ?_
   rw [hkd,zK]
   cases m <;> cases m2 <;> simp [jN,hm,hm2]
  ·rw [hkd] at hk;cases hk
section
variable {N:Nat} {D:List Deferred} {w0:World} {F:Nat->Prop} {G0 G:GH} {L:List (Nat × Obj)} {T:List (Nat × ah)}
variable {r:Option Nat} {P:Program} {ops:Array Oper} {Q:Exit->Act->World->Prop} {rest:List Oper} {a:Act} {w:World}
variable {d:Nat} {ty:TypeId} {pos:String} {aL:Array Edge} {g:Option (Nat × Bool)}
theorem aAW {t yt:TypeId} {gL:List (Nat × Nat)} (he:OY P t gL) {x y:Operand} {xs ys:Array ah} (H:St N D w0 F G0 G L T a w) (hw:Region.wanted ⟨some d,.binOp .eql t x y yt,ty,pos,aL,g⟩ (yielded ops a.tmps)=true) (hx:ev T x=some (.agg xs)) (hy:ev T y=some (.agg ys))
  (hi:gL.all (fun o=>(jN xs o).isSome && (jN ys o).isSome)=true) (hd:Nat.blt d N=true)
  (k:∀ a',St N D w0 F G0 G L ((d,.bool (gL.all fun o=>jN xs o == jN ys o)) :: T) a' w->WL r P ops Q rest a' w):WL r P ops Q (⟨some d,.binOp .eql t x y yt,ty,pos,aL,g⟩ :: rest) a w:=by
 have h1:=Zp (P:=P) (w:=w) (d:=9997) (xs:=xs) (ys:=ys) _ he.ok (by rw [he.xI];exact hi)
 rw [he.xI] at h1
 refine fQ (v:=.bool (gL.all fun o=>jN xs o == jN ys o)) (w':=w) hw O ?_ (k _ (H.put hd _ H.hp))
 simp only [execOp,H.ev hx,H.ev hy,dM,run_eqGuard_agg w .eql t x y xs ys he.guard,kW,run_eql_struct,run_equalIn_struct w 9999 t xs ys he.und he.held,h1]
 rfl
theorem aA1 {t yt:TypeId} {gL:List (Nat × Nat)} (he:OY P t gL) {x y:Operand} {xs ys:Array ah} (H:St N D w0 F G0 G L T a w) (hw:Region.wanted ⟨some d,.binOp .neq t x y yt,ty,pos,aL,g⟩ (yielded ops a.tmps)=true) (hx:ev T x=some (.agg xs)) (hy:ev T y=some (.agg ys))
  (hi:gL.all (fun o=>(jN xs o).isSome && (jN ys o).isSome)=true) (hd:Nat.blt d N=true)
  (k:∀ a',St N D w0 F G0 G L ((d,.bool (!(gL.all fun o=>jN xs o == jN ys o))) :: T) a' w->WL r P ops Q rest a' w):WL r P ops Q (⟨some d,.binOp .neq t x y yt,ty,pos,aL,g⟩ :: rest) a w:=by
 have h1:=Zp (P:=P) (w:=w) (d:=9997) (xs:=xs) (ys:=ys) _ he.ok (by rw [he.xI];exact hi)
 rw [he.xI] at h1
 refine fQ (v:=.bool (!(gL.all fun o=>jN xs o == jN ys o))) (w':=w) hw O ?_ (k _ (H.put hd _ H.hp))
 simp only [execOp,H.ev hx,H.ev hy,dM,run_eqGuard_agg w .neq t x y xs ys he.guard,kW,run_neq_struct,run_equalIn_struct w 9999 t xs ys he.und he.held,h1]
 rfl
end
end
theorem IU:prog.underlying 135=some (.slice 77):=by kernel_rfl
theorem tV:Ty prog 77 6 56 [.int .i64 0,.string ⟨#[]⟩,.int .i64 0,.int .i64 0,.int .i64 0,.int .i64 0] true:=⟨Z,Z⟩
theorem aqO:aW 209:=aY func209 O
theorem asX:dz prog 58 2 2:=⟨Z⟩
theorem ZM:qW prog 77 [(0,1),(1,1),(2,2),(4,2)] [.int .i64 0,.string ⟨#[]⟩,.int .i64 0,.int .i64 0,.int .i64 0,.int .i64 0]:=⟨Z,Z⟩
theorem QD:dz prog 77 2 2:=⟨Z⟩
theorem QE:dz prog 77 3 4:=⟨Z⟩
mutual
theorem amJ (g:Int) (t:Nat):∀ (x:ak) (a:cZ),a∈qC g t x->0<=a.at_∧a.at_<=(t+bY x.dat:Nat)
 | .mk k c i tx h fl r,a,ha=>by
  have h4:=pG (.mk k c i tx h fl r);dsimp only [ak.text,ak.head,ak.flow,ak.rows] at h4;rw [qC] at ha
  rcases iP.1 ha with ha|ha
  ·split at ha
   ·rw [qX.1 ha];dsimp only;omega
   cases ha
  rcases iP.1 ha with ha|ha
  ·split at ha
   ·have:=Mj i 0 fl a ha;omega
   cases ha
  split at ha
  ·have:=aaG r a ha;omega
  cases ha
theorem Mj (g:Int):∀ (t:Nat) (l:List ak) (a:cZ),a∈dx g t l->0<=a.at_∧a.at_<=(t+aP l:Nat)
 | _,[],a,ha=>by rw [dx] at ha;cases ha
 | t,x :: l,a,ha=>by
  have h1:=YS x;rw [dx] at ha
  have hz:bY x.dat+aP l<=aP (x :: l):=by simp only [aP,eP,eZ];omega
  rcases iP.1 ha with ha|ha
  ·have:=amJ g t x a ha;omega
  have:=Mj g (t+n1 x) l a ha;omega
theorem aaG:∀ (l:List aM) (a:cZ),a∈jC l->0<=a.at_∧a.at_<=(gq l:Nat)
 | [],a,ha=>by rw [jC] at ha;cases ha
 | x :: l,a,ha=>by
  rw [jC] at ha
  have hz:bY x.dat+gq l<=gq (x :: l):=by simp only [gq,eP,eZ];omega
  rcases iP.1 ha with ha|ha
  ·have:=amK x a ha;omega
  have:=aaG l a ha;omega
theorem amK:∀ (x:aM) (a:cZ),a∈uY x->0<=a.at_∧a.at_<=(bY x.dat:Nat)
 | .mk h cs,a,ha=>by
  have h4:=Av (.mk h cs);dsimp only [aM.head,aM.cells] at h4;rw [uY] at ha;have:=aaF cs a ha
  omega
theorem aaF:∀ (l:List aN) (a:cZ),a∈kE l->0<=a.at_∧a.at_<=(iA l:Nat)
 | [],a,ha=>by rw [kE] at ha;cases ha
 | x :: l,a,ha=>by
  rw [kE] at ha
  have hz:bY x.dat+iA l<=iA (x :: l):=by simp only [iA,eP,eZ];omega
  rcases iP.1 ha with ha|ha
  ·have:=amI x a ha;omega
  have:=aaF l a ha;omega
theorem amI:∀ (x:aN) (a:cZ),a∈uX x->0<=a.at_∧a.at_<=(bY x.dat:Nat)
 | .mk i h fl,a,ha=>by
  have h4:=Ar (.mk i h fl);dsimp only [aN.head,aN.flow] at h4;rw [uX] at ha;have:=Mj i 0 fl a ha
  omega
end
theorem asf:OY prog 58 [(0,0),(1,0),(2,1),(3,2)]:=⟨Z,Z,Z,Z,Z⟩
theorem adF {a b:ByteArray} (h:a.toList=b.toList):a=b:=by
 rw [ByteArray.toList_eq,ByteArray.toList_eq] at h
 cases a;cases b
 simpa using h
theorem anb (x y:cZ):([(0,0),(1,0),(2,1),(3,2)].all fun o=>jN (#[vi x.code,vi x.id,.string x.name,vi x.flow,vi x.at_]:Array ah) o == jN (#[vi y.code,vi y.id,.string y.name,vi y.flow,vi y.at_]:Array ah) o)=decide (x=y):=by
 rw [zK,decide_eq_true_iff,<- cZ.eq_iff]
 simp [jN,kY]
 intro _ _ _ _;exact ⟨adF,fun h=>by rw [h]⟩
theorem ane {acc:List ((Int × Int) × ah)} {A:List cZ} {c:Int} {x:cZ} (_h:yh acc A) (hc:¬ ¬ x.code=c) (hm:x∈A):(!decide ((rF A c x.id).getD FY=x))=!xQ A c x:=by
 have hc:=nV.1 hc
 have hs:(rF A c x.id).isSome=true:=by
  unfold rF
  rw [List.find?_isSome];exact ⟨x,hm,by simp [hc]⟩
 obtain ⟨y,hy⟩:=Option.isSome_iff_exists.1 hs
 unfold xQ
 rw [hy]
 simp [hc]
theorem Wx {A:List cZ} {c:Int} {x:cZ} (h:match rF A (c+1) x.id with|some e=>¬ (e.flow=x.flow∧x.at_ < e.at_)|none=>True):ER A c x=(x.flow,x.at_+1):=by
 unfold ER
 cases hf:rF A (c+1) x.id with
 | none=>rfl
 | some e=>rw [hf] at h;dsimp only;rw [ay h]
theorem ase {A:List cZ} {c:Int} {x e:cZ} (h:rF A (c+1) x.id=some e∧e.flow=x.flow∧x.at_ < e.at_):ER A c x=(e.flow,e.at_):=by
 unfold ER
 rw [h.1];dsimp only;rw [aH h.2]
def Ls (l:List mE):List ah:=(l.map mE.cells).flatten
theorem aBO (l:List mE) (x:mE):Ls (l++[x])=Ls l++x.cells:=by
 unfold Ls
 rw [jM,List.flatten_append]
 simp
theorem akL (G:GH):∀ l:List mE,bT G 6 (l.map mE.dat) (Ls l)
 | []=>bT.nil
 | x :: l=>by
  have h1:bT G 6 [x.dat] x.cells:=by
   have:=(bT.nil (G:=G) (sz:=6)).snoc (q:=x.dat) (cs:=x.cells) (akO G x) O
   simpa using this
  rw [eP,<- List.singleton_append];exact h1.append (akL G l)
def Aj (A:List cZ) (c:Int) (k:Nat):List mE:=((A.take k).filter (xQ A c)).map (Es A c)
theorem aBQ {A:List cZ} {c:Int} {k:Nat} (hk:k < A.length) (h:xQ A c A[k]=false):Aj A c (k+1)=Aj A c k:=by
 unfold Aj;rw [akM hk,ay (by rw [h];decide),jV]
theorem aBR {A:List cZ} {c:Int} {k:Nat} (hk:k < A.length) (h:xQ A c A[k]=true):Aj A c (k+1)=Aj A c k++[Es A c A[k]]:=by
 unfold Aj;rw [akM hk,aH h]
theorem aBP (A:List cZ) (c:Int) (k:Nat) (hk:k<=A.length):(Aj A c k).length<=k:=by
 unfold Aj
 rw [bR];exact Nat.le_trans (List.length_filter_le ..) (by rw [List.length_take];omega)
theorem aog {P:Program} {f:FuncId} {args:Array ah} {w0:World} {G:GH} {e sz n:Nat} {xs:List ah} {rows:List (List Dat)} (hG:Hold G w0) (h:Calls P f args w0 (fB w0 G [] fun u _ L'=>bV e sz u n xs L')) (hl:rows.length=n) (hc:∀ G',bT G' sz rows xs) :
  Calls P f args w0 (bG w0 G fun u G'=>av G' (.sl sz rows) u):=by
 intro cs;obtain ⟨e1,w',fr,⟨v,G',L',rfl,hch,hrow⟩,h2,h3,h4⟩:=h cs;have hp0:Hp w0 (fun k=>k < w0.heap.size) G G ([]++[]) w0:=⟨O,O,O,fD _,fun _ h=>h,fun _ _=>rfl,hG,fun _ _ h=>h,fun _ _ h=>.inl h,fun _ h=>(by cases h),fun _ h=>(by cases h),fun _ h=>(by cases h),List.Pairwise.nil⟩;have hp1:=hp0.change hch;rw [gJ] at hp1;refine ⟨_,w',fr,?_,h2,h3,h4⟩
 rcases hrow.2 with ⟨rfl,h5,rfl⟩|⟨b,cap,cur,rfl,rfl,h5,h6,h7,h8⟩
 ·exact abX
 exact (hp1.giveUp 0 O).ret (av.vU (GH.Gp G' b _) hl h5 h6 h8 (hc _))
theorem anM {p:Prop} (h:p:=by
 exact ⟨V,by rw [aBQ hk2 (by first|(simp [xQ,c0];done)|(simpa using oU))];exact hrw,fun b o h=>E9 b o (hgm b o h)⟩):p:=h
theorem UZ {p:Prop} (h:p:=by
 first|exact absurd f2 (of_decide_eq_false Nj)|exact absurd f1 (of_decide_eq_false qm)|(rw [hE2] at kL;cases kL)):p:=h
theorem acP {p:Prop} (h:p:=by
 refine dX ?_;refine K9 _ _ ?_;clear K9;refine kP H (SC (Rd O (Rm O ?_)));clear H;intro a H;refine aF ?_;refine dS ((k+1,_,Lo,_)) (by exact (H.dV (Pl:=[_]) (dL:=[]) [] Q1 O).sub ⟨O,O,O,O,O,O,aB⟩) ?_
 (try dsimp only);exact anM):p:=h
set_option maxHeartbeats 4000000 in
theorem aBS (G:GH) (w0:World) (hO:fM G [] w0) (D:jd) (l:List ak) (hv:av G (.sl 11 (l.map ak.dat)) (bX D.f)) (hok:fq l) (hz:aP l<=1073741824) (code:Int) (hc:0<=code∧code<=100) :
  Calls prog 150 #[D.val,vi code] w0 (fB w0 G [] fun u _ L'=>bV 77 6 u (Da (dx 0 0 l) code).length (Ls (Da (dx 0 0 l) code)) L'):=by
 have hn:=Ci 0 0 l;have Nl:=Mj 0 0 l;have hml:maxLen=9223372036854775807:=rfl;obtain ⟨A,hA⟩:∃ A,A=dx 0 0 l:=⟨_,O⟩;rw [<- hA] at hn Nl |-;refine iB (N:=96) (T:=[(0,_),(1,_)]) func150 O ntmps150 O O hO ?_;intro a H;refine dH (fun _ K1=>?_);refine eB (cs:=[_,_,_,_,_,_,_,_,_,_,_]) H wn O O O ?_;clear H;intro b2 a w hb2 H;refine kH H (au K1 O (SQ fun _ K2=>?_));clear H K1;intro a H;obtain ⟨Ga,hma,hb',H⟩:=H.fJ;have hga:=fun j v hj=>tC hb' 0 D.cells O j v hj;replace hv:=hv.mono hma;refine mX ?_;refine bq jH (cs:=D.cells) H wn O O (fun j v hj=>H.hp.aI (hga j v hj)) O ?_;clear H;intro a H;refine s_call afj H wn O (aiG _ _ H.ro D l hv hok V) O ?_;clear H;rintro v14 EA a w hr Kj H;rw [<- hA] at hr;obtain ⟨vA,n14,c14,rfl⟩:=hr.form;have ahl:=hr.len;rw [bR] at ahl;subst ahl;refine kH H (aZ K2 O (SR fun _ K3=>Rm O ?_));clear H K2;intro a H;refine s_call aqO H wn O (atp _ _ H.ro A _ hr V) O ?_;clear H;rintro v16 yj a w ⟨bm,acc,rfl,QY,hfm⟩ zX H;replace hr:=hr.mono zX;refine kH H (au K3 O (SR fun _ K4=>au K4 O (SQ fun _ K5=>SR fun _ K6=>Rm O (Rl tX O (Rm O (Kz K6 (SB ?_)))))));clear H K3 K4 K6;intro a H;skip;refine eO (ι:=Nat × ah × OL × GH) (Tc:=[(1,_),(6,_),(17,_),(18,_)]) (Lc:=[]) (fun gh=>[(7,gh.2.1),(19,vi gh.1)]) (fun gh=>[]++gh.2.2.1) (fun gh=>gh.2.2.2) (fun gh=>gh.1<=A.length∧bV 77 6 gh.2.1 (Aj A code gh.1).length (Ls (Aj A code gh.1)) gh.2.2.1∧(∀ b o,yj b=some o->gh.2.2.2 b=some o)) (fun gh=>A.length - gh.1) ((0,.slice none 0 0,[],yj)) (by exact H.sub ⟨O,O,O,O,O,O,aB⟩) ?_ ?_
 ·exact ⟨jL _,bV.nil,fun _ _ h=>h⟩
 clear H;rintro ⟨k,v7,Lo,g⟩ a w hI H;dsimp only at hI H;obtain ⟨hk,hrw,hgm⟩:=hI;have hsl:=aBP A code k hk;obtain ⟨v7A,v7c,rfl,-,-⟩:=hrw.shape;dsimp only [lca,bD] at H;refine kP H (SR fun _ K7=>Rc O (Kz K7 (SQ fun _ K8=>Cd O ?_ ?_))) <;> clear H K7
 ·intro h20 a H
  try have BJ:=dT h20
  have hk2:k < A.length:=by omega
  obtain ⟨b,o,rfl,hrow⟩:=PD (hr.mono hgm) hk2;obtain ⟨ha0,ha1⟩:=Nl A[k] (jl hk2);have hbg:=hgm _ _ QY;refine kP H (Kc K8 (SQ fun _ K9=>SB (SR fun _ aT=>Ri tX mP O O ?_)));clear H K8;intro a H;refine bq mP (cs:=A[k].cells) H wn O O (fun j v hj=>H.hp.aI (hrow j v hj)) O ?_;clear H;intro a H;refine dR mP H wn O ?_;clear H;intro b9 a w uG H;refine bM mP 0 (vs:=[_,_,_,_,_]) H wn O ?_;clear H;intro w H;refine aT _ _ ?_;clear aT;refine bP (fun _ bJ=>?_);refine bP (fun _ bO=>?_)
  by_cases c0:¬ A[k].code=code
  ·skip;refine dI hmx [[],[0],[],[0,1,2],ra 0 4,ra 0 5,ra 0 5,ra 0 5,[0,1,2,3,4,7],[0,1,2,3,4,6,7,8],ra 0 10,ra 0 5,ra 0 12,ra 0 13] [] Z [_,vi A[k].code,_,_,_,undef,undef,undef,undef,undef,undef,undef,undef,_] H (aC (Z0 O (Rf JY O)) (Z1 0 23 O (Ro aD 0 O)) (Z0 O (Rm O)) (Z2 1 24 2 25 O (Rc O)) (aC (Z1 3 26 O (Rm O)) (aO 4 (aG c0) O O) (aO 4 (aG c0) O O) (aO 4 (aG c0) O O) (aC (aO 4 (aG c0) O O) (aO 4 (aG c0) O O) (aO 4 (aG c0) O O) (aO 4 (aG c0) O O) (bK (aO 4 (aG c0) O O) (bK (Z2 4 27 12 35 O (Pt (aG c0) O)) dG))))) ?_
   clear H;intro a w G E9 H hv;have H:=H.aQ (hv 13 36 O O) O;clear hv;refine aF ⟨O,?_⟩;refine bO _ _ ?_;clear bO;refine AV H O O ?_;exact acP
  skip;refine dI hmx [[],[0],[],[0,1,2],ra 0 4,ra 0 5,ra 0 5,ra 0 5,[0,1,2,3,4,7],[0,1,2,3,4,6,7,8],ra 0 10,ra 0 5,ra 0 12,ra 0 13] [] Z [_,vi A[k].code,_,_,_,_,_,_,vi A[k].id,.agg #[vi code,vi A[k].id],((rF A code A[k].id).getD FY).val,A[k].val,.bool (!xQ A code A[k]),_] H (aC (Z0 O (Rf JY O)) (Z1 0 23 O (Ro aD 0 O)) (Z0 O (Rm O)) (Z2 1 24 2 25 O (Rc O)) (aC (Z1 3 26 O (Rm O)) (Z1 4 27 O (YM (aS c0) O)) (Z1 4 27 O (YM (aS c0) O)) (Z1 4 27 O (YF JZ (aS c0) O)) (aC (Z2 7 30 4 27 O (YO aD 0 (aS c0) O)) ?_ ?_ ?_ (bK ?_ (bK (Z2 4 27 12 35 O (Pf (aS c0) O)) dG))))) ?_
  ·refine uh 6 29 8 31 4 27 O O fun _ a w G1 hG HT H fin=>?_;refine kg ZK [_,_] H (wg H O O (aS c0)) O O O O ?_;exact iX
  ·refine uh 5 28 9 32 4 27 O O fun _ a w G1 hG HT H fin=>?_;refine aAY (ky:=(code,A[k].id)) (zv:=FY.val) (l:=acc) Tt Qx Z H (wg H O O (aS c0)) O O (H.ro _ _ (hG _ _ hbg)) O ?_;clear H;intro a H;rw [YB hfm] at H;exact GD
  ·refine gX 4 27 O O fun _ a w G1 hG HT H fin=>?_;refine bq mP (cs:=[_,_,_,_,_]) H (wg H O O (aS c0)) O O (H.hp.dD 0 O O) O ?_;exact iX
  ·refine uh 10 33 11 34 4 27 O O fun _ a w G1 hG HT H fin=>?_;refine aA1 asf H (wg H O O (aS c0)) O O O O ?_;clear H;intro a H;rw [anb] at H;exact fin H iJ (by show _=_;first|rfl|exact iq (ane hfm c0 (jl hk2)))
  clear H;intro a w G E9 H hv;have H:=H.aQ (hv 13 36 O O) O;clear hv;refine aF ⟨O,?_⟩;refine bO _ _ ?_;clear bO;refine jX H O ?_ ?_
  ·intro oU
   try have p36:=dT oU
   exact acP
  intro oU
  try have p36:=dF oU
  have hst:xQ A code A[k]=true:=by simpa using oU
  refine kP H (Kc bJ (SR fun _ bU=>aU JZ aD 0 O O (aU asX gV 0 O O (Rf AZ O ?_))));clear H bJ;intro a H;refine bq Tm (cs:=[_,_]) H wn O O (H.hp.dD 0 O O) O ?_;clear H;intro a H;refine kH H (Rf AZ O ?_);clear H;intro a H;refine bq Tm (cs:=[_,_]) H wn O O (H.hp.dD 0 O O) O ?_;clear H;intro a H;refine kg ZM [_,_,_,_,_,_] H wn O O O O ?_;clear H;intro a H;refine dR tV H wn O ?_;clear H;intro b10 a w Xq H;refine bM tV 0 (vs:=[_,_,_,_,_,_]) H wn O ?_;clear H;intro w H;refine bU _ _ ?_;clear bU;refine kP H (SR fun _ bZ=>Rf QD O (aU Cm aD 0 O O (Rd O (Rf QD O (Rf Cm O ?_)))));clear H;intro a H;refine bM aD 0 (vs:=[_]) H wn O ?_;clear H;intro w H;refine bZ _ _ ?_;clear bZ;refine kP H (SR fun _ dP=>Rf QE O (aU Cm aD 0 O O (Rd O (Rf QE O (Rf Cm O ?_)))));clear H;intro a H;refine bM aD 0 (vs:=[_]) H wn O ?_;clear H;intro w H;refine dP _ _ ?_;clear dP;refine rX (ι:=Int × Int) (Tc:=[(1,_),(6,_),(7,_),(10,_),(17,_),(18,_),(19,_)]) (Lc:=[(_,_)]) (fun gh=>[]) (fun gh=>[(b10,.cells #[vi A[k].id,.string A[k].name,vi A[k].flow,vi (A[k].at_+1),vi gh.1,vi gh.2] 77 (0,0))]++Lo) (fun gh=>G) (fun gh=>(gh.1,gh.2)=ER A code A[k]) (by exact (H.dV (Pl:=[_,_]) (dL:=[_,_]) [1,0] Q1 O).sub ⟨O,O,O,O,O,O,O,aB⟩) ?_ ?_
  ·skip;refine kP H (SR fun _ dY=>Rm O (Rm O (Rd O (aU JZ aD 1 O O ?_))));clear H;intro a H;refine kg ZK [_,_] H wn O O O O ?_;clear H;intro a H;refine aks (ky:=(code+1,A[k].id)) (zv:=FY.val) (l:=acc) Tt Qx Z H wn O O (H.ro _ _ (E9 _ _ hbg)) O ?_;clear H;intro a H;rw [YB hfm,show (oZ (code+1,A[k].id) acc).isSome=(rF A (code+1) A[k].id).isSome by rw [hfm,Option.isSome_map]] at H;obtain ⟨E,hE⟩:∃ E,E=rF A (code+1) A[k].id:=⟨_,O⟩;dsimp only at H;rw [<- hE] at H;obtain ⟨q,hq⟩:∃ q,q=E.getD FY:=⟨_,O⟩;rw [<- hq] at H;refine kH H (Rm O ?_);clear H;intro a H;(iterate 2 refine ko H wn O O O ?_;clear H;intro a H);refine dR mP H wn O ?_;clear H;intro b11 a w Nn H;refine bM mP 0 (vs:=[_,_,_,_,_]) H wn O ?_;clear H;intro w H;refine kH H (au dY O (SR fun _ dQ=>Rm O (Rm O (Sp 69 O ?_ ?_)))) <;> clear H dY
   ·intro kL a H
    try have p69:=dT kL
    refine kH H (YF AZ kL O (YF Ng kL O (YO aD 0 kL O (YF AZ kL O (YF Ng kL O (YO aD 2 kL O (YC kL O (Pt kL O (Rm O (Sp 78 O ?_ ?_)))))))))) <;> clear H
    ·intro qm a H
     try have Zd:=dT qm
     refine kH H (YF AZ qm O (YF Cm qm O (YO aD 0 qm O (YF AZ qm O (YF Cm qm O (YO aD 2 qm O (YC qm O (Pt qm O (Kz dQ (Cd O ?_ ?_)))))))))) <;> clear H dQ
     ·intro Nj a H
      refine kP H (SC (Rf AZ O ?_));clear H;intro a H;refine bq Tm (cs:=[_,_]) H wn O O (H.hp.dD 0 O O) O ?_;clear H;intro a H;refine kH H (Rf QE O ?_);clear H;intro a H;refine bM Tm 1 (vs:=[_,_]) H wn O ?_;clear H;intro w H;refine aF ?_;refine ⟨(q.flow,q.at_),by exact (H.dV (Pl:=[_,_,_]) (dL:=[_,_]) [2,1] Q1 O).sub ⟨O,O,O,O,O,O,O,aB⟩,?_⟩;(try dsimp only);obtain ⟨e,he⟩:=Option.isSome_iff_exists.1 kL
      have hqe:q=e:=by rw [hq,he];rfl
      rw [hqe] at qm Nj |-;exact (ase ⟨by rw [<- hE,he],pK qm,pK Nj⟩).symm
     intro Nj a H
     try have p86:=dF Nj
     refine gT ?_;refine ⟨(A[k].flow,A[k].at_+1),by exact (H.dV (Pl:=[_,_,_]) (dL:=[_,_]) [2,1] Q1 O).sub ⟨O,O,O,O,O,O,O,aB⟩,?_⟩;(try dsimp only);refine (Wx ?_).symm;rw [<- hE]
     cases hE2:E with
     | none=>trivial
     | some e =>
      have hqe:q=e:=by rw [hq,hE2];rfl
      dsimp only;rw [<- hqe];rintro ⟨f1,f2⟩
      exact UZ
    intro qm a H
    try have Zd:=dF qm
    refine kH H (bg qm O (aR qm O (aR qm O (Pf qm O (Kz dQ (Cf O O ?_))))));clear H dQ;intro a H;refine gT ?_;refine ⟨(A[k].flow,A[k].at_+1),by exact (H.dV (Pl:=[_,_,_]) (dL:=[_,_]) [2,1] Q1 O).sub ⟨O,O,O,O,O,O,O,aB⟩,?_⟩;(try dsimp only);refine (Wx ?_).symm;rw [<- hE]
    cases hE2:E with
    | none=>trivial
    | some e =>
     have hqe:q=e:=by rw [hq,hE2];rfl
     dsimp only;rw [<- hqe];rintro ⟨f1,f2⟩
     exact UZ
   intro kL a H
   try have p69:=dF kL
   refine kH H (bg kL O (aR kL O (aR kL O (Pf kL O (Rm O (bg O O (aR O O (aR O O (Pf O O (Kz dQ (Cf O O ?_)))))))))));clear H dQ;intro a H;refine gT ?_;refine ⟨(A[k].flow,A[k].at_+1),by exact (H.dV (Pl:=[_,_,_]) (dL:=[_,_]) [2,1] Q1 O).sub ⟨O,O,O,O,O,O,O,aB⟩,?_⟩;(try dsimp only);refine (Wx ?_).symm;rw [<- hE]
   cases hE2:E with
   | none=>trivial
   | some e =>
    have hqe:q=e:=by rw [hq,hE2];rfl
    dsimp only;rw [<- hqe];rintro ⟨f1,f2⟩
    exact UZ
  clear H;rintro ⟨tf,ta⟩ a w hI H;dsimp only at hI H;have hend:=hI;dsimp only [lca,bD] at H;refine kP H (SC (Rm O ?_));clear H;intro a H;refine bq tV (cs:=[_,_,_,_,_,_]) H wn O O (H.hp.dD 1 O O) O ?_;clear H;intro a H;refine iG IU tV [_,_,_,_,_,_] [_,_,_,_,_,_] H wn O O O O O (by intro i q h;match i,h with|0,h=>exact h|n+1,h=>simp at h) O O ?_;clear H;intro b92 a w aDz H;refine mh (Li:=[_,_,_]) (Lo:=Lo) (news:=[vi A[k].id,.string A[k].name,vi A[k].flow,vi (A[k].at_+1),vi tf,vi ta]) IU tV O O H wn O O hrw O (H.hp.dD 0 O O) O V V O ?_;clear H;intro v93 amr a w ahK H;rw [show [vi A[k].id,Value.string A[k].name,vi A[k].flow,vi (A[k].at_+1),vi tf,vi ta]=(Es A code A[k]).cells by simp only [Es,mE.cells,<- hend]] at ahK;refine kH H (aZ K9 O (SC (Rd O (Rm O ?_))));clear H K9;intro a H;refine aF ?_;refine dS ((k+1,v93,amr,_)) (by exact (H.dV (Pl:=[_,_,_]) (dL:=[]) [] Q1 O).sub ⟨O,O,O,O,O,O,aB⟩) ?_
  (try dsimp only);exact ⟨V,by rw [aBR hk2 hst,iK,aBO];exact ahK,fun b o h=>E9 b o (hgm b o h)⟩
 intro h20 a H
 try have BJ:=dF h20
 obtain rfl:k=A.length:=by omega
 have hall:Aj A code A.length=Da A code:=by unfold Aj Da;rw [vg]
 rw [hall] at hrw;refine dX ?_;refine K5 _ _ ?_;clear K5;exact kP H (SR fun _ eX=>Rm O (au eX O (LR results150 O fun H=>H.hp.gI (by rw [hall];exact hrw))))
theorem aBT (G:GH) (w0:World) (hG:Hold G w0) (D:jd) (l:List ak) (hv:av G (.sl 11 (l.map ak.dat)) (bX D.f)) (hok:fq l) (hz:aP l<=1073741824) (code:Int) (hc:0<=code∧code<=100) :
  Calls prog 150 #[D.val,vi code] w0 (bG w0 G fun u G'=>av G' (.sl 6 ((Da (dx 0 0 l) code).map mE.dat)) u) :=
 aog hG (aBS G w0 (wR hG) D l hv hok hz code hc) (by simp) fun _=>akL _ _
theorem Qs:aW 21:=aY func21 O
theorem arT:aW 69:=aY func69 O
theorem aCl (G:GH) (w0:World) (hG:Hold G w0) (x:ak) (i2 i3:Int) (p i5 i6 d l f r:ah) (hs:x.text.size < 4611686018427387904) :
  Calls prog 69 #[.agg #[vi x.kind,vi i2,vi i3,.string x.text,p,i5,i6,d,l,f,r]] w0 (bG w0 G fun v G'=>v=vi (eG x:Nat)∧G=G'):=by
 refine eN [(0,_)] func69 O ntmps69 O O hG ?_;intro a H;refine dH (fun _ K1=>?_);refine eB (cs:=[_,_,_,_,_,_,_,_,_,_,_]) H wn O O O ?_;clear H;intro b1 a w hb1 H;refine kH H (au K1 O (SQ fun _ K2=>SR fun _ K3=>aU iL aD 0 O O (Rc O (Kz K3 (Cd O ?_ ?_))))) <;> clear H K1 K3
 ·intro h7 a H
  try have p7:=dT h7
  refine kP H (SR fun _ K4=>aU rC gV 0 O O ?_);clear H;intro a H;refine s_call Wd H wn O (VW _ _ H.ro _ hs) O ?_;clear H;rintro v11 _ a w ⟨rfl,rfl⟩ - H;refine kH H (Rm O ?_);clear H;intro a H;(iterate 2 refine ko H wn O O O ?_;clear H;intro a H);exact kH H (Ra O (au K4 O (SR fun _ K5=>Rm O (au K5 O (LR results69 O fun H=>H.rt ⟨by unfold eG;rw [aH p7],O⟩)))))
 intro h7 a H
 try have p7:=dF h7
 exact kP H (Kc K2 (SR fun _ K6=>au K6 O (LR results69 O fun H=>H.rt ⟨by unfold eG;rw [ay p7];rfl,rfl⟩)))
theorem amX {G:GH} {l:List cZ} {xs:List ah} (h:bT G 5 (l.map cZ.dat) xs):xs=uo l:=by
 obtain ⟨css,rfl,h2,h3⟩:=h;rw [bR] at h2
 have e:css=l.map cZ.cells:=by
  apply List.ext_getElem?
  intro j;rw [pJ]
  by_cases hj:j < l.length
  ·have h4:=(h3 j l[j].dat css[j] (by simp [hj]) (fF V)).1;rw [fF hj,fF V,aaS h4];rfl
  rw [List.getElem?_eq_none V,List.getElem?_eq_none V];rfl
 rw [e];rfl
theorem aaR (a b:List cZ):uo (a++b)=uo a++uo b:=by unfold uo;rw [jM,List.flatten_append]
abbrev zI (v:ah) (A:List cZ) (Lo:OL):Prop:=bV 58 5 v A.length (uo A) Lo
theorem zI.one {v:ah} {A:List cZ} {Lo:OL} (a:cZ) (h:bV 58 5 v (A.length+1) (uo A++a.cells) Lo):zI v (A++[a]) Lo:=by
 show bV _ 5 v (A++[a]).length (uo (A++[a])) Lo
 rw [iK,aaR]
 have e:uo [a]=a.cells:=by simp [uo]
 rw [e];exact h
theorem zI.app {G:GH} {v:ah} {A B:List cZ} {n:Nat} {news:List ah} {Lo:OL} (h:bV 58 5 v (A.length+n) (uo A++news) Lo) (hn:B.length=n) (hc:bT G 5 (B.map cZ.dat) news):zI v (A++B) Lo:=by
 show bV _ 5 v (A++B).length (uo (A++B)) Lo
 rw [iK,aaR,hn,<- amX hc];exact h
def Um (m:Nat):Prop:=∀ (G:GH) (w0:World),Hold G w0->∀ (g:Int) (l:List ak) (u:ah),av G (.sl 11 (l.map ak.dat)) u->fq l->aP l < m ->
 Calls prog 21 #[u,vi g] w0 (bG w0 G fun r G'=>av G' (.sl 5 ((dx g 0 l).map cZ.dat)) r)
theorem abQ {p:Prop} (h:p:=by
 exact kH H (Ri jS ig O O fun _ H=>fin H iJ O)):p:=h
theorem abR {p:Prop} (h:p:=by
 exact kH H (Rg rM O (aK hG r5') fun _ H=>fin H iJ O)):p:=h
theorem abS {p:Prop} (h:p:=by
 exact kH H (Ri kQ iN O O fun _ H=>fin H iJ O)):p:=h
theorem ace {p:Prop} (h:p:=by
 refine dB [] O trivial Z lg O O ?_;intro bC a w G1 hG HT H fin;exact abk):p:=h
theorem acp {p:Prop} (h:p:=by
 intro bC a w G1 hG HT H fin;exact kH H (Ro oq 0 O fun _ H=>fin H iJ O)):p:=h
set_option maxHeartbeats 4000000 in
theorem ayl {m:Nat} (ih:Um m) (hm:m<=1073741824):Um (m+1):=by
 intro G w0 hG g l u hu hok hz;obtain ⟨A,c,rfl,hc1,hc2,hgu⟩:=hu.slice;rw [bR] at *;have hll:=Au l;have hln:=Ci g 0 l;have hml:maxLen=9223372036854775807:=rfl;refine eN [(0,_),(1,_)] func21 O ntmps21 O O hG ?_;intro a H;refine kP H (SR fun _ K1=>au K1 O (SR fun _ K2=>au K2 O (SR fun _ K3=>au K3 O (SQ fun _ K4=>SR fun _ K5=>au K5 O (SB ?_)))));clear H K1 K2 K3 K5;intro a H;skip;refine eO (ι:=Nat × Nat × ah × List cZ × OL × GH) (Tc:=[(0,_),(1,_)]) (Lc:=[]) (fun gh=>[(5,gh.2.2.1),(6,vi gh.2.1),(7,vi gh.1)]) (fun gh=>[]++gh.2.2.2.2.1) (fun gh=>gh.2.2.2.2.2) (fun gh=>gh.1<=l.length∧zI gh.2.2.1 gh.2.2.2.1 gh.2.2.2.2.1∧gh.2.2.2.1++dx g gh.2.1 (l.drop gh.1)=dx g 0 l∧fq (l.drop gh.1)∧gh.2.1+aP (l.drop gh.1)<=4294967297∧(∀ b o,G b=some o->gh.2.2.2.2.2 b=some o)) (fun gh=>l.length - gh.1) ((0,0,.slice none 0 0,[],[],G)) (by exact H.sub ⟨O,O,O,O,O,aB⟩) ?_ ?_
 ·exact ⟨jL _,bV.nil,O,hok,by dsimp only;rw [xu];omega,fun _ _ h=>h⟩
 clear H;rintro ⟨k,t,v5,A1,Lo,g1⟩ a w hI H;dsimp only at hI H;obtain ⟨hk,hr1,hX,hok1,hat,hg1⟩:=hI
 have hl1:A1.length<=aP l:=by have:=dh List.length hX;rw [iK] at this;omega
 obtain ⟨v5A,v5c,rfl,-,-⟩:=hr1.shape;dsimp only [lca,bD] at H;refine kP H (SQ fun _ K6=>SR fun _ K7=>Rm O (Rm O (Rl eH O (Rc O (Kz K7 (Cd O ?_ ?_)))))) <;> clear H K7
 ·intro eD a H
  try have lJ:=dT eD
  have hk2:k < l.length:=by omega
  obtain ⟨b,o,pA,pn,pc,dA,dn,dc,yA,yn,yc,fA,fn,fc,rA,rn,rc,rfl,hrow,hhd,hfl,hrw⟩:=zT hk2 hgu;replace hrow:=fun j u hj=>aK hg1 (hrow j u hj);replace hfl:=hfl.mono hg1;replace hrw:=hrw.mono hg1;have hrn:=hrw.len;rw [bR] at hrn;subst hrn;have hzs:=alZ hk2;have hzi:=pG l[k];have RH:=LM (jl hk2);have Ie:=YS l[k];rw [mW hk2] at hX hok1;obtain ⟨hox,hok2⟩:=hok1.head;rw [dx,Gn,hox.n1] at hX;rw [hox.n1] at Ie;obtain ⟨x,hx⟩:∃ x,x=l[k]:=⟨_,O⟩;rw [<- hx] at hX hox hrow hhd hfl hrw hzs hzi RH Ie;have hrl:=F4 x.rows;refine kP H (Kc K6 (SQ fun _ K8=>SB (SR fun _ K9=>Rm O (Rm O (Ri eH cO O O ?_)))));clear H K6;intro a H;refine bq cO (cs:=[vi x.kind,vi x.code,vi x.id,.string x.text,.slice pA pn pc,vi x.head.marks.ins,vi x.head.marks.move,.slice dA dn dc,.slice yA yn yc,.slice fA fn fc,.slice rA x.rows.length rc]) H wn O O (fun j v hj=>H.hp.aI (hrow j v hj)) O ?_;clear H;intro a H;refine dR cO H wn O ?_;clear H;intro b8 a w Ea H;refine bM cO 0 (vs:=[_,_,_,_,_,_,_,_,_,_,_]) H wn O ?_;clear H;intro w H;refine K9 _ _ ?_;clear K9;refine rX (ι:=ah × List cZ × OL) (Tc:=[(0,_),(1,_),(6,_),(7,_),(8,_)]) (Lc:=[(_,_)]) (fun gh=>[(5,gh.1)]) (fun gh=>[]++gh.2.2) (fun gh=>g1) (fun gh=>zI gh.1 gh.2.1 gh.2.2∧gh.2.1=A1++(if x.kind=8 then [⟨x.code,x.id,x.text,g,(t:Int)⟩] else [])) (by exact H.sub ⟨O,O,O,O,O,aB⟩) ?_ ?_
  ·skip;refine kP H (SR fun _ aT=>aU iL aD 0 O O (Rc O (Kz aT (Cd O ?_ ?_)))) <;> clear H aT
   ·intro h23 a H
    try have qL:=dT h23
    refine kP H (SC (Rm O (aU DJ aD 0 O O (aU yO aD 0 O O (aU rC gV 0 O O (Rm O (Rm O ?_)))))));clear H;intro a H;refine kg ZL [_,_] H wn O O O O ?_;clear H;intro a H;refine kg akV [_,_,_,_,_] H wn O O O O ?_;clear H;intro a H;refine iG tX mP [_,_,_,_,_] [_,_,_,_,_] H wn O O O O O (by intro i q h;match i,h with|0,h=>exact h|n+1,h=>simp at h) O O ?_;clear H;intro b35 a w aDr H;refine mh (Li:=[_,_]) (Lo:=Lo) (news:=[vi x.code,vi x.id,.string x.text,vi g,vi t]) tX mP O O H wn O O hr1 O (H.hp.dD 0 O O) O V V O ?_;clear H;intro v36 aml a w awv H;refine kH H (Ra O ?_);clear H;intro a H;refine aF ?_;refine ⟨(v36,A1++[⟨x.code,x.id,x.text,g,(t:Int)⟩],aml),by exact (H.dV (Pl:=[_,_]) (dL:=[_]) [1] Q1 O).sub ⟨O,O,O,O,O,O,aB⟩,?_⟩;(try dsimp only);exact ⟨zI.one ⟨x.code,x.id,x.text,g,(t:Int)⟩ awv,by rw [aH qL]⟩
   intro h23 a H
   try have qL:=dF h23
   refine gT ?_;refine ⟨(_,A1,Lo),by exact H.sub ⟨O,O,O,O,O,O,aB⟩,?_⟩;(try dsimp only);exact ⟨hr1,by rw [ay qL,jV]⟩
  clear H;rintro ⟨v2,A2,Mc⟩ a w hI H;dsimp only at hI H;obtain ⟨hr2,hX2⟩:=hI
  have hl2:A2.length<=aP l+1:=by rw [hX2,iK];split <;> simp only [lD,List.length_nil] <;> omega
  obtain ⟨v2A,v2c,rfl,-,-⟩:=hr2.shape;dsimp only [lca,bD] at H;refine rX (ι:=ah × List cZ × OL × GH) (Tc:=[(0,_),(1,_),(6,_),(7,_),(8,_)]) (Lc:=[(_,_)]) (fun gh=>[(5,gh.1)]) (fun gh=>[]++gh.2.2.1) (fun gh=>gh.2.2.2) (fun gh=>zI gh.1 gh.2.1 gh.2.2.1∧gh.2.1=A2++(if x.kind=6 then dx x.id 0 x.flow else [])∧gh.2.1.length<=aP l+1∧(∀ b o,g1 b=some o->gh.2.2.2 b=some o)) (by exact H.sub ⟨O,O,O,O,O,aB⟩) ?_ ?_
  ·skip;refine kP H (SR fun _ bJ=>aU iL aD 0 O O (Rc O (Kz bJ (Cd O ?_ ?_)))) <;> clear H bJ
   ·intro mY a H
    try have p39:=dT mY
    refine kP H (SC (Rm O (aU uw fC 0 O O (aU yO aD 0 O O ?_))));clear H;intro a H;refine s_call Qs H wn O (ih _ _ H.ro x.id x.flow _ hfl hox.fl V) O ?_;clear H;rintro v45 Ud a w XW XL H;obtain ⟨A45,n45,c45,rfl⟩:=XW.form;have hn45:=XW.len;rw [bR] at hn45;have aDJ:=Ci x.id 0 x.flow;refine ZA (Li:=[_]) (Lo:=Mc) tX mP O O H wn O O hr2 XW V V O ?_;clear H;intro v46 Md aEa a w awx avg H;refine kH H (Ra O ?_);clear H;intro a H;refine aF ?_;refine ⟨(v46,A2++dx x.id 0 x.flow,Md,Ud),by exact H.sub ⟨O,O,O,O,O,O,aB⟩,?_⟩;(try dsimp only);exact ⟨zI.app awx hn45.symm avg,by rw [aH p39],by have:=dh List.length hX;simp only [hX2,iK,aH p39,ay (show ¬ x.kind=8 by omega),List.length_nil] at this |-;omega,XL⟩
   intro mY a H
   try have p39:=dF mY
   refine gT ?_;refine ⟨(_,A2,Mc,g1),by exact H.sub ⟨O,O,O,O,O,O,aB⟩,?_⟩;(try dsimp only);exact ⟨hr2,by rw [ay p39,jV],hl2,fun _ _ h=>h⟩
  clear H;rintro ⟨v3,A3,Lo3,g2⟩ a w hI H;dsimp only at hI H;obtain ⟨hr3,hX3,hl3,hg2⟩:=hI;obtain ⟨v3A,v3c,rfl,-,-⟩:=hr3.shape;dsimp only [lca,bD] at H;refine kP H (SQ fun _ bO=>SR fun _ bU=>au bU O (SB ?_));clear H bU;intro a H;skip;refine eO (ι:=Nat × ah × List cZ × OL × GH) (Tc:=[(0,_),(1,_),(6,_),(7,_),(8,_)]) (Lc:=[(_,_)]) (fun gh=>[(5,gh.2.1),(9,vi gh.1)]) (fun gh=>[]++gh.2.2.2.1) (fun gh=>gh.2.2.2.2) (fun gh=>gh.1<=x.rows.length∧zI gh.2.1 gh.2.2.1 gh.2.2.2.1∧gh.2.2.1++jC (x.rows.drop gh.1)=A3++jC x.rows∧(∀ b o,g2 b=some o->gh.2.2.2.2 b=some o)) (fun gh=>x.rows.length - gh.1) ((0,_,A3,Lo3,g2)) (by exact H.sub ⟨O,O,O,O,O,O,O,aB⟩) ?_ ?_
  ·exact ⟨jL _,hr3,O,fun _ _ h=>h⟩
  clear H;rintro ⟨rk,v4,A4,Lo4,g3⟩ a w hI H;dsimp only at hI H;obtain ⟨NU,hr4,J9,hg3⟩:=hI;obtain ⟨v4A,v4c,rfl,-,-⟩:=hr4.shape;dsimp only [lca,bD] at H;refine kP H (SQ fun _ bZ=>SR fun _ dP=>Rm O (aU pR oq 0 O O (Rl jS O (Rc O (Kz dP (Cd O ?_ ?_)))))) <;> clear H dP
  ·intro jO a H
   try have p51:=dT jO
   have hk3:rk < x.rows.length:=by omega
   obtain ⟨b2,o2,qA,qn,qc,eA,en,ec,zA,zn,zc,cA,cn,cc,rfl,hrow2,Ac,hcl⟩:=IB hk3 ((hrw.mono hg2).mono hg3).at_;have hcn:=hcl.len;rw [bR] at hcn;subst hcn;have r5:aI g3 b2 (o2+rk*6+5)=some (.slice cA x.rows[rk].cells.length cc):=hrow2 5 _ O;have hsz2:=IX hk3;have hcs:=FZ x.rows[rk].cells;have hoc:=hox.rw _ (jl hk3);have har:=Uy x.rows;rw [mW hk3,jC,aaD] at J9;obtain ⟨y,hy⟩:∃ y,y=x.rows[rk]:=⟨_,O⟩;rw [<- hy] at r5 J9 hrow2 Ac hcl hsz2 hcs hoc;refine kP H (Kc bZ (SQ fun _ dY=>SB (SR fun _ dQ=>au dQ O (SB ?_))));clear H bZ dQ;intro a H;skip;refine eO (ι:=Nat × ah × List cZ × OL × GH) (Tc:=[(0,_),(1,_),(6,_),(7,_),(8,_),(9,_)]) (Lc:=[(_,_)]) (fun gh=>[(5,gh.2.1),(10,vi gh.1)]) (fun gh=>[]++gh.2.2.2.1) (fun gh=>gh.2.2.2.2) (fun gh=>gh.1<=y.cells.length∧zI gh.2.1 gh.2.2.1 gh.2.2.2.1∧gh.2.2.1++(kE (y.cells.drop gh.1)++jC (x.rows.drop (rk+1)))=A4++(kE y.cells++jC (x.rows.drop (rk+1)))∧(∀ b o,g3 b=some o->gh.2.2.2.2 b=some o)) (fun gh=>y.cells.length - gh.1) ((0,_,A4,Lo4,g3)) (by exact H.sub ⟨O,O,O,O,O,O,O,O,aB⟩) ?_ ?_
   ·exact ⟨jL _,hr4,O,fun _ _ h=>h⟩
   clear H;rintro ⟨ck,v5',A5,Lo5,g4⟩ a w hI H;dsimp only at hI H;obtain ⟨hck,X7,Ka,hg4⟩:=hI;have r5':=aK hg4 r5
   have hl5:A5.length<=aP l+1+gq x.rows:=by
    have h1:=dh List.length Ka;have h2:=dh List.length J9
    simp only [iK] at h1 h2
    omega
   obtain ⟨v6A,v6c,rfl,-,-⟩:=X7.shape;dsimp only [lca,bD] at H;refine kP H (SQ fun _ eX=>SR fun _ gM=>Rm O (aU pR oq 0 O O (Rm O (Ri jS ig O O (Rf uy O (Rg rM O r5' (Rl kQ O (Rc O (Kz gM (Cd O ?_ ?_)))))))))) <;> clear H gM
   ·intro Ho a H
    try have p62:=dT Ho
    have hk4:ck < y.cells.length:=by omega
    obtain ⟨b3,o3,sA,sn,sc,tA,tn,tc,uA,un,uc,gA,gn,gc,rfl,hrow3,hch,hcf⟩:=JD hk4 (hcl.mono hg4).at_;have Rz:=IV hk4;have Ee:=hoc _ (jl hk4);have hlz:=Ci y.cells[ck].id 0 y.cells[ck].flow;rw [mW hk4,kE,aaA,gY] at Ka;obtain ⟨z,hzy⟩:∃ z,z=y.cells[ck]:=⟨_,O⟩;rw [<- hzy] at Ka hrow3 hch hcf Rz Ee hlz;refine kP H (Kc eX (SQ fun _ fI=>SB ?_));clear H eX;intro a H
    have lg:wu (fun (dK:Nat) (v:ah) (G:GH)=>match dK with|0=>v=.slice v6A A5.length v6c|1=>v=(aJ b8 10)|2=>v=.slice (some ⟨b2,o2,none⟩) x.rows.length rc|3=>v=vi rk|4=>v=(aJ b2 (o2+rk*6))|5=>v=(aJ b2 (o2+rk*6+5))|6=>v=.slice (some ⟨b3,o3,none⟩) y.cells.length cc|7=>v=vi ck|8=>v=(aJ b3 (o3+ck*7))|9=>v=(aJ b3 (o3+ck*7+6))|10=>v=.slice gA gn gc|11=>v=(aJ b8 10)|12=>v=.slice (some ⟨b2,o2,none⟩) x.rows.length rc|13=>v=vi rk|14=>v=(aJ b2 (o2+rk*6))|15=>v=(aJ b2 (o2+rk*6+5))|16=>v=.slice (some ⟨b3,o3,none⟩) y.cells.length cc|17=>v=vi ck|18=>v=(aJ b3 (o3+ck*7))|19=>v=(aJ b3 (o3+ck*7+0))|20=>v=vi z.id|21=>av G (.sl 5 ((dx z.id 0 z.flow).map cZ.dat)) v|_=>True):=by intro dK v G G' hm h;(iterate 24 (rcases dK with _|dK;(first|exact h|exact av.mono hm h)));exact trivial
    refine xC (hmx) [[],[],[1],[],[1,2,3],ra 1 4,ra 1 5,[],ra 1 7,ra 1 8,ra 1 9,[],[11],[],[11,12,13],ra 11 4,ra 11 5,[],ra 11 7,ra 11 8,ra 11 9,ra 1 20,ra 0 22,ra 0 23] [22,23] Z Z _ lg H ?_ ?_
    ·clear H;refine aC ?_ ?_ ?_ ?_ (aC ?_ ?_ ?_ ?_ (aC ?_ ?_ ?_ ?_ (aC ?_ ?_ ?_ ?_ (aC ?_ ?_ ?_ ?_ (aC ?_ ?_ (bQ O) (bQ O) dG)))))
     ·exact Jw
     ·exact ace
     ·refine dB [(1,66,_)] O ⟨fun _ _ h=>h,aB⟩ Z lg O O ?_;exact acp
     ·exact Jw
     ·refine dB [(2,67,_),(3,68,_)] O ⟨fun _ _ h=>h,fun _ _ h=>h,aB⟩ Z lg O O ?_;intro bC a w G1 hG HT H fin;exact abQ
     ·refine dB [(4,69,_)] O ⟨fun _ _ h=>h,aB⟩ Z lg O O ?_;exact MF
     ·refine dB [(5,70,_)] O ⟨fun _ _ h=>h,aB⟩ Z lg O O ?_;intro bC a w G1 hG HT H fin;exact abR
     ·exact Jw
     ·refine dB [(6,71,_),(7,72,_)] O ⟨fun _ _ h=>h,fun _ _ h=>h,aB⟩ Z lg O O ?_;intro bC a w G1 hG HT H fin;exact abS
     ·refine dB [(8,73,_)] O ⟨fun _ _ h=>h,aB⟩ Z lg O O ?_;exact P6
     ·refine dB [(9,74,_)] O ⟨fun _ _ h=>h,aB⟩ Z lg O O ?_;intro bC a w G1 hG HT H fin;exact kH H (Rg fC O (aK hG (hrow3 6 _ O)) fun _ H=>fin H iJ O)
     ·exact ace
     ·refine dB [(11,76,_)] O ⟨fun _ _ h=>h,aB⟩ Z lg O O ?_;exact acp
     ·exact Jw
     ·refine dB [(12,77,_),(13,78,_)] O ⟨fun _ _ h=>h,fun _ _ h=>h,aB⟩ Z lg O O ?_;intro bC a w G1 hG HT H fin;exact abQ
     ·refine dB [(14,79,_)] O ⟨fun _ _ h=>h,aB⟩ Z lg O O ?_;exact MF
     ·refine dB [(15,80,_)] O ⟨fun _ _ h=>h,aB⟩ Z lg O O ?_;intro bC a w G1 hG HT H fin;exact abR
     ·exact Jw
     ·refine dB [(16,81,_),(17,82,_)] O ⟨fun _ _ h=>h,fun _ _ h=>h,aB⟩ Z lg O O ?_;intro bC a w G1 hG HT H fin;exact abS
     ·refine dB [(18,83,_)] O ⟨fun _ _ h=>h,aB⟩ Z lg O O ?_;exact P7
     ·refine dB [(19,84,_)] O ⟨fun _ _ h=>h,aB⟩ Z lg O O ?_;intro bC a w G1 hG HT H fin;exact kH H (Rg aD O (aK hG (hrow3 0 _ O)) fun _ H=>fin H iJ O)
     refine dB [(10,75,_),(20,85,_)] O ⟨fun _ _ h=>h,fun _ _ h=>h,aB⟩ Z lg O O ?_;intro bC a w G1 hG HT H fin;refine s_call Qs H wn O (ih _ _ H.ro z.id z.flow _ (hcf.mono hG) Ee V) O ?_;clear H;rintro v86 G86 a w Ky aum H;exact fin H aum (Ky)
    clear H;intro a w G E8 H hv;have H:=H.aQ (hv 0 65 O O) O;obtain ⟨u86,awY,Ky⟩:=hv 21 86 Q1 O;(try dsimp only at Ky);obtain ⟨A86,n86,c86,rfl⟩:=Ky.form;have aho:=Ky.len;rw [bR] at aho;have H:=H.fV awY;clear hv;refine ZA (Li:=[_]) (Lo:=Lo5) tX mP O O H wn O O X7 Ky V V O ?_;clear H;intro v87 amq aEb a w awE avh H;refine kH H (Ra O ?_);clear H;intro a H;refine aF ⟨O,?_⟩;refine fI _ _ ?_;clear fI;refine kP H (SC (Rm O (Rd O (Ra O ?_))));clear H;intro a H;refine aF ?_;refine dS ((ck+1,v87,A5++dx z.id 0 z.flow,amq,_)) (by exact H.sub ⟨O,O,O,O,O,O,O,O,aB⟩) ?_
    (try dsimp only);exact ⟨V,zI.app awE aho.symm avh,by rw [<- Ka,gY],fun b o h=>E8 b o (hg4 b o h)⟩
   intro Ho a H
   try have p62:=dF Ho
   refine dX ?_;refine dY _ _ ?_;clear dY;refine kP H (SC (Rm O (Rd O (Ra O ?_))));clear H;intro a H;refine aF ?_;refine dS ((rk+1,_,A5,Lo5,g4)) (by exact H.sub ⟨O,O,O,O,O,O,O,aB⟩) ?_
   (try dsimp only);rw [ow V,kE,gJ] at Ka;exact ⟨V,X7,Ka.trans J9,fun b o h=>hg4 b o (hg3 b o h)⟩
  intro jO a H
  try have p51:=dF jO
  refine dX ?_;refine bO _ _ ?_;clear bO;refine kP H (SC (Rm O ?_));clear H;intro a H;refine bq cO (cs:=[_,_,_,_,_,_,_,_,_,_,_]) H wn O O (H.hp.dD 0 O O) O ?_;clear H;intro a H;refine s_call arT H wn O (aCl _ _ H.ro x _ _ _ _ _ _ _ _ _ V) O ?_;clear H;rintro v90 _ a w ⟨rfl,rfl⟩ - H;refine kH H (Rd O (aZ K8 O (SC (Rm O (Rd O (Ra O ?_))))));clear H K8;intro a H;refine aF ?_;refine dS ((k+1,t+eG x,_,A4,Lo4,g3)) (by exact (H.dV (Pl:=[_]) (dL:=[]) [] Q1 O).sub ⟨O,O,O,O,O,aB⟩) ?_
  try dsimp only
  have Fv:(if x.kind=7 then jC x.rows else [])=jC x.rows:=by
   by_cases h7:x.kind=7
   ·rw [aH h7]
   rw [ay h7,hox.SL h7];rfl
  rw [ow V,jC,jV] at J9;exact ⟨V,hr4,by rw [J9,hX3,hX2,<- hX,Fv];simp only [gY],hok2,V,fun b o h=>hg3 b o (hg2 b o (hg1 b o h))⟩
 intro eD a H
 try have lJ:=dF eD
 refine dX ?_;refine K4 _ _ ?_;clear K4;refine kP H (SR fun _ gQ=>Rm O (au gQ O ?_));clear H gQ;intro a H;refine lr H results21 O ?_;rw [ow V,dx,jV] at hX;obtain ⟨Gr,hmr,hrep,H⟩:=St.qF (Li:=[]) H hr1 (rows:=A1.map cZ.dat) (by simp) (UG _ _);exact H.rt (by rw [<- hX];exact hrep)
theorem YP:∀ m:Nat,m<=1073741825->Um m
 | 0,_=>fun _ _ _ _ _ _ _ _ h=>absurd h V
 | m+1,hm=>ayl (YP m V) V
section
section
variable {N:Nat} {D:List Deferred} {w0:World} {F:Nat->Prop} {G0 G G1 G2:GH} {L L1 L2:OL} {T Xs:List (Nat × ah)}
variable {r:Option Nat} {P:Program} {Q:Exit->Act->World->Prop} {l:List Oper} {a a':Act} {w w':World}
end
end
theorem asw:OY prog 77 [(0,0),(1,1),(2,2),(4,2)]:=⟨Z,Z,Z,Z,Z⟩
theorem ZJ {G:GH} {A:List mE} {v:Option Addr} {n c k:Nat} (h:av G (.sl 6 (A.map mE.dat)) (.slice v n c)) (hk:k < A.length):∃ b o,v=some ⟨b,o,none⟩∧∀ j u,A[k].cells[j]?=some u->aI G b (o+k*6+j)=some u:=by
 obtain ⟨b,o,cs,rfl,hcl,hrow,hr⟩:=h.at_ k A[k].dat (by simp [hk]);obtain rfl:=akN hr;exact ⟨b,o,O,hrow⟩
theorem aqf:aW 150:=aY func150 O
theorem asY:dz prog 77 1 1:=⟨Z⟩
theorem afh:aW 63:=aY func63 O
theorem arX:aW 86:=aY func86 O
theorem arY:aW 87:=aY func87 O
theorem adB (G:GH) (w0:World) (hG:Hold G w0) (D:jd) (l:List ak) (hv:av G (.sl 11 (l.map ak.dat)) (bX D.f)) (hok:fq l) (hz:aP l<=1073741824) :
  Calls prog 63 #[D.val] w0 (bG w0 G fun u G'=>av G' (.sl 6 ((Da (dx 0 0 l) 1).map mE.dat)) u):=by
 refine eN [(0,_)] func63 O ntmps63 O O hG ?_;intro a H;refine dH (fun _ K1=>?_);refine eB (cs:=[_,_,_,_,_,_,_,_,_,_,_]) H wn O O O ?_;clear H;intro b1 a w hb1 H;refine kH H (au K1 O (SQ fun _ K2=>?_));clear H K1;intro a H;obtain ⟨Ga,hma,hb',H⟩:=H.fJ;have hga:=fun j v hj=>tC hb' 0 D.cells O j v hj;refine mX ?_;refine bq jH (cs:=D.cells) H wn O O (fun j v hj=>H.hp.aI (hga j v hj)) O ?_;clear H;intro a H;refine s_call aqf H wn O (aBT _ _ H.ro D l (hv.mono hma) hok hz 1 V) O ?_;clear H;rintro v4 G4 a w hr Kl H;obtain ⟨A4,n4,c4,rfl⟩:=hr.form;exact kH H (aZ K2 O (LR results63 O fun H=>H.rt hr))
theorem atf {G:GH} {b:Nat} {s:ByteArray} (hb:aI G b 0=some (.string s)) (x:mE):uW (.func (.func 87) #[] #[(aJ b 0)]) G x.dat (decide (x.name=s)):=by
 intro G1 w0 cs hm hG hr;obtain rfl:=akN hr;refine kG (caps:=[(aJ b 0)]) arY ?_;replace hb:=aK hm hb;refine eN [(0,_),(1,_)] func87 O ntmps87 O O hG ?_;intro a H;refine dH (fun _ K1=>?_);refine eB (cs:=[_,_,_,_,_,_]) H wn O O O ?_;clear H;intro b2 a w hb2 H;refine kH H (au K1 O (SR fun _ K2=>aU asY gV 0 O O (Rg gV O hb ?_)));clear H K1;intro a H;refine CW H wn O O O ?_;clear H;intro a H;exact kH H (au K2 O (LR results87 O fun H=>H.rt (iq (by rw [zK,decide_eq_true_iff,beq_iff_eq];exact ⟨adF,fun h=>by rw [h]⟩))))
theorem axp (G:GH) (w0:World) (hG:Hold G w0) (l:List mE) (p:mE->Bool) (v fv:ah) (hv:av G (.sl 6 (l.map mE.dat)) v) (hf:∀ x∈l,uW fv G x.dat (p x)) :
  Calls prog 86 #[v,fv] w0 (bG w0 G fun u G'=>u=vi (nO (l.findIdx? p))):=by
 obtain ⟨A,c,rfl,hc1,hc2,-⟩:=hv.slice;have hml:maxLen=9223372036854775807:=rfl;rw [bR] at *;refine eN [(0,_),(1,_)] func86 O ntmps86 O O hG ?_;intro a H;refine kP H (SR fun _ K1=>au K1 O (SQ fun _ K2=>SR fun _ K3=>Rm O (Rl IU O (Rm O (Kz K3 (SB ?_))))));clear H K1 K3;intro a H;skip;refine eO (ι:=Nat × GH) (Tc:=[(0,_),(1,_),(7,_)]) (Lc:=[]) (fun gh=>[(8,vi gh.1)]) (fun gh=>[]) (fun gh=>gh.2) (fun gh=>gh.1<=l.length∧(l.take gh.1).findIdx? p=none∧(∀ b o,G b=some o->gh.2 b=some o)) (fun gh=>l.length - gh.1) ((0,G)) (by exact H.sub ⟨O,O,O,O,aB⟩) ?_ ?_
 ·exact yE
 clear H;rintro ⟨k,g⟩ a w hI H;dsimp only at hI H;obtain ⟨hk,hno,hgm⟩:=hI;dsimp only [lca,bD] at H;refine kP H (SR fun _ K4=>Rc O (Kz K4 (SQ fun _ K5=>Cd O ?_ ?_))) <;> clear H K4
 ·intro h9 a H
  try have p9:=dT h9
  have hk2:k < l.length:=by omega
  obtain ⟨b,o,rfl,hrow⟩:=ZJ hv hk2;refine kP H (Kc K5 (SQ fun _ K6=>SB (SR fun _ K7=>Rm O (au K7 O (SR fun _ K8=>Rm O (Rm O (Rm O (Ri IU tV O O ?_))))))));clear H K5 K7;intro a H;refine bq tV (cs:=l[k].cells) H wn O O (fun j v hj=>H.hp.aI (aK hgm (hrow j v hj))) O ?_;clear H;intro a H;refine oL H wn O O (hf _ (jl hk2) _ _ _ hgm H.ro (akO _ l[k])) O ?_;clear H;rintro v16 yj a w rfl zX H;refine K8 _ _ ?_;clear K8;refine jX H O ?_ ?_
  ·intro h16
   try have p16:=dT h16
   refine kP H (SR fun _ K9=>Rm O (au K9 O ?_));clear H K9;intro a H;refine lr H results86 O ?_
   exact zN
  exact JA
 intro h9 a H
 try have p9:=dF h9
 refine dX ?_;refine K2 _ _ ?_;clear K2;refine kP H (SR fun _ aT=>au aT O ?_);clear H aT;intro a H;refine lr H results86 O ?_
 exact zN
def aCY:mE:=⟨0,⟨#[]⟩,0,0,0,0⟩
def Nh (l:List ak) (s:ByteArray):Option mE:=(Da (dx 0 0 l) 1).find? fun x=>decide (x.name=s)
theorem axD {l:List mE} {p:mE->Bool}:(¬ 0<=nO (l.findIdx? p)->l.find? p=none)∧(0<=nO (l.findIdx? p)->∃ (k:Nat) (hk:k < l.length),nO (l.findIdx? p)=k∧l.find? p=some l[k]):=by
 cases h:l.findIdx? p with
 | none =>
  refine ⟨fun _=>?_,fun h=>absurd h Q1⟩;rw [List.find?_eq_none];intro x hx;have:=List.findIdx?_eq_none_iff.1 h x hx
  simp [this]
 | some k =>
  obtain ⟨hk,h1,h2⟩:=List.findIdx?_eq_some_iff_getElem.1 h;refine ⟨fun hn=>absurd (Int.natCast_nonneg k) hn,fun _=>⟨k,hk,O,?_⟩⟩;rw [List.find?_eq_some_iff_getElem];exact ⟨h1,k,hk,O,fun j hj=>by simpa using h2 j hj⟩
theorem amF (G:GH) (w0:World) (hG:Hold G w0) (D:jd) (l:List ak) (s:ByteArray) (hv:av G (.sl 11 (l.map ak.dat)) (bX D.f)) (hok:fq l) (hz:aP l<=1073741824) :
  Calls prog 30 #[D.val,.string s] w0 (bG w0 G fun u G'=>u=.tuple #[.agg ((Nh l s).getD aCY).cells.toArray,.bool (Nh l s).isSome]):=by
 refine eN [(0,_),(1,_)] func30 O ntmps30 O O hG ?_;intro a H;refine dH (fun _ K1=>?_);refine eB (cs:=[_,_,_,_,_,_,_,_,_,_,_]) H wn O O O ?_;clear H;intro b2 a w hb2 H;refine eB (cs:=[_]) H wn O O O ?_;clear H;intro b3 a w hb3 H;refine dR tV H wn O ?_;clear H;intro b4 a w hb4 H;refine kH H (au K1 O (SQ fun _ K2=>?_));clear H K1;intro a H;have H:=H.dV (Pl:=[_,_,_]) (dL:=[_,_,_]) [2,1,0] Q1 O;obtain ⟨Ga,hma,hb',H⟩:=H.fJ;obtain ⟨Gb,hmb,Bp,H⟩:=H.fJ;have hga:=fun j v hj=>aK hmb (tC hb' 0 D.cells O j v hj);replace hv:=(hv.mono hma).mono hmb
 have hs3:aI Gb b3 0=some (.string s):=by unfold aI;rw [Bp];rfl
 refine mX ?_;refine bq jH (cs:=D.cells) H wn O O (fun j v hj=>H.hp.aI (hga j v hj)) O ?_;clear H;intro a H;refine s_call afh H wn O (adB _ _ H.ro D l hv hok hz) O ?_;clear H;rintro v9 G9 a w hr yY H;obtain ⟨R,hR⟩:∃ R,R=Da (dx 0 0 l) 1:=⟨_,O⟩
 have hfn:Nh l s=R.find? fun x=>decide (x.name=s):=by rw [hR];rfl
 rw [<- hR] at hr;obtain ⟨A9,n9,c9,rfl⟩:=hr.form;have hn9:=hr.len;rw [bR] at hn9;subst hn9;refine kH H (aZ K2 O (SQ fun _ K3=>SR fun _ K4=>Rm O ?_));clear H K2;intro a H;refine wV H wn O O ?_;clear H;intro a H;refine s_call arX H wn O (axp _ _ H.ro R (fun x=>decide (x.name=s)) _ _ hr (fun x _=>atf (aK yY hs3) x)) O ?_;clear H;rintro v12 Dm a w rfl Bt H;obtain ⟨hx1,hx2⟩:=axD (l:=R) (p:=fun x=>decide (x.name=s));replace hr:=hr.mono Bt;refine kH H (au K4 O (SR fun _ K5=>Rm O (Rc O (Kz K5 (Cd O ?_ ?_))))) <;> clear H K4 K5
 ·intro eD a H
  try have lJ:=dT eD
  obtain ⟨k,hk,e1,e2⟩:=hx2 lJ;obtain ⟨b,o,rfl,hrow⟩:=ZJ hr hk;rw [e1] at H;refine kP H (SR fun _ K6=>Rm O (Rm O (Ri IU tV O O ?_)));clear H;intro a H;refine bq tV (cs:=R[k].cells) H wn O O (fun j v hj=>H.hp.aI (hrow j v hj)) O ?_;clear H;intro a H;refine bM tV 0 (vs:=[_,_,_,_,_,_]) H wn O ?_;clear H;intro w H;refine kH H (au K6 O ?_);clear H K6;intro a H;refine gu ?_;refine (jQ H results30 (.cons (vX tV (cs:=[_,_,_,_,_,_]) H O O (H.hp.dD 0 O O)) (.cons (fE H O) .nil)) ?_).1;exact H.rt (by rw [hfn,e2];rfl)
 intro eD a H
 try have lJ:=dF eD
 have e2:=hx1 lJ;refine gT ?_;refine K3 _ _ ?_;clear K3;refine dH (fun _ K7=>?_);refine kg ZM [_,_,_,_,_,_] H wn O O O O ?_;clear H;intro a H;refine bM tV 0 (vs:=[_,_,_,_,_,_]) H wn O ?_;clear H;intro w H;refine kH H (au K7 O ?_);clear H K7;intro a H;refine gu ?_;refine (jQ H results30 (.cons (vX tV (cs:=[_,_,_,_,_,_]) H O O (H.hp.dD 0 O O)) (.cons (fE H O) .nil)) ?_).1;exact H.rt (by rw [hfn,e2];rfl)
abbrev hd0:fH:=⟨[],⟨0,0,[],[]⟩⟩
theorem Q5 {G:GH}:jI G hd0 (.slice none 0 0) (.slice none 0 0) (.slice none 0 0):=⟨av.og O Q1,av.og O Q1,av.og O Q1⟩
theorem aBV:qW prog 128 [(0,1),(1,1),(2,1),(3,1),(4,5),(9,1),(10,1)] [.int .i64 0,.int .i64 0,.int .i64 0,.string ⟨#[]⟩,.slice none 0 0,.int .i64 0,.int .i64 0,.slice none 0 0,.slice none 0 0,.slice none 0 0,.slice none 0 0]:=⟨Z,Z⟩
theorem asa:aW 89:=aY func89 O
theorem arL:aW 30:=aY func30 O
theorem afa:aW 23:=aY func23 O
theorem arZ:aW 88:=aY func88 O
theorem aCc:Ty prog 167 2 32 [.pointer none,.slice none 0 0] true:=⟨Z,Z⟩
theorem afi:aW 64:=aY func64 O
theorem arM:aW 31:=aY func31 O
theorem ZV:ny ⟨#[120,121,122]⟩=true∧lF ⟨#[120,121,122]⟩ 0=3:=by
 have d0:jY ⟨#[120,121,122]⟩ 0=(120,1,true):=by decide
 have d1:jY ⟨#[120,121,122]⟩ 1=(121,1,true):=by decide
 have d2:jY ⟨#[120,121,122]⟩ 2=(122,1,true):=by decide
 have e3:kX ⟨#[120,121,122]⟩ 3=-1:=by rw [kX,dif_neg Q1]
 have e2:kX ⟨#[120,121,122]⟩ 2=-1:=by rw [kX,dif_pos Q1,dif_pos (by rw [d2]),d2];exact e3
 have e1:kX ⟨#[120,121,122]⟩ 1=-1:=by rw [kX,dif_pos Q1,dif_pos (by rw [d1]),d1];exact e2
 have e0:kX ⟨#[120,121,122]⟩ 0=-1:=by rw [kX,dif_pos Q1,dif_pos (by rw [d0]),d0];exact e1
 have c3:lF ⟨#[120,121,122]⟩ 3=0:=by rw [lF,ay Q1]
 have c2:lF ⟨#[120,121,122]⟩ 2=1:=by rw [lF,aH Q1,c3];decide
 have c1:lF ⟨#[120,121,122]⟩ 1=2:=by rw [lF,aH Q1,c2];decide
 have c0:lF ⟨#[120,121,122]⟩ 0=3:=by rw [lF,aH Q1,c1];decide
 exact ⟨by unfold ny;rw [e0];decide,c0⟩
theorem aCb:ny ⟨#[97]⟩=true:=by
 have d0:jY ⟨#[97]⟩ 0=(97,1,true):=by decide
 have e1:kX ⟨#[97]⟩ 1=-1:=by rw [kX,dif_neg Q1]
 have e0:kX ⟨#[97]⟩ 0=-1:=by rw [kX,dif_pos Q1,dif_pos (by rw [d0]),d0];exact e1
 unfold ny;rw [e0];decide
theorem alf:ny ⟨#[]⟩=true:=by
 have e0:kX ⟨#[]⟩ 0=-1:=by rw [kX,dif_neg Q1]
 unfold ny;rw [e0];decide
def oM:ak:=.mk 8 1 1 ⟨#[97]⟩ hd0 [] []
def nU:ak:=.mk 1 0 0 ⟨#[120,121,122]⟩ hd0 [] []
def qB:ak:=.mk 8 2 1 ⟨#[]⟩ hd0 [] []
def qU:ak:=.mk 2 0 0 ⟨#[]⟩ hd0 [] []
def mH:List ak:=[oM,nU,qB,qU]
theorem FN:eG nU=3∧sN nU=0:=by simp [eG,sN,nU,ak.kind,ak.text,ru,FT,ZV.1,ZV.2]
theorem Df:eG oM=1∧sN oM=0:=by simp [eG,sN,oM,ak.kind]
theorem LG:eG qB=1∧sN qB=0:=by simp [eG,sN,qB,ak.kind]
theorem ZY:eG qU=1∧sN qU=0:=by simp [eG,sN,qU,ak.kind]
theorem ayo:n1 nU=3:=by simp [n1,FN.1,FN.2]
theorem ayn:n1 oM=1:=by simp [n1,Df.1,Df.2]
theorem aym:n1 qB=1:=by simp [n1,LG.1,LG.2]
theorem a16:dx 0 0 mH=[⟨1,1,⟨#[97]⟩,0,0⟩,⟨2,1,⟨#[]⟩,0,4⟩]:=by
 simp only [mH,dx,Gn,ayo,ayn,aym]
 simp [oM,nU,qB,qU,ak.kind,ak.code,ak.id,ak.text]
theorem akK:Da (dx 0 0 mH) 1=[⟨1,⟨#[97]⟩,0,1,0,4⟩]:=by
 rw [a16]
 simp [Da,xQ,rF,Es,ER]
theorem aty:Nh mH ⟨#[97]⟩=some ⟨1,⟨#[97]⟩,0,1,0,4⟩:=by
 unfold Nh;rw [akK];simp
theorem aiD:zk mH=0∧sI mH=6:=by
 simp [zk,sI,xE,fU,mH,FN.1,FN.2,Df.1,Df.2,LG.1,LG.2,ZY.1,ZY.2]
theorem o16:gL 0 mH=[(0,oM),(1,nU),(4,qB),(5,qU)]:=by simp [gL,mH,Df.1,FN.1,LG.1]
theorem lf16:vP 4 mH=[oM,nU]:=by simp [vP,lA,o16,xH,Df.1,FN.1,LG.1,ZY.1]
theorem ajp:gL 0 [oM,nU]=[(0,oM),(1,nU)]:=by simp [gL,Df.1]
theorem ajR:BL 1 (vP 4 mH)=[nU]:=by rw [lf16];simp [BL,rA,ajp,xH,Df.1,FN.1]
theorem apq:F6 4 mH:=by
 intro a ha;rw [o16] at ha
 simp only [iD,List.not_mem_nil,or_false] at ha
 rcases ha with rfl|rfl|rfl|rfl <;> simp [xH,Df.1,FN.1]
theorem apr:F6 1 (vP 4 mH):=by
 rw [lf16];intro a ha;rw [ajp] at ha
 simp only [iD,List.not_mem_nil,or_false] at ha
 rcases ha with rfl|rfl <;> simp [xH,Df.1]
theorem azw:aav (BL 1 (vP 4 mH)):=by
 rw [ajR];exact ⟨Me.one (fD _),fun x hx=>by rw [qX.1 hx];exact ⟨O,O,Q1,fun _=>by rw [ByteArray.toList_eq];decide⟩⟩
theorem aAn:En mH 1 4=0:=by simp [En,aiD.1,aiD.2]
theorem atq:uz mH 0=some mH:=by simp [uz,mI]
theorem z16:aP mH<=1000:=by
 have h1:=pG oM;have h2:=pG nU;have h3:=pG qB;have h4:=pG qU
 have h0:oN hd0=5:=by simp [OT,eZ]
 have s1:oM.text.size=1:=rfl;have s2:nU.text.size=3:=rfl;have s3:qB.text.size=0:=rfl;have s4:qU.text.size=0:=rfl;rw [show oM.head=hd0 from rfl,h0,show aP oM.flow=0 from rfl,show gq oM.rows=0 from rfl] at h1;rw [show nU.head=hd0 from rfl,h0,show aP nU.flow=0 from rfl,show gq nU.rows=0 from rfl] at h2;rw [show qB.head=hd0 from rfl,h0,show aP qB.flow=0 from rfl,show gq qB.rows=0 from rfl] at h3;rw [show qU.head=hd0 from rfl,h0,show aP qU.flow=0 from rfl,show gq qU.rows=0 from rfl] at h4
 simp only [aP,mH,eP,tq,eZ]
 omega
theorem TK (C:bN) {e:Int} (h1:1<=e) (h2:e<=10):iw C e hd0=0:=by
 have h3:qZ e []=0:=by rw [qZ,cu];rfl
 simp [iw,eu,hd0,h3,zu,jR,kF,dN]
theorem ok16:fq mH:=by
 have f1:iU oM=0:=by
  have hn:wC ⟨#[97]⟩=true:=by decide
  simp [iU,oM,ak.kind,ak.code,ak.id,ak.text,ak.flow,ak.rows,codeOk,vD,vw,vT,xZ,xX,rZ,aCb,hn]
 have f2:iU nU=0:=by
  simp [iU,nU,ak.kind,ak.code,ak.id,ak.text,ak.flow,ak.rows,codeOk,vD,vw,vT,xZ,xX,rZ,ZV.1]
 have f3:iU qB=0:=by
  simp [iU,qB,ak.kind,ak.code,ak.id,ak.text,ak.flow,ak.rows,codeOk,vD,vw,vT,xZ,xX,rZ,alf]
 have f4:iU qU=0:=by
  simp [iU,qU,ak.kind,ak.code,ak.id,ak.text,ak.flow,ak.rows,codeOk,vD,vw,vT,xZ,xX,rZ,alf]
 have C:bN:=⟨[],[],[],[]⟩;have q1:∀ s:CS,pE C true false 0 oM.kind oM.id s=(0,s):=fun s=>rfl;have q2:∀ s:CS,pE C true false 0 nU.kind nU.id s=(0,s):=fun s=>rfl;have q3:∀ s:CS,pE C true false 0 qB.kind qB.id s=(0,s):=fun s=>rfl;have q4:∀ s:CS,pE C true false 0 qU.kind qU.id s=(0,s):=fun s=>rfl;have h1:iw C oM.kind oM.head=0:=TK C Q1 Q1;have h2:iw C nU.kind nU.head=0:=TK C Q1 Q1;have h3:iw C qB.kind qB.head=0:=TK C Q1 Q1;have h4:iw C qU.kind qU.head=0:=TK C Q1 Q1;refine ⟨C,true,false,0,⟨0,[]⟩,(jg C true false 0 mH ⟨0,[]⟩).2,?_⟩
 simp [mH,jg,RN,iF,f1,f2,f3,f4,q1,q2,q3,q4,h1,h2,h3,h4,show ¬ oM.kind=6 by decide,show ¬ oM.kind=7 by decide,show ¬ nU.kind=6 by decide,show ¬ nU.kind=7 by decide,show ¬ qB.kind=6 by decide,show ¬ qB.kind=7 by decide,show ¬ qU.kind=6 by decide,show ¬ qU.kind=7 by decide]
theorem afs (G:GH) (w0:World) (hG:Hold G w0) :
  Calls prog 64 #[] w0 (bG w0 G fun u G'=>∃ D:jd,u=D.val∧av G' (.sl 11 (mH.map ak.dat)) (bX D.f)):=by
 refine eN [] func64 O ntmps64 O O hG ?_;intro a H;refine dH (fun _ K1=>?_);refine dR jH H wn O ?_;clear H;intro b0 a w hb0 H;refine K1 _ _ ?_;clear K1;refine dH (fun _ K2=>?_);(iterate 4 refine kg aBV [_,_,_,_,_,_,_,_,_,_,_] H wn O O O O ?_;clear H;intro a H);refine iG eH cO [_,_,_,_,_,_,_,_,_,_,_,_,_,_,_,_,_,_,_,_,_,_,_,_,_,_,_,_,_,_,_,_,_,_,_,_,_,_,_,_,_,_,_,_] [_,_,_,_,_,_,_,_,_,_,_,_,_,_,_,_,_,_,_,_,_,_,_,_,_,_,_,_,_,_,_,_,_,_,_,_,_,_,_,_,_,_,_,_] H wn O O O O O (by intro i q h;match i,h with|0,h=>exact h|1,h=>exact h|2,h=>exact h|3,h=>exact h|n+4,h=>simp at h) O O ?_;clear H;intro b5 a w hb5 H;refine kg akU [_,_,_,_,_,_,_,_,_,_,_] H wn O O O O ?_;clear H;intro a H;refine bM jH 1 (vs:=[_,_,_,_,_,_,_,_,_,_,_]) H wn O ?_;clear H;intro w H;refine K2 _ _ ?_;clear K2;refine gu ?_;refine (leave1 H results64 (.cons (vX jH (cs:=[_,_,_,_,_,_,_,_,_,_,_]) H O O (H.hp.dD 1 O O)) .nil) ?_).1;have H:=H.dV (Pl:=[_,_]) (dL:=[_]) [0] Q1 O;obtain ⟨G3,Nz,Ea,H⟩:=H.fJ;have r1:aX G3 oM.dat _:=aX.mkItem (x:=oM) Q5 (av.og (A:=none) (n:=0) (c:=0) O Q1) (av.og (A:=none) (n:=0) (c:=0) O Q1);have r2:aX G3 nU.dat _:=aX.mkItem (x:=nU) Q5 (av.og (A:=none) (n:=0) (c:=0) O Q1) (av.og (A:=none) (n:=0) (c:=0) O Q1);have r3:aX G3 qB.dat _:=aX.mkItem (x:=qB) Q5 (av.og (A:=none) (n:=0) (c:=0) O Q1) (av.og (A:=none) (n:=0) (c:=0) O Q1);have r4:aX G3 qU.dat _:=aX.mkItem (x:=qU) Q5 (av.og (A:=none) (n:=0) (c:=0) O Q1) (av.og (A:=none) (n:=0) (c:=0) O Q1);have fZ:bT G3 11 (mH.map ak.dat) _:=(((bT.nil.snoc r1 O).snoc r2 O).snoc r3 O).snoc r4 O;exact H.rt ⟨⟨(some ⟨b5,0,none⟩,4,4),(none,0,0),(none,0,0),(none,0,0),(none,0,0),(none,0,0),(none,0,0),(none,0,0),(none,0,0),0,0⟩,O,av.vU (n:=4) (cap:=4) Ea O (fD _) (show 4<=maxLen by decide) rfl fZ⟩
set_option maxHeartbeats 1000000 in
theorem aB9 (G:GH) (w0:World) (hG:Hold G w0) (D:jd) (hv:av G (.sl 11 (mH.map ak.dat)) (bX D.f)) :
  Calls prog 31 #[D.val,.string ⟨#[97]⟩] w0 (bG w0 G fun u G'=>u=.tuple #[.string ⟨#[120,121,122]⟩,.bool true]):=by
 have hz:=z16;refine eN [(0,_),(1,_)] func31 O ntmps31 O O hG ?_;intro a H;refine dH (fun _ K1=>?_);refine eB (cs:=[_,_,_,_,_,_,_,_,_,_,_]) H wn O O O ?_;clear H;intro b2 a w hb2 H;refine kH H (Ra O (au K1 O (SQ fun _ K2=>?_)));clear H K1;intro a H;obtain ⟨Ga,hma,hb',H⟩:=H.fJ;have hga:=fun j v hj=>tC hb' 0 D.cells O j v hj;replace hv:=hv.mono hma;refine mX ?_;refine bq jH (cs:=D.cells) H wn O O (fun j v hj=>H.hp.aI (hga j v hj)) O ?_;clear H;intro a H;refine kH H (Rm O ?_);clear H;intro a H;refine s_call arL H wn O (amF _ _ H.ro D mH ⟨#[97]⟩ hv ok16 V) O ?_;clear H;rintro v18 O4 a w rfl hm18 H;rw [aty] at H;dsimp only [Option.getD_some,Option.isSome_some] at H;replace hv:=hv.mono hm18;replace hga:=fun j v hj=>aK hm18 (hga j v hj);refine kH H (Rm O ?_);clear H;intro a H;(iterate 2 refine ko H wn O O O ?_;clear H;intro a H);refine dR tV H wn O ?_;clear H;intro b6 a w hb6 H;refine bM tV 0 (vs:=[_,_,_,_,_,_]) H wn O ?_;clear H;intro w H;refine kH H (aZ K2 O (SQ fun _ K3=>SR fun _ K4=>Rm O (Rn O (Kz K4 (Cd O ?_ ?_))))) <;> clear H K2 K4
 ·intro h22 a H
  exact absurd h22 Q1
 intro h22 a H
 try have oI:=dF h22
 refine gT ?_;refine K3 _ _ ?_;clear K3;refine dH (fun _ K5=>?_);refine bq jH (cs:=D.cells) H wn O O (fun j v hj=>H.hp.aI (hga j v hj)) O ?_;clear H;intro a H;refine kH H (Rf QD O (aU Ng aD 0 O O ?_));clear H;intro a H;refine s_call afa H wn O (agi _ _ H.ro D mH 0 hv V) O ?_;clear H;rintro v28 O7 a w ⟨x28,rfl,hx28⟩ XJ H;rw [atq,Option.getD_some] at hx28;obtain ⟨A28,n28,c28,rfl⟩:=hx28.form;refine kH H (Rm O ?_);clear H;intro a H;(iterate 2 refine ko H wn O O O ?_;clear H;intro a H);refine kH H (Ra O (au K5 O (SR fun _ K6=>Rm O (Rf QD O (aU Cm aD 0 O O (Rf QE O (aU Cm aD 0 O O ?_)))))));clear H K5;intro a H;refine s_call arZ H wn O (aBG _ _ H.ro mH 1 4 _ hx28 V aAn apq apr azw) O ?_;clear H;rintro v39 O9 a w ⟨x39,rfl,hx39⟩ XK H;rw [ajR] at hx39;obtain ⟨A39,n39,c39,rfl⟩:=hx39.form;obtain rfl:n39=1:=hx39.len;refine kH H (Rm O ?_);clear H;intro a H;(iterate 2 refine ko H wn O O O ?_;clear H;intro a H);refine kH H (Ra O (au K6 O (SR fun _ K7=>?_)));clear H K6;intro a H;refine dR aCc H wn O ?_;clear H;intro b12 a w D9 H;refine K7 _ _ ?_;clear K7;refine kP H (SQ fun _ K8=>SR fun _ K9=>Rm O (Rl eH O (Rm O (Kz K9 (SB ?_)))));clear H K9;intro a H;skip;refine eO (ι:=Nat × ah × ah × Nat × OL) (Tc:=[(12,_),(42,_),(43,_)]) (Lc:=[(_,_)]) (fun gh=>[(44,vi gh.1)]) (fun gh=>[bB b12 gh.2.1 gh.2.2.1]++gh.2.2.2.2) (fun gh=>O9) (fun gh=>gh.1<=1∧(gh.1=0->gh.2.1=.pointer none∧gh.2.2.1=.slice none 0 0∧gh.2.2.2.2=[])∧(gh.1=1->gh.2.1=(aJ b12 0)∧bV 5 1 gh.2.2.1 3 (Lib.byteCells [120,121,122]) gh.2.2.2.2)) (fun gh=>1 - gh.1) ((0,.pointer none,.slice none 0 0,0,[])) (by exact (H.dV (Pl:=[_,_]) (dL:=[_,_]) [1,0] Q1 O).sub ⟨O,O,O,O,aB⟩) ?_ ?_
 ·exact ⟨V,fun _=>⟨O,O,O⟩,fun h=>absurd h Q1⟩
 clear H;rintro ⟨k,p,v,n,Lo⟩ a w hI H;dsimp only at hI H;obtain ⟨hk,hk0,hk1⟩:=hI;dsimp only [lca,bD] at H;refine kP H (SR fun _ aT=>Rc O (Kz aT (SQ fun _ bJ=>Cd O ?_ ?_))) <;> clear H aT
 ·intro h45 a H
  try have p45:=dT h45
  obtain rfl:k=0:=by omega
  obtain ⟨rfl,rfl,rfl⟩:=hk0 O;obtain ⟨b,o,pA,pn,pc,dA,dn,dc,yA,yn,yc,fA,fn,fc,rA,rn,rc,rfl,hrow,hhd,hfl,hrw⟩:=zT (l:=[nU]) (k:=0) Q1 hx39.at_;refine kP H (Kc bJ (SQ fun _ bO=>SB (SR fun _ bU=>Ri eH cO O O ?_)));clear H bJ;intro a H;refine bq cO (cs:=[_,_,_,_,_,_,_,_,_,_,_]) H wn O O (fun j v hj=>H.hp.aI (hrow j v hj)) O ?_;clear H;intro a H;refine dR cO H wn O ?_;clear H;intro b14 a w QV H;refine bM cO 0 (vs:=[_,_,_,_,_,_,_,_,_,_,_]) H wn O ?_;clear H;intro w H;refine bU _ _ ?_;clear bU;refine kP H (SR fun _ bZ=>aU iL aD 0 O O (Rc O (Kz bZ (Cd O ?_ ?_)))) <;> clear H bZ
  ·intro h50 a H
   try have p50:=dT h50
   refine kP H (SC (aU rC gV 0 O O ?_));clear H;intro a H;refine gD asa (Li:=[_,_]) (L:=bB b12 (.pointer none) (.slice none 0 0) :: []) H wn O (aCP _ _ _ b12 (.pointer none) (.slice none 0 0) 0 [] ⟨#[120,121,122]⟩ (.inl O) (Hp.owns (Li:=[_,_]) H.hp) bV.nil Q1) O ?_;clear H;rintro v_ _ L53 a w ⟨v53,amn,rfl,awz,rfl⟩ aDQ H;refine kH H (Kn bO (SC (Rd O (Rm O ?_))));clear H bO;intro a H;refine aF ?_;refine dS ((1,(aJ b12 0),v53,0,amn)) (by exact (H.dV (Pl:=[_,_,_]) (dL:=[_,_]) [1,2] Q1 O).sub ⟨O,O,O,O,aB⟩) ?_
   (try dsimp only);exact ⟨V,fun h=>absurd h V,fun _=>⟨O,awz⟩⟩
  intro h50 a H
  exact absurd h50 Q1
 intro h45 a H
 try have p45:=dF h45
 obtain rfl:k=1:=by omega
 obtain ⟨rfl,hrw3⟩:=hk1 O;refine dX ?_;refine K8 _ _ ?_;clear K8;refine dH (fun _ dP=>?_);refine gD afp (Li:=[_]) (L:=bB b12 _ v :: Lo) H wn O (aB3 _ _ _ b12 _ v [120,121,122] (Hp.owns (Li:=[_]) H.hp) hrw3 Q1) O ?_;clear H;rintro v55 LW L55 a w rfl Aa H;refine kH H (Ra O (au dP O ?_));clear H dP;intro a H;refine gu ?_;refine (jQ H results31 (.cons (fE H O) (.cons (fE H O) .nil)) ?_).1;exact EJ
theorem aiC (G:GH) (w0:World) (hG:Hold G w0):Calls prog 18 #[] w0 (bG w0 G fun u G'=>u=.bool true):=by
 have hz:=z16;refine eN [] func18 O ntmps18 O O hG ?_;intro a H;refine kP H (SR fun _ K1=>au K1 O (SR fun _ K2=>?_));clear H K1;intro a H;refine s_call afi H wn O (afs _ _ H.ro) O ?_;clear H;rintro v4 G4 a w ⟨D4,rfl,hv4⟩ Kl H;refine s_call afh H wn O (adB _ _ H.ro D4 mH hv4 ok16 V) O ?_;clear H;rintro v5 G5 a w hr XM H;rw [akK] at hr;obtain ⟨A5,n5,c5,rfl⟩:=hr.form;obtain rfl:n5=1:=hr.len;obtain ⟨b,o,rfl,hrow⟩:=ZJ (A:=[⟨1,⟨#[97]⟩,0,1,0,4⟩]) (k:=0) hr Q1;refine kH H (au K2 O (SR fun _ K3=>?_));clear H K2;intro a H;refine s_call afi H wn O (afs _ _ H.ro) O ?_;clear H;rintro v7 G7 a w ⟨D7,rfl,hv7⟩ Cu H;refine s_call arM H wn O (aB9 _ _ H.ro D7 hv7) O ?_;clear H;rintro v8 G8 a w rfl Cv H;refine kH H (Rm O ?_);clear H;intro a H;(iterate 2 refine ko H wn O O O ?_;clear H;intro a H);refine kH H (Ra O (au K3 O (SR fun _ K4=>Rm O (Rl IU O (Rc O (Rm O (Sp 14 O ?_ ?_))))))) <;> clear H K3
 ·intro eD a H
  try have lJ:=dT eD
  refine kH H (YM eD O ?_);clear H;intro a H;refine Ld IU tV 0 H (wg H O O eD) O O O Q1 O ?_;clear H;intro a H;refine bq tV (cs:=[vi 1,.string ⟨#[97]⟩,vi 0,vi 1,vi 0,vi 4]) H (wg H O O eD) O O (fun j v hj=>H.hp.aI (aK Cv (aK Cu (hrow j v hj)))) O ?_;clear H;intro a H;(iterate 2 refine kg ZL [_,_] H (wg H O O eD) O O O O ?_;clear H;intro a H);refine kg ZM [_,_,_,_,_,_] H (wg H O O eD) O O O O ?_;clear H;intro a H;refine aAW asw H (wg H O O eD) O O O O ?_;clear H;intro a H;refine kH H (Pt eD O (Rm O (Sp 23 O ?_ ?_))) <;> clear H
  ·intro h23 a H
   try have qL:=dT h23
   refine kH H (YM h23 O ?_);clear H;intro a H;refine CW H (wg H O O h23) O O O ?_;clear H;intro a H;refine kH H (Pt h23 O (Rm O (Sp 27 O ?_ ?_))) <;> clear H
   ·intro h27 a H
    exact kH H (YM h27 O (Pt h27 O (au K4 O (LR results18 O fun H=>H.rt O))))
   intro h27 a H
   try have p27:=dF h27
   exact absurd h27 (by first|decide|simp [jN,kY])
  intro h23 a H
  try have qL:=dF h23
  exact absurd h23 (by first|decide|simp [jN,kY])
 intro eD a H
 exact absurd eD Q1
theorem Wv:aW 65:=aY func65 O
theorem aeK:aW 12:=aY func12 O
abbrev Du (b:Nat) (n:Int):Nat × Obj:=(b,.cells #[vi n] 3 (0,0))
def SmQ (bl:Nat) (left:Int) (z:Nat) (u:ah) (_:GH) (L':OL):Prop:=∃ b lf,u=.bool b∧L'=[Du bl lf]∧left - (z:Int)<=lf∧lf<=left
def Us (n:Nat):Prop:=∀ (G:GH) (w0:World) (l:List ak) (v:ah) (KN left:Int) (bl:Nat),fM G [Du bl left] w0->av G (.sl 11 (l.map ak.dat)) v->aP l < n->0<=KN->KN<=1000->left<=1000->-1000000000000<=left - (aP l:Int) ->
 Calls prog 65 #[v,vi KN,(aJ bl 0)] w0 (fB w0 G [Du bl left] (SmQ bl left (aP l)))
theorem amb (l m:List aM):gq (l++m)=gq l+gq m:=by simp [gq,LA]
theorem alW (l m:List aN):iA (l++m)=iA l+iA m:=by simp [iA,LA]
theorem aCU {l:List ak} {k:Nat} (h:k < l.length):aP (l.take (k+1))=aP (l.take k)+(1+bY l[k].dat):=by rw [jk h,aCT];simp [aP,eZ]
theorem aCX {l:List aM} {k:Nat} (h:k < l.length):gq (l.take (k+1))=gq (l.take k)+(1+bY l[k].dat):=by rw [jk h,amb];simp [gq,eZ]
theorem aCS {l:List aN} {k:Nat} (h:k < l.length):iA (l.take (k+1))=iA (l.take k)+(1+bY l[k].dat):=by rw [jk h,alW];simp [iA,eZ]
theorem ama (l:List ak) (k:Nat):aP (l.take k)<=aP l:=OU (List.take_sublist k l)
theorem amd (l:List aM) (k:Nat):gq (l.take k)<=gq l:=by
 have:=amb (l.take k) (l.drop k);rw [List.take_append_drop] at this;omega
theorem alY (l:List aN) (k:Nat):iA (l.take k)<=iA l:=by
 have:=alW (l.take k) (l.drop k);rw [List.take_append_drop] at this;omega
set_option maxHeartbeats 4000000 in
theorem aBI {n:Nat} (ih:Us n) (hn:n<=4294967296):Us (n+1):=by
 intro G w0 l v KN left bl hO hv hz hl0 hl1 hf1 hf0;obtain ⟨A,c,rfl,hc1,hc2,hg⟩:=hv.slice;rw [bR] at *;have hll:=Au l;refine iB (N:=133) (T:=[(0,_),(1,_),(2,_)]) func65 O ntmps65 O O hO ?_;intro a H;refine kP H (SR fun _ K1=>au K1 O (SQ fun _ K2=>SR fun _ K3=>au K3 O (SB ?_)));clear H K1 K3;intro a H;skip;refine eO (ι:=Nat × Int × GH) (Tc:=[(0,_),(1,_),(2,_)]) (Lc:=[]) (fun gh=>[(7,vi gh.1)]) (fun gh=>[Du bl gh.2.1]) (fun gh=>gh.2.2) (fun gh=>gh.1<=l.length∧left - (aP (l.take gh.1):Int)<=gh.2.1∧gh.2.1<=left∧(∀ b o,G b=some o->gh.2.2 b=some o)) (fun gh=>l.length - gh.1) ((0,left,G)) (by exact H.sub ⟨O,O,O,O,aB⟩) ?_ ?_
 ·exact ⟨V,by show left - ((0:Nat):Int)<=left;omega,Int.le_refl _,fun _ _ h=>h⟩
 clear H;rintro ⟨k,lf,g⟩ a w hI H;dsimp only at hI H;obtain ⟨hk,hlo,hhi,hgm⟩:=hI;have hzk:=ama l k;dsimp only [lca,bD] at H;refine kP H (SQ fun _ K4=>SR fun _ K5=>Rm O (Rm O (Rl eH O (Rc O (Kz K5 (Cd O ?_ ?_)))))) <;> clear H K5
 ·intro fT a H
  try have pz:=dT fT
  have hk2:k < l.length:=by omega
  obtain ⟨b,o,pA,pn,pc,dA,dn,dc,yA,yn,yc,fA,fn,fc,rA,rn,rc,rfl,hrow,hhd,hfl,hrw⟩:=zT hk2 hg;have hrn:=hrw.len;rw [bR] at hrn;subst hrn;have r3:aI g b (o+k*11+3)=some (.string l[k].text):=aK hgm (hrow 3 _ O);have r4:aI g b (o+k*11+4+0)=some (.slice pA pn pc):=aK hgm (hrow 4 _ O);have r9:aI g b (o+k*11+9)=some (.slice fA fn fc):=aK hgm (hrow 9 _ O);have Zi:aI g b (o+k*11+10)=some (.slice rA l[k].rows.length rc):=aK hgm (hrow 10 _ O);have hzi:=pG l[k];have hzs:=aCU hk2;have hzt:=ama l (k+1);refine kP H (Kc K4 (SQ fun _ K6=>SB (SR fun _ K7=>Rm O (Rk O (Ro aD 0 O (Rs O (Rk O ?_)))))));clear H K4;intro a H;refine bM aD 0 (vs:=[_]) H wn O ?_;clear H;intro w H;refine K7 _ _ ?_;clear K7;refine kP H (SQ fun _ K8=>SR fun _ K9=>Rm O (Rk O (Ro aD 0 O (Rc O (Rm O (Sp 25 O ?_ ?_)))))) <;> clear H
  ·intro nW a H
   try have p25:=dT nW
   refine kH H (aR nW O (Pt nW O (Rm O (bg O O (aR O O (aR O O (Pt O O (Rm O (bg O O (bg O O (aR O O (Pt O O (Rm O (bg O O (aR O O (aR O O (Pt O O (Rm O (bg O O (bg O O (aR O O (aR O O ?_))))))))))))))))))))));clear H;intro a H;exact kH H (Pt O O (Kz K9 (Ct O O (SR fun _ aT=>au aT O (LR results65 O fun H=>H.hp.gI ⟨_,_,O,O,V,V⟩)))))
  intro nW a H
  try have p25:=dF nW
  refine kH H (YM nW O (YC nW O (Pf nW O (Rm O (Sp 29 O ?_ ?_))))) <;> clear H
  ·intro kS a H
   try have p29:=dT kS
   refine kH H (bg kS O (aR kS O (aR kS O (Pt kS O (Rm O (bg O O (bg O O (aR O O (Pt O O (Rm O (bg O O (aR O O (aR O O (Pt O O (Rm O (bg O O (bg O O (aR O O (aR O O (Pt O O (Kz K9 ?_)))))))))))))))))))));clear H K9;intro a H;refine AV H O O ?_;exact kP H (SR fun _ bJ=>au bJ O (LR results65 O fun H=>H.hp.gI ⟨_,_,O,O,V,V⟩))
  intro kS a H
  try have p29:=dF kS
  refine kH H (YM kS O (YM kS O (YI eH cO kS O O (YF rC kS O (YR gV kS O (by assumption) ?_)))));clear H;intro a H;refine FE iI H (wg H O O kS) O O ?_;clear H;intro a H;refine kH H (YC kS O (Pf kS O (Rm O (Sp 38 O ?_ ?_)))) <;> clear H
  ·intro jq a H
   try have p38:=dT jq
   exact kH H (bg jq O (bg jq O (aR jq O (Pt jq O (Rm O (bg O O (aR O O (aR O O (Pt O O (Rm O (bg O O (bg O O (aR O O (aR O O (Pt O O (Kz K9 (Ct O O (SR fun _ bO=>au bO O (LR results65 O fun H=>H.hp.gI ⟨_,_,O,O,V,V⟩)))))))))))))))))))
  intro jq a H
  try have p38:=dF jq
  refine kH H (YM jq O (YM jq O (YI eH cO jq O O (YF uq jq O (YF GZ jq O (YR BS jq O (by assumption) ?_))))));clear H;intro a H;refine kH H (YL rO jq O (YC jq O (Pf jq O (Rm O (Sp 48 O ?_ ?_))))) <;> clear H
  ·intro h48 a H
   try have p48:=dT h48
   exact kH H (bg h48 O (aR h48 O (aR h48 O (Pt h48 O (Rm O (bg O O (bg O O (aR O O (aR O O (Pt O O (Kz K9 (Ct O O (SR fun _ bU=>au bU O (LR results65 O fun H=>H.hp.gI ⟨_,_,O,O,V,V⟩))))))))))))))
  intro h48 a H
  try have p48:=dF h48
  refine kH H (YM h48 O (YM h48 O (YI eH cO h48 O O (YF pR h48 O (YR oq h48 O (by assumption) ?_)))));clear H;intro a H;refine kH H (YL jS h48 O (YC h48 O (Pf h48 O (Rm O (Sp 57 O ?_ ?_))))) <;> clear H
  ·intro h57 a H
   try have p57:=dT h57
   exact kH H (bg h57 O (bg h57 O (aR h57 O (aR h57 O (Pt h57 O (Kz K9 (Ct O O (SR fun _ bZ=>au bZ O (LR results65 O fun H=>H.hp.gI ⟨_,_,O,O,V,V⟩)))))))))
  intro h57 a H
  try have p57:=dF h57
  refine kH H (YM h57 O (YM h57 O (YI eH cO h57 O O (YF uw h57 O (YR fC h57 O (by assumption) ?_)))));clear H;intro a H;refine kH H (YM h57 O ?_);clear H;intro a H;refine BN _ H (wg H O O h57) O O O V V O ?_;clear H;intro a H;refine kH H (YM h57 O ?_);clear H;intro a H;refine gD Wv (Li:=[]) (L:=[Du bl _]) H (wg H O O h57) O (ih _ _ l[k].flow _ (KN - 1) _ bl (Hp.owns (Li:=[]) H.hp) (hfl.mono hgm) V V V V V) O ?_;clear H;rintro v66 G66 L66 a w ⟨b66,lf66,rfl,rfl,aDL,aDI⟩ ahf H;dsimp only [List.nil_append] at H;replace Zi:=aK ahf Zi;have avy:=fun b o h=>ahf b o (hgm b o h);refine kH H (YN h57 O (Pf h57 O (Kz K9 (Cd O ?_ ?_)))) <;> clear H K9
  ·intro h68 a H
   try have p68:=dT h68
   exact kP H (SR fun _ dP=>au dP O (LR results65 O fun H=>H.hp.gI ⟨_,_,O,O,V,V⟩))
  intro h68 a H
  try have p68:=dF h68
  refine kP H (Kc K8 (SR fun _ dY=>au dY O (SB ?_)));clear H K8 dY;intro a H;skip;refine eO (ι:=Nat × Int × GH) (Tc:=[(0,_),(1,_),(2,_),(7,_)]) (Lc:=[]) (fun gh=>[(8,vi gh.1)]) (fun gh=>[Du bl gh.2.1]) (fun gh=>gh.2.2) (fun gh=>gh.1<=l[k].rows.length∧lf66 - (gq (l[k].rows.take gh.1):Int)<=gh.2.1∧gh.2.1<=lf66∧(∀ b o,G b=some o->gh.2.2 b=some o)∧aI gh.2.2 b (o+k*11+10)=some (.slice rA l[k].rows.length rc)) (fun gh=>l[k].rows.length - gh.1) ((0,lf66,G66)) (by exact H.sub ⟨O,O,O,O,O,aB⟩) ?_ ?_
  ·exact ⟨V,by show lf66 - ((0:Nat):Int)<=lf66;omega,Int.le_refl _,avy,Zi⟩
  clear H;rintro ⟨j,lf2,g2⟩ a w hI H;dsimp only at hI H;obtain ⟨hj,hlo2,hhi2,mM,q10⟩:=hI;have aD4:=amd l[k].rows j;dsimp only [lca,bD] at H;refine kP H (SQ fun _ dQ=>SR fun _ eX=>Rm O (Rm O (Rm O (Ri eH cO O O (Rf pR O (Rg oq O (by assumption) ?_))))));clear H;intro a H;refine kH H (Rl jS O (Rc O (Kz eX (Cd O ?_ ?_)))) <;> clear H eX
  ·intro DZ a H
   try have Zc:=dT DZ
   have hj2:j < l[k].rows.length:=by omega
   obtain ⟨b2,o2,uA,un,uc,eA,en,ec,zA,zn,zc,cA,cn,cc,rfl,hrow2,Ac,hcl⟩:=IB hj2 (hrw.mono mM).at_;have hcn:=hcl.len;rw [bR] at hcn;subst hcn;have t5:aI g2 b2 (o2+j*6+5)=some (.slice cA l[k].rows[j].cells.length cc):=hrow2 5 _ O;have aD2:=Av l[k].rows[j];have aD6:=aCX hj2;have aD8:=amd l[k].rows (j+1);refine kP H (Kc dQ (SQ fun _ gM=>SB (SQ fun _ fI=>SR fun _ gQ=>Rm O (Rm O (Ri eH cO O O (Rf pR O (Rg oq O (by assumption) ?_)))))));clear H dQ;intro a H;refine kH H (Rm O (Ri jS ig O O (Rf uy O (Rg rM O (by assumption) ?_))));clear H;intro a H;refine kH H (Rl kQ O (Rc O (Kz gQ (Cd O ?_ ?_)))) <;> clear H gQ
   ·intro Xd a H
    try have p89:=dT Xd
    exact kP H (SR fun _ jw=>au jw O (LR results65 O fun H=>H.hp.gI ⟨_,_,O,O,V,V⟩))
   intro Xd a H
   try have p89:=dF Xd
   refine kP H (Kc fI (SR fun _ kK=>au kK O (SB ?_)));clear H fI kK;intro a H;skip;refine eO (ι:=Nat × Int × GH) (Tc:=[(0,_),(1,_),(2,_),(7,_),(8,_)]) (Lc:=[]) (fun gh=>[(9,vi gh.1)]) (fun gh=>[Du bl gh.2.1]) (fun gh=>gh.2.2) (fun gh=>gh.1<=l[k].rows[j].cells.length∧lf2 - (iA (l[k].rows[j].cells.take gh.1):Int)<=gh.2.1∧gh.2.1<=lf2∧(∀ b o,G b=some o->gh.2.2 b=some o)∧aI gh.2.2 b (o+k*11+10)=some (.slice (some ⟨b2,o2,none⟩) l[k].rows.length rc)∧aI gh.2.2 b2 (o2+j*6+5)=some (.slice cA l[k].rows[j].cells.length cc)∧(∀ b o,g2 b=some o->gh.2.2 b=some o)) (fun gh=>l[k].rows[j].cells.length - gh.1) ((0,lf2,g2)) (by exact H.sub ⟨O,O,O,O,O,O,aB⟩) ?_ ?_
   ·exact ⟨V,by show lf2 - ((0:Nat):Int)<=lf2;omega,Int.le_refl _,mM,q10,t5,fun _ _ h=>h⟩
   clear H;rintro ⟨m,lf3,g3⟩ a w hI H;dsimp only at hI H;obtain ⟨hm,hlo3,hhi3,yX,s10,s5,agW⟩:=hI;have aD5:=alY l[k].rows[j].cells m;dsimp only [lca,bD] at H;refine kP H (SQ fun _ kD=>SR fun _ jF=>Rm O (Rm O (Rm O (Ri eH cO O O (Rf pR O (Rg oq O (by assumption) ?_))))));clear H;intro a H;refine kH H (Rm O (Ri jS ig O O (Rf uy O (Rg rM O (by assumption) ?_))));clear H;intro a H;refine kH H (Rl kQ O (Rc O (Kz jF (Cd O ?_ ?_)))) <;> clear H jF
   ·intro WV a H
    try have azi:=dT WV
    have hm2:m < l[k].rows[j].cells.length:=by omega
    obtain ⟨b3,o3,x1,x2,x3,x4,x5,x6,x7,x8,x9,gA,gn,gc,rfl,hrow3,hch,hcf⟩:=JD hm2 (hcl.mono agW).at_;have u6:aI g3 b3 (o3+m*7+6)=some (.slice gA gn gc):=hrow3 6 _ O;have aD3:=Ar l[k].rows[j].cells[m];have aD7:=aCS hm2;have aD9:=alY l[k].rows[j].cells (m+1);refine kP H (Kc kD (SQ fun _ kR=>SB (SR fun _ lN=>Rm O (Rk O (Ro aD 0 O (Rs O (Rk O ?_)))))));clear H kD;intro a H;refine bM aD 0 (vs:=[_]) H wn O ?_;clear H;intro w H;refine lN _ _ ?_;clear lN;refine kP H (SR fun _ jJ=>Rm O (Rk O (Ro aD 0 O (Rc O (Rm O (Sp 113 O ?_ ?_)))))) <;> clear H
    ·intro mK a H
     try have azk:=dT mK
     exact kH H (bg mK O (bg mK O (bg mK O (bg mK O (bg mK O (bg mK O (Pt mK O (Kz jJ (Ct O O (SR fun _ qV=>au qV O (LR results65 O fun H=>H.hp.gI ⟨_,_,O,O,V,V⟩)))))))))))
    intro mK a H
    try have azk:=dF mK
    refine kH H (YM mK O (YM mK O (YI eH cO mK O O (YF pR mK O (YR oq mK O (by assumption) ?_)))));clear H;intro a H;refine kH H (YM mK O (YI jS ig mK O O (YF uy mK O (YR rM mK O (by assumption) ?_))));clear H;intro a H;refine kH H (YM mK O (YI kQ iN mK O O (YF DK mK O (YR fC mK O (by assumption) ?_))));clear H;intro a H;refine kH H (YM mK O ?_);clear H;intro a H;refine BN _ H (wg H O O mK) O O O V V O ?_;clear H;intro a H;refine kH H (YM mK O ?_);clear H;intro a H;refine gD Wv (Li:=[]) (L:=[Du bl _]) H (wg H O O mK) O (ih _ _ l[k].rows[j].cells[m].flow _ (KN - 1) _ bl (Hp.owns (Li:=[]) H.hp) hcf V V V V V) O ?_;clear H;rintro v130 amj aDa a w ⟨aDc,axR,rfl,rfl,aDK,aDH⟩ Rj H;dsimp only [List.nil_append] at H;refine kH H (YN mK O (Pf mK O (Kz jJ (Cd O ?_ ?_)))) <;> clear H jJ
    ·intro sF a H
     try have Sm:=dT sF
     exact kP H (SR fun _ rT=>au rT O (LR results65 O fun H=>H.hp.gI ⟨_,_,O,O,V,V⟩))
    intro sF a H
    try have Sm:=dF sF
    refine kP H (Kc kR (SC (Rm O (Rd O (Ra O ?_)))));clear H kR;intro a H;refine aF ?_;refine dS ((m+1,axR,amj)) (by exact H.sub ⟨O,O,O,O,O,O,aB⟩) ?_
    (try dsimp only);exact ⟨V,V,V,fun b o h=>Rj b o (yX b o h),aK Rj s10,aK Rj s5,fun b o h=>Rj b o (agW b o h)⟩
   intro WV a H
   try have azi:=dF WV
   refine dX ?_;refine gM _ _ ?_;clear gM;refine kP H (SC (Rm O (Rd O (Ra O ?_))));clear H;intro a H;refine aF ?_;refine dS ((j+1,lf3,g3)) (by exact H.sub ⟨O,O,O,O,O,aB⟩) ?_
   (try dsimp only);exact ⟨V,V,V,yX,s10⟩
  intro DZ a H
  try have Zc:=dF DZ
  refine dX ?_;refine K6 _ _ ?_;clear K6;refine kP H (SC (Rm O (Rd O (Ra O ?_))));clear H;intro a H;refine aF ?_;refine dS ((k+1,lf2,g2)) (by exact H.sub ⟨O,O,O,O,aB⟩) ?_
  (try dsimp only);exact ⟨V,V,V,mM⟩
 intro fT a H
 try have pz:=dF fT
 refine dX ?_;refine K2 _ _ ?_;clear K2;exact kP H (SR fun _ sQ=>au sQ O (LR results65 O fun H=>H.hp.gI ⟨_,_,O,O,V,V⟩))
theorem akG:∀ n:Nat,n<=4294967296->Us n
 | 0,_=>fun _ _ _ _ _ _ _ _ _ hz=>absurd hz (Nat.not_lt_zero _)
 | n+1,h=>aBI (akG n V) V
theorem aBH (G:GH) (w0:World) (hG:Hold G w0) (D:jd) (d:jD) (hR:mU G D d) (hz:sP d) :
  Calls prog 19 #[D.val] w0 (bG w0 G fun u G'=>∃ b,u=.bool b∧(b=true->jo d=0)):=by
 have Ei:=hz.fl;refine eN [(0,_)] func19 O ntmps19 O O hG ?_;intro a H;refine dH (fun _ K1=>?_);refine eB (cs:=[_,_,_,_,_,_,_,_,_,_,_]) H wn O O O ?_;clear H;intro b1 a w hb1 H;refine kH H (au K1 O (SQ fun _ K2=>?_));clear H K1;intro a H;obtain ⟨Ga,hma,hb1',H⟩:=H.fJ;have hga:=fun j v hj=>tC hb1' 0 D.cells O j v hj;have hgs:=fun j v hj=>tC hb1' 7 [bX D.s1,bX D.s2,bX D.s3,bX D.s4] O j v hj
 have hgr:aI Ga b1 6=some (bX D.r):=by unfold aI;rw [hb1'];rfl
 have hgf:aI Ga b1 0=some (bX D.f):=by unfold aI;rw [hb1'];rfl
 replace hR:=hR.mono hma;refine mX ?_;refine dR aD H wn O ?_;clear H;intro b3 a w hb3 H;refine bM aD 0 (vs:=[_]) H wn O ?_;clear H;intro w H;refine kH H (Kn K2 (SR fun _ K3=>Rf Nf O ?_));clear H K2;intro a H;refine bq BX (cs:=[bX D.s1,bX D.s2,bX D.s3,bX D.s4]) H wn O O (fun j v hj=>H.hp.aI (hgs j v hj)) O ?_;clear H;intro a H;refine dR BX H wn O ?_;clear H;intro b4 a w hb4 H;refine bM BX 0 (vs:=[_,_,_,_]) H wn O ?_;clear H;intro w H;refine K3 _ _ ?_;clear K3;refine kP H (SR fun _ K4=>aU WB FM 0 O O (Rl Ao O (Rc O (Rm O (Sp 11 O ?_ ?_))))) <;> clear H
 ·intro h11 a H
  try have qp:=dT h11
  refine kH H (YF JU h11 O (YO sM 0 h11 O (YL mq h11 O (YC h11 O (Pt h11 O (Rm O (Sp 17 O ?_ ?_))))))) <;> clear H
  ·intro cK a H
   try have kI:=dT cK
   refine kH H (YF JV cK O (YO Dc 0 cK O (YL xY cK O (YC cK O (Pt cK O (Rm O (Sp 23 O ?_ ?_))))))) <;> clear H
   ·intro h23 a H
    try have qL:=dT h23
    refine kH H (YF WC h23 O (YO zD 0 h23 O (YL wX h23 O (YC h23 O (Pt h23 O (Rm O (Sp 29 O ?_ ?_))))))) <;> clear H
    ·intro kS a H
     try have p29:=dT kS
     refine kH H (YF JX kS O (YR BU kS O (by assumption) ?_));clear H;intro a H;refine kH H (YL rQ kS O (YC kS O (Pt kS O (Rm O (Sp 35 O ?_ ?_))))) <;> clear H
     ·intro iV a H
      try have p35:=dT iV
      refine kH H (YF wJ iV O (YR fC iV O (by assumption) ?_));clear H;intro a H;refine gD Wv (Li:=[_]) (L:=[Du b3 150]) H (wg H O O iV) O (akG 4294967296 (fD _) _ _ d.flow _ 12 150 b3 (Hp.owns (Li:=[_]) H.hp) hR.fl V Q1 Q1 Q1 V) O ?_;clear H;rintro v38 O8 L38 a w ⟨b38,lf38,rfl,rfl,-,-⟩ H7 H;refine kH H (Pt iV O (Rm O (Sp 40 O ?_ ?_))) <;> clear H
      ·intro nK a H
       try have p40:=dT nK
       refine bq jH (cs:=D.cells) H (wg H O O nK) O O (fun j v hj=>H.hp.aI (aK H7 (hga j v hj))) O ?_;clear H;intro a H;refine s_call aeK H (wg H O O nK) O (adQ _ _ H.ro D d (hR.mono H7) hz) O ?_;clear H;rintro v42 Uc a w rfl ahd H;exact kH H (YC nK O (Pt nK O (au K4 O (LR results19 O fun H=>H.rt ⟨_,O,fun h=>by first|assumption|(simp_all;done)⟩))))
      intro nK a H
      try have p40:=dF nK
      exact kH H (bg nK O (Pf nK O (au K4 O (LR results19 O fun H=>H.rt ⟨_,O,fun h=>by first|assumption|(simp_all;done)⟩))))
     intro iV a H
     try have p35:=dF iV
     exact kH H (bg iV O (Pf iV O (Rm O (bg O O (Pf O O (au K4 O (LR results19 O fun H=>H.rt ⟨_,O,fun h=>by first|assumption|(simp_all;done)⟩)))))))
    intro kS a H
    try have p29:=dF kS
    exact kH H (aR kS O (aR kS O (Pf kS O (Rm O (bg O O (Pf O O (Rm O (bg O O (Pf O O (au K4 O (LR results19 O fun H=>H.rt ⟨_,O,fun h=>by first|assumption|(simp_all;done)⟩)))))))))))
   intro h23 a H
   try have qL:=dF h23
   exact kH H (aR h23 O (aR h23 O (Pf h23 O (Rm O (aR O O (aR O O (Pf O O (Rm O (bg O O (Pf O O (Rm O (bg O O (Pf O O (au K4 O (LR results19 O fun H=>H.rt ⟨_,O,fun h=>by first|assumption|(simp_all;done)⟩)))))))))))))))
  intro cK a H
  try have kI:=dF cK
  exact kH H (aR cK O (aR cK O (Pf cK O (Rm O (aR O O (aR O O (Pf O O (Rm O (aR O O (aR O O (Pf O O (Rm O (bg O O (Pf O O (Rm O (bg O O (Pf O O (au K4 O (LR results19 O fun H=>H.rt ⟨_,O,fun h=>by first|assumption|(simp_all;done)⟩)))))))))))))))))))
 intro h11 a H
 try have qp:=dF h11
 exact kH H (aR h11 O (aR h11 O (Pf h11 O (Rm O (aR O O (aR O O (Pf O O (Rm O (aR O O (aR O O (Pf O O (Rm O (aR O O (aR O O (Pf O O (Rm O (bg O O (Pf O O (Rm O (bg O O (Pf O O (au K4 O (LR results19 O fun H=>H.rt ⟨_,O,fun h=>by first|assumption|(simp_all;done)⟩)))))))))))))))))))))))
section
section
variable {N:Nat} {D:List Deferred} {w0:World} {F:Nat->Prop} {G0 G G1 G2:GH} {L L1 L2:OL} {T Xs:List (Nat × ah)}
variable {r:Option Nat} {P:Program} {Q:Exit->Act->World->Prop} {l:List Oper} {a a':Act} {w w':World}
theorem aoa {id:Nat} {κ:Type} (hm:P.follows .mixedOrders=true) (bS:List (List Nat)) (B:List Nat) (hk:yL l bS=true) (hB:zB l bS B=true) (m:Nat) (XP:B.contains m=false) (pr:Nat->ah->GH->Prop) (ix:Nat) (ob:κ->Nat × Obj) (J:κ->GH->Prop) (hJ:∀ k (G G':GH),(∀ b o,G b=some o->G' b=some o)->J k G->J k G')
  (H:St N D w0 F G0 G L T a w)
  (hstep:allI (fun i o=>∀ S a w G1,B.contains i=false->Nat.beq i m=false->S i=false->(∀ j∈bS.getD i [],S j=true)->(∀ k o,G k=some o->G1 k=some o)->St N D w0 F G0 G1 L T a w->(∀ i d,S i=true->dZ l i=some d->∃ v,a.tmps[d]?=some v∧pr i v G1) ->
   WL r P l.toArray (fun e a' w'=>e=.normal∧DX N D w0 F G0 G L T l pr (dO S i) a' w') [o] a w) 0 l)
  (hmid:∀ o S a w G1,l[m]?=some o->S m=false->(∀ j∈bS.getD m [],S j=true)->(∀ k o,G k=some o->G1 k=some o)->St N D w0 F G0 G1 L T a w->(∀ i d,S i=true->dZ l i=some d->∃ v,a.tmps[d]?=some v∧pr i v G1) ->
   WL r P l.toArray (fun e a' w'=>e=.normal∧∃ k,J k G1∧DX N D w0 F G0 G1 (L.set ix (ob k)) T l pr (dO S m) a' w') [o] a w)
  (hstep2:allI (fun i o=>∀ k S a w G1,(B.contains i || (bS.getD m []).contains i)=false->Nat.beq i m=false->S i=false->(∀ j∈bS.getD i [],S j=true)->(∀ k o,G k=some o->G1 k=some o)->St N D w0 F G0 G1 (L.set ix (ob k)) T a w->(∀ i d,S i=true->dZ l i=some d->∃ v,a.tmps[d]?=some v∧pr i v G1) ->
   WL r P l.toArray (fun e a' w'=>e=.normal∧DX N D w0 F G0 G1 (L.set ix (ob k)) T l pr (dO S i) a' w') [o] a w) 0 l)
  (hend:∀ k a w G1,J k G1->(∀ k o,G k=some o->G1 k=some o)->St N D w0 F G0 G1 (L.set ix (ob k)) T a w->(∀ i d,B.contains i=false->dZ l i=some d->∃ v,a.tmps[d]?=some v∧pr i v G1)->WL r P l.toArray (fun e a w=>e=.normal∧Q .normal a w) (qK l B) a w)
  (hml:Nat.blt m l.length=true):WP r P (.region id l.toArray true) Q a w:=by
 refine MH hm bS B hk hB (fun S a w=>(S m=false∧DX N D w0 F G0 G L T l pr S a w)∨(S m=true∧∃ k G1,J k G1∧(∀ b o,G b=some o->G1 b=some o)∧St N D w0 F G0 G1 (L.set ix (ob k)) T a w∧(∀ i d,S i=true->dZ l i=some d->∃ v,a.tmps[d]?=some v∧pr i v G1)))
  (.inl ⟨rfl,G,fun _ _ h=>h,H.move H.hp.drew,fun _ _ h=>absurd (show false=true from h) Q1⟩) ?_ ?_
 ·rintro i o S a w ho hb aV kM hdesc hX
  by_cases him:i=m
  ·subst him
   rcases hX with ⟨_,G1,hG,HS,hv⟩|⟨h1,_⟩
   ·have h:=hmid o S a w G1 ho aV kM hG HS hv
    have e1:dO S i i=true:=aH O
    exact pF (fun e a' w' ⟨he,k,hj,G2,hG2,HS2,hv2⟩=>⟨he,.inr ⟨e1,k,G2,hJ k _ _ hG2 hj,fun b o h=>hG2 b o (hG b o h),HS2,hv2⟩⟩) h
   ·rw [h1] at aV;cases aV
  ·have e:dO S i m=S m:=ay (fun h=>him h.symm)
   rcases hX with ⟨h1,G1,hG,HS,hv⟩|⟨h1,k,G1,hj,hG,HS,hv⟩
   ·have h:=zL hstep i o ho
    rw [fO] at h
    exact pF (fun e' a' w' ⟨he,hD⟩=>⟨he,.inl ⟨e.trans h1,hD⟩⟩) (h S a w G1 hb (xB him) aV kM hG HS hv)
   ·have h:=zL hstep2 i o ho
    rw [fO] at h
    have hnc:(B.contains i || (bS.getD m []).contains i)=false:=by
     rw [hb,Bool.false_or]
     cases hc2:(bS.getD m []).contains i with
     | false=>rfl
     | true=>have:=hdesc m (Eq.mp Nat.blt_eq hml) (xq.1 hc2);rw [h1] at this;cases this
    exact pF (fun e' a' w' ⟨he,G2,hG2,HS2,hv2⟩=>⟨he,.inr ⟨e.trans h1,k,G2,hJ k _ _ hG2 hj,fun b o h=>hG2 b o (hG b o h),HS2,hv2⟩⟩) (h k S a w G1 hnc (xB him) aV kM hG HS hv)
 ·rintro S a w hall Rw hX
  have NG:S m=true:=hall m (Eq.mp Nat.blt_eq hml) XP
  rcases hX with ⟨h1,_⟩|⟨h1,k,G1,hj,hG,HS,hv⟩
  ·rw [h1] at NG;cases NG
  ·exact hend k a w G1 hj hG HS fun j d hb hd=>hv j d (hall j (wG hd) hb) hd
end
end
theorem arz:aW 24:=aY func24 O
theorem arH:aW 25:=aY func25 O
theorem aeU:aW 18:=aY func18 O
theorem aqG:aW 19:=aY func19 O
theorem aqP:aW 20:=aY func20 O
theorem ara:aW 22:=aY func22 O
theorem drop_at {A:List cZ} {j:Nat} (h:j < A.length) (f:cZ->Bool):(A.drop j).filter f=(if f A[j]=true then [A[j]] else [])++(A.drop (j+1)).filter f:=by
 rw [<- List.getElem_cons_drop h,List.filter_cons]
 split <;> rfl
theorem aAm {A:List cZ} {id:Int} {j:Nat} (h:j < A.length) (hf:qE id A[j]=true):(rG A id)[((A.drop (j+1)).filter (qE id)).length]?=some (EP A[j]):=by
 rw [rG,pJ,rev_at h hf];rfl
theorem apI {G:GH} {L:List oO} {v:Option Addr} {n c k:Nat} {x:oO} (h:av G (.sl 18 (L.map oO.dat)) (.slice v n c)) (hx:L[k]?=some x):∃ b o,v=some ⟨b,o,none⟩∧∀ j u,x.cells[j]?=some u->aI G b (o+k*18+j)=some u:=by
 obtain ⟨b,o,cs,rfl,hcl,hrow,hr⟩:=h.at_ k x.dat (by rw [pJ,hx];rfl);obtain rfl:=apJ hr;exact ⟨b,o,O,hrow⟩
theorem att {l:List ak} (h:yx l) {g:gF} (hg:g∈mI l):uz l g.id=some g.items:=by unfold uz;rw [QG h.ids hg];rfl
theorem abT {p:Prop} (h:p:=by
 exact ⟨V,by rw [drop_at hj,ay (by unfold qE;first|(simp_all;done)|(simp_all;omega))];exact hn,hRe,Ih,hce,⟨A[j] :: Q,by rw [QT,jk hj,gY];rfl,by rw [lD];omega⟩,hgm⟩):p:=h
theorem U0 {p:Prop} (h:p:=by
 exact kH H (Ri Ap Am O O fun _ H=>fin H iJ O)):p:=h
theorem abU {p:Prop} (h:p:=by
 exact kH H (Rg aD O (aK hG (Cz 2 _ O)) fun _ H=>fin H iJ O)):p:=h
theorem U1 {p:Prop} (h:p:=by
 exact JJ HT Hb hG hv lg H O):p:=h
theorem Vr {p:Prop} (h:p:=by
 intro bC a w G1 _ _ aV hc hG HT hv;have H:=HT;clear aV;have Hb:=H.full;have H:=Hb;clear hc;refine kH H (Rm O ?_);clear H;intro a H;refine aF ⟨O,?_⟩;exact U1):p:=h
theorem MC {p:Prop} (h:p:=by
 clear H;intro a H;refine aF ⟨O,?_⟩;exact U1):p:=h
theorem acr {p:Prop} (h:p:=by
 intro bC a w G1 hG HT H fin;exact kH H (Rf WE O fun _ H=>fin H iJ O)):p:=h
theorem Jv {p:Prop} (h:p:=by
 refine gX 4 59 O O fun _ a w G1 hG HT H fin=>?_;refine FI H (wg H O O O) O O ?_;exact iX):p:=h
theorem Mt {p:Prop} (h:p:=by
 refine dB [] O trivial Z xP O O ?_;exact EL):p:=h
theorem acA {p:Prop} (h:p:=by
 refine Ld tX mP _ H (wg H O O O) O O O (by first|assumption|omega) rfl ?_;exact iX):p:=h
set_option maxHeartbeats 8000000 in
theorem azV (G:GH) (w0:World) (hG:Hold G w0) (D:jd) (d:jD) (hR:mU G D d) (hz:sP d) (id:Int) :
  Calls prog 4 #[D.val,vi id] w0 (bG w0 G fun u G'=>u=.bool true):=by
 have Ei:=hz.fl;have auE:=Ci 0 0 d.flow;have hml:maxLen=9223372036854775807:=rfl;refine eN [(0,_),(1,_)] func4 O ntmps4 O O hG ?_;intro a H;refine dH (fun _ K1=>?_);refine eB (cs:=[_,_,_,_,_,_,_,_,_,_,_]) H wn O O O ?_;clear H;intro b2 a w hb2 H;refine kH H (au K1 O (SQ fun _ K2=>SQ fun _ K3=>?_));clear H K1;intro a H;obtain ⟨Ga,hma,hb2',H⟩:=H.fJ;have hga:=fun j v hj=>tC hb2' 0 D.cells O j v hj;replace hR:=hR.mono hma;refine mX ?_;refine s_call aeU H wn O (aiC _ _ H.ro) O ?_;clear H;rintro v15 EB a w rfl tJ H;replace hR:=hR.mono tJ;replace hga:=fun j v hj=>aK tJ (hga j v hj);refine kH H (Rn O (Rm O (Sp 17 O ?_ ?_))) <;> clear H
 ·intro cK a H
  exact absurd cK Q1
 intro cK a H
 try have kI:=dF cK
 first
 | (exfalso;omega)
 | (exact absurd cK Q1)
 |skip
  refine bq jH (cs:=D.cells) H (wg H O O cK) O O (fun j v hj=>H.hp.aI (hga j v hj)) O ?_;clear H;intro a H;refine s_call aqG H (wg H O O cK) O (aBH _ _ H.ro D d hR hz) O ?_;clear H;rintro v19 F8 a w ⟨b19,rfl,agK⟩ nM H;replace hR:=hR.mono nM;replace hga:=fun j v hj=>aK nM (hga j v hj);refine kH H (YN cK O (Pf cK O (Kn K3 (Cd O ?_ ?_)))) <;> clear H K3
  ·intro h21 a H
   try have sK:=dT h21
   first
   | (exfalso;omega)
   | (exact absurd h21 Q1)
   |skip
    refine dH (fun _ K4=>?_);refine s_call aeU H wn O (aiC _ _ H.ro) O ?_;clear H;rintro v22 G22 a w rfl aDN H;exact kH H (au K4 O (LR results4 O fun H=>H.rt (by first|rfl|(simp_all;done))))
  intro h21 a H
  try have sK:=dF h21
  first
  | (exfalso;omega)
  | (exact absurd h21 Q1)
  |skip
   refine gT ?_;refine K2 _ _ ?_;clear K2;refine bP (fun _ K5=>?_)
   have hc:jo d=0:=by first|exact agK (by assumption)|(simp_all;done)
   have hok:=Sk hc;obtain ⟨A,hA⟩:∃ A,A=dx 0 0 d.flow:=⟨_,O⟩;have Nl:=Mj 0 0 d.flow;rw [<- hA] at auE Nl;have hgf:aI F8 b2 0=some (bX D.f):=hga 0 _ O;refine mX ?_;refine bq jH (cs:=D.cells) H wn O O (fun j v hj=>H.hp.aI (hga j v hj)) O ?_;clear H;intro a H;refine kH H (Rm O ?_);clear H;intro a H;refine s_call aqP H wn O (azU _ _ H.ro D d.flow hR.fl hok.ok Ei id) O ?_;clear H;rintro v26 G26 a w ⟨x26,rfl,Kw⟩ Fg H;rw [<- hA] at Kw H;obtain ⟨eA,eN,eC,rfl⟩:=Kw.form;have agQ:=Kw.len;rw [bR] at agQ;subst agQ;refine kH H (Rm O ?_);clear H;intro a H;(iterate 2 refine ko H wn O O O ?_;clear H;intro a H);refine kH H (Ra O (aZ K5 O (SR fun _ K6=>Rf wJ O (Rg fC O (aK Fg hgf) ?_))));clear H K5;intro a H;refine s_call Qs H wn O (YP 1073741825 (fD _) _ _ H.ro 0 d.flow _ (hR.fl.mono Fg) hok.ok V) O ?_;clear H;rintro v31 T9 a w Ry Kk H;rw [<- hA] at Ry;obtain ⟨vA,n31,c31,rfl⟩:=Ry.form;have ahn:=Ry.len;rw [bR] at ahn;subst ahn;replace hR:=(hR.mono Fg).mono Kk;replace Kw:=Kw.mono Kk;replace hga:=fun j v hj=>aK Kk (aK Fg (hga j v hj))
   have hrl:(rG A id).length=(A.filter (qE id)).length:=by simp [rG]
   refine kH H (au K6 O (SR fun _ K7=>au K7 O (SR fun _ K8=>?_)));clear H K6 K7;intro a H;refine bq jH (cs:=D.cells) H wn O O (fun j v hj=>H.hp.aI (hga j v hj)) O ?_;clear H;intro a H;refine dR jH H wn O ?_;clear H;intro b9 a w uG H;refine bM jH 0 (vs:=[_,_,_,_,_,_,_,_,_,_,_]) H wn O ?_;clear H;intro w H;refine K8 _ _ ?_;clear K8;refine kP H (SQ fun _ K9=>SR fun _ aT=>Rm O (Rl tX O (Rs O (au aT O (SB ?_)))));clear H aT;intro a H;skip;refine eO (ι:=Nat × Nat × jd × jD × GH) (Tc:=[(1,_),(5,_),(6,_),(7,_),(9,_)]) (Lc:=[]) (fun gh=>[(8,vi gh.2.1),(10,vi ((gh.1:Int) - 1))]) (fun gh=>[(b9,.cells gh.2.2.1.cells.toArray 38 (0,0))]) (fun gh=>gh.2.2.2.2) (fun gh=>gh.1<=A.length∧gh.2.1=((A.drop gh.1).filter (qE id)).length∧mU gh.2.2.2.2 gh.2.2.1 gh.2.2.2.1∧sP gh.2.2.2.1∧jo gh.2.2.2.1=0∧(∃ Q,dx 0 0 gh.2.2.2.1.flow=A.take gh.1++Q∧Q.length+gh.2.1=A.length - gh.1)∧(∀ b o,T9 b=some o->gh.2.2.2.2 b=some o)) (fun gh=>gh.1) ((A.length,0,D,d,T9)) (by exact H.sub ⟨O,O,O,O,O,O,O,aB⟩) ?_ ?_
   ·exact ⟨fD _,by rw [List.drop_length];rfl,hR,hz,hc,⟨[],by rw [vg,jV,hA],by simp⟩,fun _ _ h=>h⟩
   clear H;rintro ⟨k,n,E,e,g⟩ a w hI H;dsimp only at hI H;obtain ⟨hk,hn,hRe,Ih,hce,⟨Q,QT,hQ2⟩,hgm⟩:=hI;dsimp only [lca,bD] at H;refine kP H (SQ fun _ bJ=>SR fun _ bO=>Rm O (Rc O (Kz bO (Cd O ?_ ?_)))) <;> clear H bO
   ·intro h37 a H
    try have p37:=dT h37
    first
    | (exfalso;omega)
    | (exact absurd h37 Q1)
    |skip
     obtain ⟨j,rfl⟩:∃ j,k=j+1:=⟨k - 1,V⟩
     have hj:j < A.length:=by omega
     rw [show (((j+1:Nat):Int) - 1)=(j:Int) by omega] at H;obtain ⟨bA,oA,rfl,hrow⟩:=PD (Ry.mono hgm) hj
     have hQ3:dx 0 0 e.flow=A.take j++A[j] :: Q:=by rw [QT,jk hj,gY];rfl
     obtain ⟨p,x,q,fl,hrm⟩:=aAk hce Ih hQ3;have aDD:=hrm.code;have haj:=Nl _ (jl hj);refine kP H (Kc bJ (SQ fun _ bU=>SB (SQ fun _ bZ=>SR fun _ dP=>Rm O (Rm O (Ri tX mP O O (Rf JY O (Rg aD O (hrow 0 _ O) (Rc O (Rm O (Sp 46 O ?_ ?_)))))))))) <;> clear H bJ
     ·intro h46 a H
      try have p46:=dT h46
      first
      | (exfalso;omega)
      | (exact absurd h46 Q1)
      |skip
       refine kH H (bg h46 O (aR h46 O (aR h46 O (Pt h46 O (Kz dP (Ct O O ?_))))));clear H dP;intro a H;refine dX ?_;refine bU _ _ ?_;clear bU;refine kP H (SC (Rm O (Rs O (Ra O ?_))));clear H;intro a H;refine aF ?_;refine dS ((j,n,E,e,_)) (by exact H.sub ⟨O,O,O,O,O,O,O,aB⟩) ?_
       (try dsimp only);exact abT
     intro h46 a H
     try have p46:=dF h46
     first
     | (exfalso;omega)
     | (exact absurd h46 Q1)
     |skip
      refine kH H (YM h46 O (YM h46 O (YI tX mP h46 O O (YF JZ h46 O (YR aD h46 O (hrow 1 _ O) (YM h46 O (YC h46 O (Pf h46 O (Kz dP (Cd O ?_ ?_)))))))))) <;> clear H dP
      ·intro iZ a H
       try have p54:=dT iZ
       first
       | (exfalso;omega)
       | (exact absurd iZ Q1)
       |skip
        refine dX ?_;refine bU _ _ ?_;clear bU;refine kP H (SC (Rm O (Rs O (Ra O ?_))));clear H;intro a H;refine aF ?_;refine dS ((j,n,E,e,_)) (by exact H.sub ⟨O,O,O,O,O,O,O,aB⟩) ?_
        (try dsimp only);exact abT
      intro iZ a H
      try have p54:=dF iZ
      first
      | (exfalso;omega)
      | (exact absurd iZ Q1)
      |skip
       refine kP H (Kc bZ (SQ fun _ dY=>SQ fun _ dQ=>?_));clear H bZ;intro a H
       have hsel:qE id A[j]=true:=by unfold qE;simp_all;omega
       have hed:=aAm hj hsel;rw [<- hn] at hed;have hnl:n < (rG A id).length:=(ji.1 hed).1;obtain ⟨bE,oE,rfl,Cz⟩:=apI (Kw.mono hgm) hed;have hfo:=att (Sk hce) hrm.mem;have hfz:=atu hfo;have aD1:=Ih.fl;have avZ:fq (p++([x]++q)):=hrm.ok;rw [hrm.its] at hfo hfz
       have axg:aP (p++([]++q))<=1073741824:=by
        have h1:=Aw p ([x]++q);have h2:=Aw [x] q;have h3:=Aw p q;rw [gJ];omega
       rw [hrm.id] at hfo;refine dI hmx [[],[],[1],[0,1,2],ra 0 4,ra 0 5,ra 0 5,ra 0 7,ra 0 8,ra 0 5,ra 0 5,[0,1,2,3,4,9,10],[0,1,2,3,4,9,10,11],(ra 0 5++ra 9 4),(ra 0 5++ra 9 5),ra 0 5,ra 0 5,[0,1,2,3,4,15,16],[0,1,2,3,4,15,16,17],(ra 0 5++ra 15 4),(ra 0 5++ra 15 5),(ra 0 5++ra 9 12),ra 0 22,ra 0 23,ra 0 24] [] Z [_,_,_,.bool false,_,.slice (some ⟨bE,oE,none⟩) (rG A id).length eC,vi n,(aJ bE (oE+n*18)),.agg (EP A[j]).cells.toArray,.slice (some ⟨bA,oA,none⟩) A.length c31,vi j,(aJ bA (oA+j*5)),(aJ bA (oA+j*5+3)),(aJ bA (oA+j*5+3+0)),vi A[j].flow,.slice (some ⟨bA,oA,none⟩) A.length c31,vi j,(aJ bA (oA+j*5)),(aJ bA (oA+j*5+3)),(aJ bA (oA+j*5+3+1)),vi A[j].at_,.agg (EP A[j]).cells.toArray,.bool true,.bool false,_] H (aC (Z0 O (Rm O)) (Z0 O (Rm O)) (Z1 1 56 O (Rl Ap O)) ?_ (aC (Z1 3 58 O (Rm O)) ?_ ?_ ?_ (aC ?_ ?_ ?_ ?_ (aC ?_ ?_ ?_ ?_ (aC ?_ ?_ ?_ ?_ (aC ?_ ?_ ?_ ?_ (bK (Z2 4 59 23 78 O (Pf O O)) dG))))))) ?_
       ·refine eU 0 55 2 57 O O fun _ a w G1 hG HT H fin=>?_;refine kH H (Rc O ?_);clear H;intro a H;exact fin H iJ (iq (oP V))
       ·exact Jv
       ·exact Jv
       ·refine uh 5 60 6 61 4 59 O O fun _ a w G1 hG HT H fin=>?_;refine Ld Ap Am _ H (wg H O O O) O O O (by first|assumption|omega) rfl ?_;exact iX
       ·refine eU 7 62 4 59 O O fun _ a w G1 hG HT H fin=>?_;refine bq Am (cs:=(EP A[j]).cells) H (wg H O O O) O O (fun i v hi=>H.hp.aI (aK hG (Cz i v hi))) O ?_;exact iX
       ·exact Jv
       ·exact Jv
       ·refine uh 9 64 10 65 4 59 O O fun _ a w G1 hG HT H fin=>?_;exact acA
       ·refine eU 11 66 4 59 O O fun _ a w G1 hG HT H fin=>?_;refine CX AZ H (wg H O O O) O O ?_;exact iX
       ·refine eU 12 67 4 59 O O fun _ a w G1 hG HT H fin=>?_;refine CX Ng H (wg H O O O) O O ?_;exact iX
       ·refine eU 13 68 4 59 O O fun _ a w G1 hG HT H fin=>?_;refine tQ aD H (wg H O O O) O (H.hp.aI (aK hG (hrow 3 _ O))) O ?_;exact iX
       ·exact Jv
       ·exact Jv
       ·refine uh 15 70 16 71 4 59 O O fun _ a w G1 hG HT H fin=>?_;exact acA
       ·refine eU 17 72 4 59 O O fun _ a w G1 hG HT H fin=>?_;refine CX AZ H (wg H O O O) O O ?_;exact iX
       ·refine eU 18 73 4 59 O O fun _ a w G1 hG HT H fin=>?_;refine CX Cm H (wg H O O O) O O ?_;exact iX
       ·refine eU 19 74 4 59 O O fun _ a w G1 hG HT H fin=>?_;refine tQ aD H (wg H O O O) O (H.hp.aI (aK hG (hrow 4 _ O))) O ?_;exact iX
       ·refine uh 14 69 20 75 4 59 O O fun _ a w G1 hG HT H fin=>?_;refine kg akW [_,_,_,_,_,_,_,_,_,_,_,_,_,_,_,_,_,_] H (wg H O O O) O O O O ?_;exact iX
       ·refine uh 8 63 21 76 4 59 O O fun _ a w G1 hG HT H fin=>?_;refine s_call ara H (wg H O O O) O (aBd _ _ H.ro 12 A[j].flow A[j].at_ [] _ _ (av.og (A:=none) (n:=0) (c:=0) O Q1) (av.og (A:=none) (n:=0) (c:=0) O Q1) Q1) O ?_;clear H;rintro v77 G77 a w rfl aul H;exact fin H aul (rfl)
       ·refine eU 22 77 4 59 O O fun _ a w G1 hG HT H fin=>?_;refine ZE H (wg H O O O) O O ?_;exact iX
       clear H;intro a w G lH H hv;have H:=H.aQ (hv 24 79 O O) O;clear hv;refine aF ⟨O,?_⟩;refine dQ _ _ ?_;clear dQ;refine oQ H O O ?_;refine gT ?_;refine dY _ _ ?_;clear dY;refine bP (fun _ eX=>?_);replace hRe:=hRe.mono lH;replace hgm:=fun b o h=>lH b o (hgm b o h);replace Cz:=fun i v hi=>aK lH (Cz i v hi)
       have Ab:wu (fun (dK:Nat) (v:ah) (G:GH)=>match dK with|0=>v=.agg E.cells.toArray|1=>v=.slice (some ⟨bE,oE,none⟩) (rG A id).length eC|2=>v=vi n|3=>v=(aJ bE (oE+n*18))|4=>v=(aJ bE (oE+n*18+1))|5=>v=vi A[j].flow|6=>∃ y,v=.tuple #[y,.bool true]∧av G (.sl 11 ((p++([x]++q)).map ak.dat)) y|7=>∃ y,v=.tuple #[y,.bool true]∧av G (.sl 11 ((p++([x]++q)).map ak.dat)) y|8=>av G (.sl 11 ((p++([x]++q)).map ak.dat)) v|9=>v=.bool true|10=>av G (.sl 11 ((p++([x]++q)).map ak.dat)) v|_=>True):=by intro dK v G G' hm h;(iterate 12 (rcases dK with _|dK;(first|exact h|exact let ⟨y,h1,h2⟩:=h;⟨y,h1,h2.mono hm⟩|exact av.mono hm h)));exact trivial
       refine xC (hmx) [[],[],[],[1,2],[1,2,3],ra 1 4,ra 0 6,ra 0 7,ra 0 8,ra 0 8,ra 0 9,ra 0 11] [11] Z Z _ Ab H ?_ ?_
       ·clear H;refine aC ?_ ?_ ?_ ?_ (aC ?_ ?_ ?_ ?_ (aC ?_ ?_ ?_ (bQ O) dG))
        ·refine dB [] O trivial Z Ab O O ?_;intro bC a w G1 hG HT H fin;refine bq jH (cs:=E.cells) H wn O O (H.hp.dD 0 O O) O ?_;exact iX
        ·refine dB [] O trivial Z Ab O O ?_;exact EL
        ·refine dB [] O trivial Z Ab O O ?_;exact EL
        ·refine dB [(1,82,_),(2,83,_)] O ⟨fun _ _ h=>h,fun _ _ h=>h,aB⟩ Z Ab O O ?_;intro bC a w G1 hG HT H fin;exact U0
        ·refine dB [(3,84,_)] O ⟨fun _ _ h=>h,aB⟩ Z Ab O O ?_;intro bC a w G1 hG HT H fin;exact kH H (Rf QC O fun _ H=>fin H iJ O)
        ·refine dB [(4,85,_)] O ⟨fun _ _ h=>h,aB⟩ Z Ab O O ?_;intro bC a w G1 hG HT H fin;exact kH H (Rg aD O (aK hG (Cz 1 _ O)) fun _ H=>fin H iJ O)
        ·refine dB [(0,81,_),(5,86,_)] O ⟨fun _ _ h=>h,fun _ _ h=>h,aB⟩ Z Ab O O ?_;intro bC a w G1 hG HT H fin;refine s_call afa H wn O (agi _ _ H.ro E e.flow A[j].flow (hRe.mono hG).fl V) O ?_;clear H;rintro v87 G87 a w ⟨y87,rfl,N8⟩ aun H;rw [hfo] at N8 H;dsimp only [Option.getD_some,Option.isSome_some] at N8 H;exact fin H aun (⟨y87,O,N8⟩)
        ·intro bC a w G1 _ aV hc hG HT hv;have H:=HT;clear aV;obtain ⟨u87,awZ,ahA⟩:=hv 6 87 (hc 6 Q1) O;(try dsimp only at ahA);obtain ⟨y87,rfl,N8⟩:=ahA;have H:=H.fV awZ;have Hb:=H.full;have H:=Hb;clear hc;refine kH H (Rm O ?_);clear H;intro a H;refine aF ⟨O,?_⟩;exact pQ Z Ab O O HT Hb hG hv (fun _ _ h=>h) (⟨y87,O,N8⟩) H
        ·intro bC a w G1 _ aV hc hG HT hv;have H:=HT;clear aV;obtain ⟨u80,Ye,NR⟩:=hv 7 80 (hc 7 Q1) O;(try dsimp only at NR);obtain ⟨y80,rfl,ahZ⟩:=NR;have H:=H.fV Ye;have Hb:=H.full;have H:=Hb;clear hc;refine ko H wn O O O ?_;clear H;intro a H;refine aF ⟨O,?_⟩;exact pQ Z Ab O O HT Hb hG hv (fun _ _ h=>h) (ahZ) H
        ·intro bC a w G1 _ aV hc hG HT hv;have H:=HT;clear aV;obtain ⟨u80,Ye,NR⟩:=hv 7 80 (hc 7 Q1) O;(try dsimp only at NR);obtain ⟨y80,rfl,ahZ⟩:=NR;have H:=H.fV Ye;have Hb:=H.full;have H:=Hb;clear hc;refine ko H wn O O O ?_;clear H;intro a H;refine aF ⟨O,?_⟩;exact JJ HT Hb hG hv Ab H O
        intro bC a w G1 _ aV hc hG HT hv;have H:=HT;clear aV;obtain ⟨u88,axa,X4⟩:=hv 8 88 (hc 8 Q1) O;(try dsimp only at X4);obtain ⟨f88,aDh,aDf,rfl⟩:=X4.form;have H:=H.fV axa;have Hb:=H.full;have H:=Hb;clear hc;refine kH H (Ra O ?_);clear H;intro a H;refine aF ⟨O,?_⟩;exact pQ Z Ab O O HT Hb hG hv (fun _ _ h=>h) (X4) H
       clear H;intro a w G Co H hv;obtain ⟨OD,Bw,oG⟩:=hv 10 11 Q1 O;(try dsimp only at oG);obtain ⟨f11,atx,asK,rfl⟩:=oG.form;have H:=H.fV Bw;have H:=H.aQ (hv 9 89 O O) O;clear hv;refine kH H (Ra O ?_);clear H;intro a H;refine aF ⟨O,?_⟩;refine eX _ _ ?_;clear eX;refine bP (fun _ gM=>?_);replace hRe:=hRe.mono Co;replace hgm:=fun b o h=>Co b o (hgm b o h);replace Cz:=fun i v hi=>aK Co (Cz i v hi)
       have xP:wu (fun (dK:Nat) (v:ah) (G:GH)=>match dK with|0=>v=.slice f11 atx asK|1=>v=.slice (some ⟨bE,oE,none⟩) (rG A id).length eC|2=>v=vi n|3=>v=(aJ bE (oE+n*18))|4=>v=(aJ bE (oE+n*18+2))|5=>v=vi A[j].at_|6=>v=.slice (some ⟨bE,oE,none⟩) (rG A id).length eC|7=>v=vi n|8=>v=(aJ bE (oE+n*18))|9=>v=(aJ bE (oE+n*18+2))|10=>v=vi A[j].at_|11=>v=vi (A[j].at_+1)|12=>∃ y,v=.tuple #[y,vi 0]∧av G (.sl 11 ((iy (p++q)).map ak.dat)) y|13=>∃ y,v=.tuple #[y,vi 0]∧av G (.sl 11 ((iy (p++q)).map ak.dat)) y|14=>av G (.sl 11 ((iy (p++q)).map ak.dat)) v|15=>v=vi 0|16=>av G (.sl 11 ((iy (p++q)).map ak.dat)) v|_=>True):=by intro dK v G G' hm h;(iterate 18 (rcases dK with _|dK;(first|exact h|exact let ⟨y,h1,h2⟩:=h;⟨y,h1,h2.mono hm⟩|exact av.mono hm h)));exact trivial
       refine xC (hmx) [[],[],[],[1,2],[1,2,3],ra 1 4,[],[],[6,7],[6,7,8],ra 6 4,ra 6 5,ra 0 12,ra 0 13,ra 0 14,ra 0 14,ra 0 15,ra 0 17] [17] Z Z _ xP H ?_ ?_
       ·clear H;refine aC ?_ ?_ ?_ ?_ (aC ?_ ?_ ?_ ?_ (aC ?_ ?_ ?_ ?_ (aC ?_ ?_ ?_ ?_ (bK ?_ (bK (bQ O) dG)))))
        ·exact Mt
        ·exact Mt
        ·exact Mt
        ·refine dB [(1,92,_),(2,93,_)] O ⟨fun _ _ h=>h,fun _ _ h=>h,aB⟩ Z xP O O ?_;intro bC a w G1 hG HT H fin;exact U0
        ·refine dB [(3,94,_)] O ⟨fun _ _ h=>h,aB⟩ Z xP O O ?_;exact acr
        ·refine dB [(4,95,_)] O ⟨fun _ _ h=>h,aB⟩ Z xP O O ?_;intro bC a w G1 hG HT H fin;exact abU
        ·exact Mt
        ·exact Mt
        ·refine dB [(6,97,_),(7,98,_)] O ⟨fun _ _ h=>h,fun _ _ h=>h,aB⟩ Z xP O O ?_;intro bC a w G1 hG HT H fin;exact U0
        ·refine dB [(8,99,_)] O ⟨fun _ _ h=>h,aB⟩ Z xP O O ?_;exact acr
        ·refine dB [(9,100,_)] O ⟨fun _ _ h=>h,aB⟩ Z xP O O ?_;intro bC a w G1 hG HT H fin;exact abU
        ·refine dB [(10,101,_)] O ⟨fun _ _ h=>h,aB⟩ Z xP O O ?_;intro bC a w G1 hG HT H fin;exact kH H (Rd O fun _ H=>fin H iJ O)
        ·refine dB [(0,91,_),(5,96,_),(11,102,_)] O ⟨fun _ _ h=>h,fun _ _ h=>h,fun _ _ h=>h,aB⟩ Z xP O O ?_;intro bC a w G1 hG HT H fin;refine s_call arz H wn O (azX _ _ H.ro p [x] q [] _ _ _ _ hrm.lo hrm.hi (oG.mono hG) (av.og (A:=none) (n:=0) (c:=0) O Q1) avZ (by rw [lq];trivial) V axg) rfl ?_;clear H;rintro aEm aC7 a w ⟨aag,rfl,RF⟩ atQ H;rw [gJ] at RF;exact fin H atQ (⟨aag,O,RF⟩)
        ·intro bC a w G1 _ aV hc hG HT hv;have H:=HT;clear aV;obtain ⟨aEi,awN,aht⟩:=hv 12 103 (hc 12 Q1) O;(try dsimp only at aht);obtain ⟨aag,rfl,RF⟩:=aht;have H:=H.fV awN;have Hb:=H.full;have H:=Hb;clear hc;refine kH H (Rm O ?_);clear H;intro a H;refine aF ⟨O,?_⟩;exact pQ Z xP O O HT Hb hG hv (fun _ _ h=>h) (⟨aag,O,RF⟩) H
        ·intro bC a w G1 _ aV hc hG HT hv;have H:=HT;clear aV;obtain ⟨u90,Yf,NS⟩:=hv 13 90 (hc 13 Q1) O;(try dsimp only at NS);obtain ⟨y90,rfl,hy90⟩:=NS;have H:=H.fV Yf;have Hb:=H.full;have H:=Hb;clear hc;refine ko H wn O O O ?_;clear H;intro a H;refine aF ⟨O,?_⟩;exact pQ Z xP O O HT Hb hG hv (fun _ _ h=>h) (hy90) H
        ·intro bC a w G1 _ aV hc hG HT hv;have H:=HT;clear aV;obtain ⟨u90,Yf,NS⟩:=hv 13 90 (hc 13 Q1) O;(try dsimp only at NS);obtain ⟨y90,rfl,hy90⟩:=NS;have H:=H.fV Yf;have Hb:=H.full;have H:=Hb;clear hc;refine ko H wn O O O ?_;clear H;intro a H;refine aF ⟨O,?_⟩;exact JJ HT Hb hG hv xP H O
        intro bC a w G1 _ aV hc hG HT hv;have H:=HT;clear aV;obtain ⟨aEj,awO,XU⟩:=hv 14 104 (hc 14 Q1) O;(try dsimp only at XU);obtain ⟨f104,aDg,aDe,rfl⟩:=XU.form;have H:=H.fV awO;have Hb:=H.full;have H:=Hb;clear hc;refine kH H (Ra O ?_);clear H;intro a H;refine aF ⟨O,?_⟩;exact pQ Z xP O O HT Hb hG hv (fun _ _ h=>h) (XU) H
       clear H;intro a w G Bl H hv;obtain ⟨u13,awR,XV⟩:=hv 16 13 Q1 O;(try dsimp only at XV);obtain ⟨f13,agk,afy,rfl⟩:=XV.form;have H:=H.fV awR;have H:=H.aQ (hv 15 105 O O) O;clear hv;refine kH H (Ra O ?_);clear H;intro a H;refine aF ⟨O,?_⟩;refine gM _ _ ?_;clear gM;refine bP (fun _ fI=>?_);refine bP (fun _ gQ=>?_);replace hRe:=hRe.mono Bl;replace hgm:=fun b o h=>Bl b o (hgm b o h);replace Cz:=fun i v hi=>aK Bl (Cz i v hi);refine kP H (SC (Rm O (Rn O (Rm O (Sp 108 O ?_ ?_))))) <;> clear H
       ·intro Hg a H
        exact absurd Hg Q1
       intro Hg a H
       try have aEc:=dF Hg
       first
       | (exfalso;omega)
       | (exact absurd Hg Q1)
       |skip
        refine kH H (YM Hg O (YC Hg O (Pf Hg O (Kn gQ (Cd O ?_ ?_))))) <;> clear H gQ
        ·intro QL a H
         exact absurd QL Q1
        intro QL a H
        try have aEd:=dF QL
        first
        | (exfalso;omega)
        | (exact absurd QL Q1)
        |skip
         refine kP H (Kc fI (SQ fun _ jw=>SQ fun _ kK=>?_));clear H fI;intro a H
         have lg:wu (fun (dK:Nat) (v:ah) (G:GH)=>match dK with|0=>v=.agg E.cells.toArray|1=>v=.slice (some ⟨bE,oE,none⟩) (rG A id).length eC|2=>v=vi n|3=>v=(aJ bE (oE+n*18))|4=>v=(aJ bE (oE+n*18+1))|5=>v=vi A[j].flow|6=>v=.slice f13 agk afy|7=>∃ Y:jd,v=.tuple #[Y.val,.bool true]∧mU G Y (nD (qR e (nQ fl.id (iy (p++q)) e.flow)))|8=>∃ Y:jd,v=.tuple #[Y.val,.bool true]∧mU G Y (nD (qR e (nQ fl.id (iy (p++q)) e.flow)))|9=>∃ Y:jd,v=Y.val∧mU G Y (nD (qR e (nQ fl.id (iy (p++q)) e.flow)))|10=>v=.bool true|_=>True):=by intro dK v G G' hm h;(iterate 13 (rcases dK with _|dK;(first|exact h|exact let ⟨y,h1,h2⟩:=h;⟨y,h1,h2.mono hm⟩)));exact trivial
         refine aoa (κ:=jd) (hmx) [[],[],[],[1,2],[1,2,3],ra 1 4,[],ra 0 7,ra 0 8,ra 0 9,ra 0 9,ra 0 10,ra 0 12] [12] Z Z 11 Q1 (fun (dK:Nat) (v:ah) (G:GH)=>match dK with|0=>v=.agg E.cells.toArray|1=>v=.slice (some ⟨bE,oE,none⟩) (rG A id).length eC|2=>v=vi n|3=>v=(aJ bE (oE+n*18))|4=>v=(aJ bE (oE+n*18+1))|5=>v=vi A[j].flow|6=>v=.slice f13 agk afy|7=>∃ Y:jd,v=.tuple #[Y.val,.bool true]∧mU G Y (nD (qR e (nQ fl.id (iy (p++q)) e.flow)))|8=>∃ Y:jd,v=.tuple #[Y.val,.bool true]∧mU G Y (nD (qR e (nQ fl.id (iy (p++q)) e.flow)))|9=>∃ Y:jd,v=Y.val∧mU G Y (nD (qR e (nQ fl.id (iy (p++q)) e.flow)))|10=>v=.bool true|_=>True) 0 (fun iW=>(b9,.cells iW.cells.toArray 38 (0,0))) (fun iW G=>mU G iW (nD (qR e (nQ fl.id (iy (p++q)) e.flow)))) (fun iW G G' hm h=>h.mono hm) H ?_ ?_ ?_ ?_ Z
         ·clear H;refine aC ?_ ?_ ?_ ?_ (aC ?_ ?_ ?_ ?_ (aC ?_ ?_ ?_ ?_ (bK (bQ O) dG)))
          ·intro bC a w G1 _ _ aV hc hG HT hv;have H:=HT;clear aV;have Hb:=H.full;have H:=Hb;clear hc;refine bq jH (cs:=E.cells) H wn O O (H.hp.dD 0 O O) O ?_;exact MC
          ·exact Vr
          ·exact Vr
          ·intro bC a w G1 _ _ aV hc hG HT hv;have H:=HT;clear aV;have H:=H.aQ (hv 1 114 (hc 1 Q1) O) O;have H:=H.aQ (hv 2 115 (hc 2 Q1) O) O;have Hb:=H.full;have H:=Hb;clear hc;refine kH H (Ri Ap Am O O ?_);exact MC
          ·intro bC a w G1 _ _ aV hc hG HT hv;have H:=HT;clear aV;have H:=H.aQ (hv 3 116 (hc 3 Q1) O) O;have Hb:=H.full;have H:=Hb;clear hc;refine kH H (Rf QC O ?_);exact MC
          ·intro bC a w G1 _ _ aV hc hG HT hv;have H:=HT;clear aV;have H:=H.aQ (hv 4 117 (hc 4 Q1) O) O;have Hb:=H.full;have H:=Hb;clear hc;refine kH H (Rg aD O (aK hG (Cz 1 _ O)) ?_);exact MC
          ·exact Vr
          ·intro bC a w G1 _ _ aV hc hG HT hv;have H:=HT;clear aV;have H:=H.aQ (hv 0 113 (hc 0 Q1) O) O;have H:=H.aQ (hv 5 118 (hc 5 Q1) O) O;have H:=H.aQ (hv 6 119 (hc 6 Q1) O) O;have Hb:=H.full;have H:=Hb;clear hc;refine s_call arH H wn O (aBl _ _ H.ro E e (hRe.mono hG) Ih hce fl hrm.mem _ hrm.id.symm (iy (p++q)) _ (XV.mono hG) hrm.zn hrm.chk hrm.z) O ?_;clear H;rintro aCw ami a w ⟨TW,rfl,Xh⟩ agx H;refine aF ⟨O,?_⟩;exact pQ Z lg O O HT Hb hG hv agx (⟨TW,O,Xh⟩) H
          ·intro bC a w G1 _ _ aV hc hG HT hv;have H:=HT;clear aV;obtain ⟨aEk,awP,ahu⟩:=hv 7 120 (hc 7 Q1) O;(try dsimp only at ahu);obtain ⟨TW,rfl,Xh⟩:=ahu;have H:=H.fV awP;have Hb:=H.full;have H:=Hb;clear hc;refine kH H (Rm O ?_);clear H;intro a H;refine aF ⟨O,?_⟩;exact pQ Z lg O O HT Hb hG hv (fun _ _ h=>h) (⟨TW,O,Xh⟩) H
          ·intro bC a w G1 _ _ aV hc hG HT hv;have H:=HT;clear aV;obtain ⟨alh,NZ,Fp⟩:=hv 8 112 (hc 8 Q1) O;(try dsimp only at Fp);obtain ⟨TV,rfl,Xg⟩:=Fp;have H:=H.fV NZ;have Hb:=H.full;have H:=Hb;clear hc;refine ko H wn O O O ?_;clear H;intro a H;refine aF ⟨O,?_⟩;exact pQ Z lg O O HT Hb hG hv (fun _ _ h=>h) (⟨TV,O,Xg⟩) H
          ·intro bC a w G1 _ _ aV hc hG HT hv;have H:=HT;clear aV;obtain ⟨alh,NZ,Fp⟩:=hv 8 112 (hc 8 Q1) O;(try dsimp only at Fp);obtain ⟨TV,rfl,Xg⟩:=Fp;have H:=H.fV NZ;have Hb:=H.full;have H:=Hb;clear hc;refine ko H wn O O O ?_;exact MC
          exact Mx
         ·clear H;intro o_ bC a w G1 xM _ hc hG HT hv;obtain rfl:_=o_:=Option.some.inj xM;clear xM;have H:=HT;obtain ⟨aEl,awQ,ahv⟩:=hv 9 121 (hc 9 Q1) O;(try dsimp only at ahv);obtain ⟨aak,rfl,atP⟩:=ahv;have H:=H.fV awQ;have Hb:=H.full;have H:=Hb;clear hc;refine zy jH 0 (vs:=aak.cells) _ H wn O O O O O O O O ?_;clear H;intro w H;dsimp only [List.set,setRow] at H;refine aF ⟨O,aak,atP,?_⟩;exact aex O HT (fun _ _ h=>h) hv H
         ·clear H;refine aC ?_ ?_ ?_ ?_ (aC ?_ ?_ ?_ ?_ (aC ?_ ?_ ?_ ?_ (bK ?_ dG)))
          ·exact zO
          ·exact zO
          ·exact zO
          ·exact zO
          ·exact zO
          ·exact zO
          ·exact zO
          ·exact zO
          ·exact zO
          ·exact zO
          ·intro iW bC a w G1 _ _ aV hc hG HT hv;have H:=HT;dsimp only [List.set,List.append,lca,bD] at H;clear aV;obtain ⟨alh,NZ,Fp⟩:=hv 8 112 (hc 8 Q1) O;(try dsimp only at Fp);obtain ⟨TV,rfl,Xg⟩:=Fp;have H:=H.fV NZ;have Hb:=H.full;have H:=Hb;clear hc;refine ko H wn O O O ?_;clear H;intro a H;refine aF ⟨O,?_⟩;replace hG:∀ k o,G1 k=some o->G1 k=some o:=fun _ _ h=>h;exact U1
          ·intro _ _ _ _ _ _ hB;exact jW
          exact Mx
         clear H;intro iW a w G hj_ E8 H hv;dsimp only [List.set,List.append,lca,bD] at H;have H:=H.aQ (hv 10 122 O O) O;clear hv;refine kH H (Ra O ?_);clear H;intro a H;refine aF ⟨O,?_⟩;refine kK _ _ ?_;clear kK;refine kP H (SR fun _ kD=>Rm O (Rn O (Kz kD (Cd O ?_ ?_)))) <;> clear H kD
         ·intro QM a H
          exact absurd QM Q1
         intro QM a H
         try have aEe:=dF QM
         first
         | (exfalso;omega)
         | (exact absurd QM Q1)
         |skip
          refine kP H (Kc jw (SC (Rm O (Rd O (aZ bU O (SC (Rm O (Rs O (Ra O ?_)))))))));clear H jw bU;intro a H;refine aF ?_;refine dS ((j,n+1,iW,nD (qR e (nQ fl.id (iy (p++q)) e.flow)),_)) (by exact H.sub ⟨O,O,O,O,O,O,O,aB⟩) ?_
          (try dsimp only);exact ⟨V,by rw [drop_at hj,aH hsel,iK,<- hn,List.length_singleton];omega,hj_,ayu hrm.z,ays hrm.chk,(let ⟨Q',h1,h2⟩:=hrm.anc;⟨Q',h1,V⟩),fun b o h=>E8 b o (hgm b o h)⟩
   intro h37 a H
   try have p37:=dF h37
   first
   | (exfalso;omega)
   | (exact absurd h37 Q1)
   |skip
    obtain rfl:k=0:=by omega
    rw [xu] at hn;rw [List.take_zero,gJ] at QT
    have hnr:n=(rG A id).length:=by omega
    have hQl:(dx 0 0 e.flow).length=Q.length:=by rw [QT]
    refine dX ?_;refine K9 _ _ ?_;clear K9;refine kP H (SQ fun _ jF=>SR fun _ kR=>Rm O (Rc O (Kz kR (Cd O ?_ ?_)))) <;> clear H kR
    ·intro h128 a H
     try have azn:=dT h128
     first
     | (exfalso;omega)
     | (exact absurd h128 Q1)
     |skip
      refine kP H (SR fun _ lN=>Rm O (Rl Ap O (Rc O (Rm O (Sp 132 O ?_ ?_))))) <;> clear H
      ·intro sF a H
       try have Sm:=dT sF
       first
       | (exfalso;omega)
       | (exact absurd sF Q1)
       |skip
        exact kH H (YM sF O (YC sF O (Pt sF O (au lN O (LR results4 O fun H=>H.rt (by first|rfl|(simp_all;done)))))))
      intro sF a H
      try have Sm:=dF sF
      first
      | (exfalso;omega)
      | (exact absurd sF Q1)
      |skip
       exact kH H (aR sF O (Pf sF O (au lN O (LR results4 O fun H=>H.rt (by first|rfl|(simp_all;done))))))
    intro h128 a H
    try have azn:=dF h128
    first
    | (exfalso;omega)
    | (exact absurd h128 Q1)
    |skip
     have hcode:(if (rG A id).length=0 then (8:Int) else 0)=0:=cu;rw [hcode] at H;refine kP H (Kc jF (SR fun _ jJ=>Rm O (Rc O (Rm O (Sp 138 O ?_ ?_))))) <;> clear H jF
     ·intro DU a H
      try have aEg:=dT DU
      first
      | (exfalso;omega)
      | (exact absurd DU Q1)
      |skip
       refine kH H (YM DU O (YM DU O (YL Ap DU O (YC DU O (Pt DU O (Rm O (Sp 144 O ?_ ?_))))))) <;> clear H
       ·intro wL a H
        try have azq:=dT wL
        first
        | (exfalso;omega)
        | (exact absurd wL Q1)
        |skip
         refine kH H (YF wJ wL O (YO fC 0 wL O ?_));clear H;intro a H;refine s_call Qs H (wg H O O wL) O (YP 1073741825 (fD _) _ _ H.ro 0 e.flow _ hRe.fl (Sk hce).ok (by have:=Ih.fl;omega)) rfl ?_;clear H;rintro aEp aC8 a w ahw avE H;obtain ⟨zA,zn,zc,rfl⟩:=ahw.form;have aia:=ahw.len;rw [bR] at aia;subst aia;replace hRe:=hRe.mono avE;refine kH H (YL tX wL O (YM wL O (YL tX wL O (YM wL O ?_))));clear H;intro a H;refine BN _ H (wg H O O wL) O O O V V O ?_;clear H;intro a H;refine kH H (YC wL O (Pt wL O (Rm O (Sp 155 O ?_ ?_)))) <;> clear H
         ·intro DW a H
          try have azs:=dT DW
          first
          | (exfalso;omega)
          | (exact absurd DW Q1)
          |skip
           refine bq jH (cs:=E.cells) H (wg H O O DW) O O (H.hp.dD 0 O O) O ?_;clear H;intro a H;refine s_call aeK H (wg H O O DW) O (adQ _ _ H.ro E e hRe Ih) O ?_;clear H;rintro v157 aC9 a w rfl aDM H;rw [hce] at H;exact kH H (YC DW O (Pt DW O (au jJ O (LR results4 O fun H=>H.rt (by first|rfl|(simp_all;done))))))
         intro DW a H
         try have azs:=dF DW
         exact absurd (of_decide_eq_false DW) V
       intro wL a H
       try have azq:=dF wL
       exact absurd (of_decide_eq_false wL) V
     intro DU a H
     exact absurd DU Q1
end Go.Proofs.YtggpjlchglgodaaGreat
