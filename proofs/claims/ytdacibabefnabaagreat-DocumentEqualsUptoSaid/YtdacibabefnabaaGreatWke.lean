/-
  What the claim stands on, part 5: Rws Itm Its Rvs Chd Gco Dms Deq Meq Mdq Cl Rc Ct Ccl Dnn Cst Dcl Mst.
-/
import Derived.Test.YtdacibabefnabaaGreatWkd
namespace Go.Proofs.YtdacibabefnabaaGreat
open Go.Proofs.Tryz
section
open Go.RowKit
theorem Jk:∀ args w,(callFunc 69 args).run prog w=.ok (.enter 69 args) w:=enters func69 rfl (by kernel_rfl)
theorem Rb:∀ args w,(callFunc 167 args).run prog w=.ok (.enter 167 args) w:=enters func167 rfl (by kernel_rfl)
theorem KS:∀ args w,(callFunc 71 args).run prog w=.ok (.enter 71 args) w:=enters func71 rfl (by kernel_rfl)
theorem JB (G:GH) (L:OL) (w0:World) (st:List bL) (li:List dH) (rv:List dh) (b ms ml mr mb mu:Nat) (n:Int) (hck:xC G st li rv ms ml mr mu) (hO:ig G (gN b ms ml mr mb mu n :: L) w0)
  (e:Int) (h:jm) (p d l:ak) (hh:ku G h p d l) (hz:pJ h≤4294967296) :
  Calls prog 69 #[(aM b 0),vi e,zD h p d l] w0 (gy w0 G (gN b ms ml mr mb mu n :: L) fun v G' L'=>G=G'∧L'=gN b ms ml mr mb mu n :: L∧v=vi (fP (aP st li rv) e h)):=by
 have hm:=GH.GD G (o:=(gN b ms ml mr mb mu n).2) (hO.sep _ lW);exact (ajf (G.add b (gN b ms ml mr mb mu n).2) w0 hO.add st li rv b ms ml mr mb mu n (hck.mono hm) (GH.I6 _ _ _) e h p d l (hh.mono hm) hz).mono fun _ _=>U5 (b:=b) (o:=(gN b ms ml mr mb mu n).2) (R':=fun v=>v=vi (fP (aP st li rv) e h)) hO fun _ _ h=>h
abbrev Nb (b ms ml mr mb mu:Nat) (L:OL) (r:CR):ak→OL→Prop:=fun u L'=>∃ s:CS,u=vi r.1∧L'=gN b ms ml mr mb mu s.n :: (mb,gL (gT s.bG)) :: L∧(r.1=0→s=r.2)
def IW (m:Nat):Prop:=∀ (G:GH) (L:OL) (w0:World) (st:List bL) (li:List dH) (rv:List dh) (b ms ml mr mb mu:Nat) (s:CS) (l:List aJ) (v:ak) (body note:Bool) (t:Int),
 xC G st li rv ms ml mr mu→ig G (gN b ms ml mr mb mu s.n :: (mb,gL (gT s.bG)) :: L) w0→au G (.sl 11 (l.map aJ.dat)) v→bU l < m→0≤t→t≤4→0≤s.n→s.n+(bU l:Nat)≤1099511627776 →
 Calls prog 71 #[(aM b 0),v,.agg #[.bool body,.bool note,vi t]] w0 (gy w0 G (gN b ms ml mr mb mu s.n :: (mb,gL (gT s.bG)) :: L) fun u G' L'=>G=G'∧Nb b ms ml mr mb mu L (jg (aP st li rv) body note t l s) u L')
theorem rows_ok {m:Nat} (ih:IW m) (hm:m≤4294967296) (Gt:GH) (L:OL) (w0:World) (st:List bL) (li:List dH) (rv:List dh) (b ms ml mr mb mu:Nat) (s:CS) (l:List bS) (v:ak) (note:Bool) (t:Int)
  (hck:xC Gt st li rv ms ml mr mu) (hO:ig Gt (gN b ms ml mr mb mu s.n :: (mb,gL (gT s.bG)) :: L) w0) (hv:au Gt (.sl 6 (l.map bS.dat)) v) (hz:fQ l < m) (ht0:0≤t) (BJ:t≤4) (hs0:0≤s.n) (hs1:s.n+(fQ l:Nat)≤1099511627776) :
  Calls prog 168 #[(aM b 0),v,.agg #[.bool false,.bool note,vi t]] w0 (gy w0 Gt (gN b ms ml mr mb mu s.n :: (mb,gL (gT s.bG)) :: L) fun u G' L'=>Nb b ms ml mr mb mu L (lI l.length (fun s=>iO (aP st li rv) note t l s) s) u L'):=by
 obtain ⟨A,c,rfl,hc1,hc2,hg⟩:=hv.slice;rw [bV] at *;have hll:=IK l;refine jB (N:=77) (T:=[(0,_),(1,_),(2,_)]) func168 rfl ntmps168 rfl rfl hO ?_;intro a H;refine dw (fun _ K1=>?_);refine eD (cs:=[_,_,_]) H wn rfl rfl rfl ?_;clear H;intro b5 a w hb5 H;refine kH H (aj K1 rfl (SQ fun _ K2=>SR fun _ K3=>Rm rfl (Rl kr rfl (Rc rfl (Kz K3 (Cd rfl ?_ ?_)))))) <;> clear H K1 K3
 ·intro bX a H
  try have kQ:=dT bX
  refine aS (fun _ K4=>?_);have hE:lI l.length (fun s=>iO (aP st li rv) note t l s) s=(11,s):=av (by omega);exact kP H (SC (aO K4 rfl (LR results168 rfl fun H=>H.hp.cK (L':=gN b ms ml mr mb mu s.n :: (mb,gL (gT s.bG)) :: L) (by repeat (first|exact cO _|apply List.Sublist.cons)) ⟨s,by rw [hE],rfl,fun h=>by rw [hE]⟩)))
 intro bX a H
 try have kQ:=dF bX
 refine kP H (Kc K2 (SQ fun _ K5=>SR fun _ K6=>Rm rfl (Rl kr rfl (Rc rfl (Kz K6 (Cd rfl ?_ ?_)))))) <;> clear H K2 K6
 ·intro h20 a H
  try have qW:=dT h20
  refine aS (fun _ K7=>?_)
  have hE:lI l.length (fun s=>iO (aP st li rv) note t l s) s=(9,s):=by rw [lI,ah (by omega),av (by omega)]
  exact kP H (SC (aO K7 rfl (LR results168 rfl fun H=>H.hp.cK (L':=gN b ms ml mr mb mu s.n :: (mb,gL (gT s.bG)) :: L) (by repeat (first|exact cO _|apply List.Sublist.cons)) ⟨s,by rw [hE],rfl,fun h=>by rw [hE]⟩)))
 intro h20 a H
 try have qW:=dF h20
 refine kP H (Kc K5 (SQ fun _ K8=>SQ fun _ K9=>?_));clear H K5;intro a H
 have hE:lI l.length (fun s=>iO (aP st li rv) note t l s) s=iO (aP st li rv) note t l s:=by rw [lI,ah (by omega),ah (by omega)]
 refine kP H (SC (Rm rfl (Rl kr rfl (Rm rfl (Kn K9 (SB ?_))))));clear H K9;intro a H;skip;refine eH (ι:=Nat × CS × GH) (Tc:=[(0,_),(5,_),(21,_),(22,_)]) (Lc:=[(_,_)]) (fun gh=>[(23,vi gh.1)]) (fun gh=>[gN b ms ml mr mb mu gh.2.1.n,(mb,gL (gT gh.2.1.bG))]++L) (fun gh=>gh.2.2) (fun gh=>gh.1≤l.length∧(∀ b o,Gt b=some o→gh.2.2 b=some o)∧iO (aP st li rv) note t l s=iO (aP st li rv) note t (l.drop gh.1) gh.2.1∧0≤gh.2.1.n∧gh.2.1.n+(fQ (l.drop gh.1):Nat)≤1099511627776) (fun gh=>l.length - gh.1) ((0,s,Gt)) (by exact (H).sub ⟨rfl,rfl,rfl,rfl,rfl,aC⟩) ?_ ?_
 ·exact ⟨iF _,fun _ _ h=>h,rfl,hs0,hs1⟩
 clear H;intro gh a w hI H;obtain ⟨k,s1,g⟩:=gh;dsimp only at hI H;obtain ⟨hk,hgm,hR,hn0,hn1⟩:=hI;dsimp only [lca,aV] at H;refine kP H (SR fun _ aT=>Rc rfl (Kz aT (SQ fun _ bB=>Cd rfl ?_ ?_))) <;> clear H aT
 ·intro bE a H
  try have jP:=dT bE
  have hk2:k < l.length:=by omega
  have hsz:=Qo hk2;have hcs:=IJ l[k].cells
  have hdz:fQ (l.drop k)=1+dQ l[k].dat+fQ (l.drop (k+1)):=by simp only [fQ];rw [nD hk2,iq,fE]
  have hrz:=Aa l[k];obtain ⟨xb,xo,qA,qn,qc,eA,en,ec,zA,zn,zc,cA,cn,cc,rfl,hrow,JH,hcl⟩:=JW hk2 hg;replace hrow:=fun j u hj=>ay hgm (hrow j u hj);replace JH:=JH.mono hgm;replace hcl:=hcl.mono hgm;have hcn:=hcl.len;rw [bV] at hcn;subst hcn;have aiV:=hck.mono hgm;rw [nD hk2,iO,MP] at hR;refine kP H (Kc bB (SQ fun _ bC=>SB (SR fun _ bK=>Ri kr iV rfl rfl ?_)));clear H bB;intro a H;refine aW iV (cs:=[_,_,_,_,_,_]) H wn rfl rfl (fun j v hj=>H.hp.aF (hrow j v hj)) rfl ?_;clear H;intro a H;refine dU iV H wn rfl ?_;clear H;intro b8 a w vN H;refine bN iV 0 (vs:=[_,_,_,_,_,_]) _ H wn rfl rfl rfl rfl rfl rfl rfl rfl ?_;clear H;intro w H;dsimp only [List.set,setRow] at H;refine bK _ _ ?_;clear bK;refine aS (fun _ bP=>?_);refine aS (fun _ dx=>?_);refine dI hmx [[],[],[1],[0,1,2],[],[4],[4,5],[4,5,6],(ra 0 8),[],[9],[9,10],[9,10,11],(ra 0 13),(ra 0 14),(ra 0 15),(ra 0 16)] [14,15,16] (by kernel_rfl) [_,_,zD l[k].head (.slice qA qn qc) (.slice eA en ec) (.slice zA zn zc),vi (fP (aP st li rv) 9 l[k].head),_,.slice cA l[k].cells.length cc,_,_,vi (bQ (decide ((l[k].cells.length:Int)=0)) 11),_,.slice cA l[k].cells.length cc,_,_,vi (bQ (decide (32 < (l[k].cells.length:Int))) 9)] H (aG (Z0 rfl (Rm rfl)) (Z0 rfl (Rf EW rfl)) ?_ ?_ (aG (Z0 rfl (Rf uJ rfl)) (Z1 4 31 rfl (Ro uW 0 rfl)) (Z1 5 32 rfl (Rl mh rfl)) (Z1 6 33 rfl (Rc rfl)) (aG ?_ (Z0 rfl (Rf uJ rfl)) (Z1 9 36 rfl (Ro uW 0 rfl)) (Z1 10 37 rfl (Rl mh rfl)) (aG (Z1 11 38 rfl (Rc rfl)) ?_ (bY rfl) (bY rfl) (bq (bY rfl) dD))))) ?_
  ·refine dN 1 28 rfl rfl fun _ a w G1 hG HT H fin=>?_;refine aW lJ (cs:=[_,_,_,_,_]) H wn rfl rfl (H.hp.dX 0 rfl rfl) rfl ?_;clear H;intro a H;exact fin H iJ rfl
  ·refine eu 0 27 2 29 rfl rfl fun _ a w G1 hG HT H fin=>?_;refine gB Jk (Li:=[_,_]) (L:=gN b ms ml mr mb mu s1.n :: (mb,gL (gT s1.bG)) :: L) H wn rfl (JB _ _ _ st li rv b ms ml mr mb mu _ (aiV.mono hG) (Hp.owns (Li:=[_,_]) H.hp) 9 l[k].head _ _ _ (JH.mono hG) (by omega)) rfl ?_;clear H;rintro v30 _ _ a w ⟨rfl,rfl,rfl⟩ Sl H;dsimp only [lca,aV] at H;exact fin H Sl (rfl)
  ·refine dN 7 34 rfl rfl fun _ a w G1 hG HT H fin=>?_;refine s_call kD H wn rfl (kI _ _ H.ro _ 11) rfl ?_;clear H;rintro v35 VQ a w ⟨rfl,-⟩ Sn H;exact fin H Sn (rfl)
  ·refine dN 12 39 rfl rfl fun _ a w G1 hG HT H fin=>?_;refine s_call kD H wn rfl (kI _ _ H.ro _ 9) rfl ?_;clear H;rintro v40 VU a w ⟨rfl,-⟩ ahV H;exact fin H ahV (rfl)
  clear H;intro a w G rG H hv;have H:=H.aZ (hv 3 30 rfl rfl) rfl;have H:=H.aZ (hv 8 35 rfl rfl) rfl;have H:=H.aZ (hv 13 40 rfl rfl) rfl;clear hv;refine jJ qZ iW [_,_,_] [_,_,_] H wn rfl rfl rfl rfl rfl (by intro i q h;match i,h with|0,h=>exact h|1,h=>exact h|2,h=>exact h|n+3,h=>simp at h) rfl rfl ?_;clear H;intro b41 a w YD H;obtain ⟨IV,CU,aiA,H⟩:=H.eG;have LP:∀ b o,Gt b=some o→IV b=some o:=fun b o h=>CU _ _ (rG _ _ (hgm _ _ h));refine s_call sj H wn rfl (sw _ _ H.ro _ _ (Ig [fP (aP st li rv) 9 l[k].head,bQ (decide ((l[k].cells.length:Int)=0)) 11,bQ (decide (32 < (l[k].cells.length:Int))) 9] aiA (show 3≤maxLen by decide))) rfl ?_;clear H;rintro v42 _ a w ⟨rfl,rfl⟩ - H;refine kH H (Ra rfl ?_);clear H;intro a H;refine aH ⟨rfl,?_⟩;refine dx _ _ ?_;clear dx;refine kP H (SR fun _ dP=>Rm rfl (Rc rfl (Kz dP (Cd rfl ?_ ?_)))) <;> clear H dP
  ·intro lH a H
   try have p44:=dT lH
   have e44:sS (aP st li rv) l[k].head l[k].cells.length≠0:=p44
   have hF1:(lI l.length (fun s=>iO (aP st li rv) note t l s) s).1=sS (aP st li rv) l[k].head l[k].cells.length:=by rw [hE,hR,uz (r:=(sS (aP st li rv) l[k].head l[k].cells.length,s1)) e44,uz e44]
   have hF2:(lI l.length (fun s=>iO (aP st li rv) note t l s) s).1=0→s1=(lI l.length (fun s=>iO (aP st li rv) note t l s) s).2:=fun h=>absurd (hF1.symm.trans h) e44;exact kP H (SR fun _ dB=>Rm rfl (aj dB rfl (LR results168 rfl fun H=>H.hp.cK (L':=gN b ms ml mr mb mu s1.n :: (mb,gL (gT s1.bG)) :: L) (by repeat (first|exact cO _|apply List.Sublist.cons)) ⟨s1,aB vi hF1.symm,rfl,hF2⟩)))
  intro lH a H
  try have p44:=dF lH
  have e44:sS (aP st li rv) l[k].head l[k].cells.length=0:=gH.1 p44;rw [tF (r:=(sS (aP st li rv) l[k].head l[k].cells.length,s1)) e44] at hR;dsimp only at hR;have aiW:=hck.mono LP;replace hcl:=hcl.mono (fun b o h=>CU _ _ (rG b o h));refine kP H (Kc bP (SR fun _ dY=>bg uJ uW 0 rfl rfl (Rl mh rfl (Rm rfl (Kz dY (SB ?_))))));clear H bP dY;intro a H;skip;refine eH (ι:=Nat × CS × GH) (Tc:=[(0,_),(5,_),(21,_),(22,_),(23,_),(47,_),(48,_)]) (Lc:=[(_,_),(_,_)]) (fun gh=>[(49,vi gh.1)]) (fun gh=>[gN b ms ml mr mb mu gh.2.1.n,(mb,gL (gT gh.2.1.bG))]++L) (fun gh=>gh.2.2) (fun gh=>gh.1≤l[k].cells.length∧(∀ b o,IV b=some o→gh.2.2 b=some o)∧iO (aP st li rv) note t l s=gF (pK (aP st li rv) note t (l[k].cells.drop gh.1) gh.2.1) (fun s=>iO (aP st li rv) note t (l.drop (k+1)) s)∧0≤gh.2.1.n∧gh.2.1.n+(jr (l[k].cells.drop gh.1):Nat)+(fQ (l.drop (k+1)):Nat)≤1099511627776) (fun gh=>l[k].cells.length - gh.1) ((0,s1,IV)) (by exact (H).sub ⟨rfl,rfl,rfl,rfl,rfl,rfl,rfl,rfl,aC⟩) ?_ ?_
  ·exact ⟨iF _,fun _ _ h=>h,hR,hn0,by dsimp only;rw [mQ];omega⟩
  clear H;intro gh a w hI H;obtain ⟨c,s2,g2⟩:=gh;dsimp only at hI H;obtain ⟨hc,Ow,hR2,hm0,hm1⟩:=hI;have kG:=fun b o h=>Ow b o (LP b o h);dsimp only [lca,aV] at H;refine kP H (SR fun _ eP=>Rc rfl (Kz eP (SQ fun _ dZ=>Cd rfl ?_ ?_))) <;> clear H eP
  ·intro h50 a H
   try have p50:=dT h50
   have hk4:c < l[k].cells.length:=by omega
   have ajT:=Qm hk4
   have ajd:jr (l[k].cells.drop c)=1+dQ l[k].cells[c].dat+jr (l[k].cells.drop (c+1)):=by simp only [jr];rw [nD hk4,iq,fE]
   have hcz:=zZ l[k].cells[c];obtain ⟨b3',o3,sA,sn,sc,tA,tn,tc,uA,un,uc,gA,gn,gc,rfl,hrow,hch,hcf⟩:=GJ hk4 (hcl.mono Ow).at_;have Tf:=aiW.mono Ow;rw [nD hk4,pK,Cu] at hR2;obtain ⟨y,hy⟩:∃ y,y=l[k].cells[c]:=⟨_,rfl⟩;rw [← hy] at hR2 hrow hch hcf hcz ajT ajd;refine kP H (Kc dZ (SQ fun _ eU=>SB (SR fun _ fK=>Ri mh iQ rfl rfl ?_)));clear H dZ;intro a H;refine aW iQ (cs:=[_,_,_,_,_,_,_]) H wn rfl rfl (fun j v hj=>H.hp.aF (hrow j v hj)) rfl ?_;clear H;intro a H;refine dU iQ H wn rfl ?_;clear H;intro b11 a w Hr H;refine bN iQ 0 (vs:=[_,_,_,_,_,_,_]) _ H wn rfl rfl rfl rfl rfl rfl rfl rfl ?_;clear H;intro w H;dsimp only [List.set,setRow] at H;refine fK _ _ ?_;clear fK;refine kP H (SQ fun _ gM=>SR fun _ iC=>Rm rfl (bg Cw aD 0 rfl rfl ?_));clear H;intro a H;refine gB Rb (Li:=[_,_,_]) (L:=gN b ms ml mr mb mu s2.n :: (mb,gL (gT s2.bG)) :: L) H wn rfl (QM _ _ _ st li rv b ms ml mr mb mu _ s2.bG y.id Tf (Hp.owns (Li:=[_,_,_]) H.hp)) rfl ?_;clear H;rintro v56 _ _ a w ⟨rfl,rfl,rfl⟩ - H;dsimp only [lca,aV] at H;refine kH H (aj iC rfl (SR fun _ gu=>Rm rfl (Rc rfl (Kz gu (Cd rfl ?_ ?_))))) <;> clear H iC gu
   ·intro jk a H
    try have p58:=dT jk
    have hF1:(lI l.length (fun s=>iO (aP st li rv) note t l s) s).1=oK s2.bG y.id:=by rw [hE,hR2];simp [gF,jZ,p58]
    have hF2:(lI l.length (fun s=>iO (aP st li rv) note t l s) s).1=0→(⟨s2.n,jU s2.bG y.id⟩:CS)=(lI l.length (fun s=>iO (aP st li rv) note t l s) s).2:=fun h=>absurd (hF1.symm.trans h) p58;exact kP H (SR fun _ iX=>Rm rfl (aj iX rfl (LR results168 rfl fun H=>H.hp.cK (L':=gN b ms ml mr mb mu s2.n :: (mb,gL (gT (jU s2.bG y.id))) :: L) (by repeat (first|exact cO _|apply List.Sublist.cons)) ⟨⟨s2.n,jU s2.bG y.id⟩,aB vi hF1.symm,rfl,hF2⟩)))
   intro jk a H
   try have p58:=dF jk
   have e58:oK s2.bG y.id=0:=gH.1 p58;refine kP H (Kc gM (SQ fun _ jo=>SR fun _ iN=>Rm rfl (Rf Jm rfl ?_)));clear H gM;intro a H;refine aW lJ (cs:=[_,_,_,_,_]) H wn rfl rfl (H.hp.dX 0 rfl rfl) rfl ?_;clear H;intro a H;refine gB Jk (Li:=[_,_,_]) (L:=gN b ms ml mr mb mu s2.n :: (mb,gL (gT (jU s2.bG y.id))) :: L) H wn rfl (JB _ _ _ st li rv b ms ml mr mb mu _ Tf (Hp.owns (Li:=[_,_,_]) H.hp) 10 y.head _ _ _ hch (by omega)) rfl ?_;clear H;rintro v63 _ _ a w ⟨rfl,rfl,rfl⟩ - H;dsimp only [lca,aV] at H;refine kH H (aj iN rfl (SR fun _ kJ=>Rm rfl (Rc rfl (Kz kJ (Cd rfl ?_ ?_))))) <;> clear H iN kJ
   ·intro lZ a H
    try have p65:=dT lZ
    have hF1:(lI l.length (fun s=>iO (aP st li rv) note t l s) s).1=fP (aP st li rv) 10 y.head:=by rw [hE,hR2];simp [gF,jZ,e58,p65]
    have hF2:(lI l.length (fun s=>iO (aP st li rv) note t l s) s).1=0→(⟨s2.n,jU s2.bG y.id⟩:CS)=(lI l.length (fun s=>iO (aP st li rv) note t l s) s).2:=fun h=>absurd (hF1.symm.trans h) p65;exact kP H (SR fun _ kK=>Rm rfl (aj kK rfl (LR results168 rfl fun H=>H.hp.cK (L':=gN b ms ml mr mb mu s2.n :: (mb,gL (gT (jU s2.bG y.id))) :: L) (by repeat (first|exact cO _|apply List.Sublist.cons)) ⟨⟨s2.n,jU s2.bG y.id⟩,aB vi hF1.symm,rfl,hF2⟩)))
   intro lZ a H
   try have p65:=dF lZ
   have e65:fP (aP st li rv) 10 y.head=0:=gH.1 p65;refine kP H (Kc jo (SR fun _ jA=>Rm rfl (bg Cx jy 0 rfl rfl ?_)));clear H jo;intro a H;refine aW Qb (cs:=[_,_,_]) H wn rfl rfl (H.hp.dX 2 rfl rfl) rfl ?_;clear H;intro a H;refine gB KS (Li:=[_,_,_]) (L:=gN b ms ml mr mb mu s2.n :: (mb,gL (gT (jU s2.bG y.id))) :: L) H wn rfl (ih _ _ _ st li rv b ms ml mr mb mu ⟨s2.n,jU s2.bG y.id⟩ y.flow _ false note t Tf (Hp.owns (Li:=[_,_,_]) H.hp) hcf (by omega) ht0 BJ hm0 (by dsimp only;omega)) rfl ?_;clear H;rintro v71 _ _ a w ⟨rfl,s3,rfl,rfl,h3⟩ - H;dsimp only [lca,aV] at H;refine kH H (aj jA rfl (SR fun _ kT=>Rm rfl (Rc rfl (Kz kT (Cd rfl ?_ ?_))))) <;> clear H jA kT
   ·intro kW a H
    try have p73:=dT kW
    have hF1:(lI l.length (fun s=>iO (aP st li rv) note t l s) s).1=(jg (aP st li rv) false note t y.flow ⟨s2.n,jU s2.bG y.id⟩).1:=by rw [hE,hR2];simp [gF,jZ,e58,e65,p73]
    have hF2:(lI l.length (fun s=>iO (aP st li rv) note t l s) s).1=0→s3=(lI l.length (fun s=>iO (aP st li rv) note t l s) s).2:=fun h=>absurd (hF1.symm.trans h) p73;exact kP H (SR fun _ kU=>Rm rfl (aj kU rfl (LR results168 rfl fun H=>H.hp.cK (L':=gN b ms ml mr mb mu s3.n :: (mb,gL (gT s3.bG)) :: L) (by repeat (first|exact cO _|apply List.Sublist.cons)) ⟨s3,aB vi hF1.symm,rfl,hF2⟩)))
   intro kW a H
   try have p73:=dF kW
   have QW:(jg (aP st li rv) false note t y.flow ⟨s2.n,jU s2.bG y.id⟩).1=0:=gH.1 p73;obtain ⟨hu1,hu2⟩:=Qe (aP st li rv) false note t y.flow ⟨s2.n,jU s2.bG y.id⟩;rw [← h3 QW] at hu1 hu2;dsimp only at hu1 hu2
   have hS:gF (gF (gF (jZ s2 y.id) fun s=>gF (fP (aP st li rv) 10 y.head,s) fun s=>jg (aP st li rv) false note t y.flow s) fun s=>pK (aP st li rv) note t (l[k].cells.drop (c+1)) s) (fun s=>iO (aP st li rv) note t (l.drop (k+1)) s)=gF (pK (aP st li rv) note t (l[k].cells.drop (c+1)) s3) (fun s=>iO (aP st li rv) note t (l.drop (k+1)) s):=by
    rw [h3 QW];simp [gF,jZ,e58,e65,QW]
   refine kP H (Kc eU (SC (Rd rfl (Rm rfl ?_))));clear H eU;intro a H;refine aH ?_;refine dK ((c+1,s3,g2)) (by exact (H.dS (Pl:=[_,_,_,_,_]) (dL:=[_,_,_,_]) [1,2,3,4] (by decide) rfl).sub ⟨rfl,rfl,rfl,rfl,rfl,rfl,rfl,rfl,aC⟩) ?_ ?_
   ·(try dsimp only);exact ⟨by omega,Ow,hR2.trans hS,by omega,by omega⟩
   first|omega|(dsimp only;omega)
  intro h50 a H
  try have p50:=dF h50
  refine dW ?_;refine bC _ _ ?_;clear bC;refine kP H (SC (Rd rfl (Rm rfl ?_)));clear H;intro a H;refine aH ?_;refine dK ((k+1,s2,g2)) (by exact (H.dS (Pl:=[_,_,_,_]) (dL:=[_,_,_]) [1,2,3] (by decide) rfl).sub ⟨rfl,rfl,rfl,rfl,rfl,aC⟩) ?_ ?_
  ·(try dsimp only);exact ⟨by omega,kG,by rw [hR2,iw (by omega),pK,tF rfl],hm0,by omega⟩
  first|omega|(dsimp only;omega)
 intro bE a H
 try have jP:=dF bE
 refine dW ?_;refine K8 _ _ ?_;clear K8;refine aS (fun _ lM=>?_)
 have hF1:(lI l.length (fun s=>iO (aP st li rv) note t l s) s).1=0:=by rw [hE,hR,iw (by omega),iO]
 have hF2:(lI l.length (fun s=>iO (aP st li rv) note t l s) s).1=0→s1=(lI l.length (fun s=>iO (aP st li rv) note t l s) s).2:=fun h=>by rw [hE,hR,iw (by omega),iO]
 exact kP H (SC (aO lM rfl (LR results168 rfl fun H=>H.hp.cK (L':=gN b ms ml mr mb mu s1.n :: (mb,gL (gT s1.bG)) :: L) (by repeat (first|exact cO _|apply List.Sublist.cons)) ⟨s1,aB vi hF1.symm,rfl,hF2⟩)))
end
section
open Go.RowKit
theorem afm:∀ args w,(callFunc 168 args).run prog w=.ok (.enter 168 args) w:=enters func168 rfl (by kernel_rfl)
theorem afl:∀ args w,(callFunc 166 args).run prog w=.ok (.enter 166 args) w:=enters func166 rfl (by kernel_rfl)
theorem GU:dV prog 152 5 5:=⟨by kernel_rfl⟩
theorem ahk:dV prog 116 0 0:=⟨by kernel_rfl⟩
theorem alm {G:GH} {b:Nat} {x:Int} (h:G b=some (.cells #[vi x] 41 (0,0))):au G (.sl 1 ([x].map fun k=>[li k])) (.slice (some ⟨b,0,none⟩) 1 1):=Ig [x] h (show 1≤maxLen by decide)
theorem aky {m:Nat} (ih:IW m) (hm:m≤4294967296) (Gt:GH) (L:OL) (w0:World) (st:List bL) (li:List dH) (rv:List dh) (b ms ml mr mb mu:Nat) (s:CS) (x:aJ) (p d y f r:ak) (body note:Bool) (t:Int)
  (hck:xC Gt st li rv ms ml mr mu) (hO:ig Gt (gN b ms ml mr mb mu s.n :: (mb,gL (gT s.bG)) :: L) w0) (hh:ku Gt x.head p d y) (hf:au Gt (.sl 11 (x.flow.map aJ.dat)) f) (hr:au Gt (.sl 6 (x.rows.map bS.dat)) r) (hz:dQ x.dat≤m) (ht0:0≤t) (BJ:t≤4) (hs0:0≤s.n) (hs1:s.n+(dQ x.dat:Nat)≤1099511627776) :
  Calls prog 133 #[(aM b 0),.agg #[vi x.kind,vi x.code,vi x.id,.string x.text,p,vi x.head.marks.ins,vi x.head.marks.move,d,y,f,r],.agg #[.bool body,.bool note,vi t]] w0 (gy w0 Gt (gN b ms ml mr mb mu s.n :: (mb,gL (gT s.bG)) :: L) fun u G' L'=>Nb b ms ml mr mb mu L (fJ (aP st li rv) body note t x s) u L'):=by
 obtain ⟨pA,pn,pc,rfl⟩:=hh.props.form;obtain ⟨dA,dn,dc,rfl⟩:=hh.bR.form;obtain ⟨lA,ln,lc,rfl⟩:=hh.layers.form;obtain ⟨fA,fc,rfl,-⟩:=hf.slice;obtain ⟨rA,rc,rfl,-⟩:=hr.slice;(iterate 2 rw [bV] at *);have hxz:=uX x;have hcl:=Jf x.text
 have Uc:gU x≤x.text.size+1:=by unfold gU;split <;> omega
 have hE:=O8 (aP st li rv) body note t x s;refine jB (N:=117) (T:=[(0,_),(1,_),(2,_)]) func133 rfl ntmps133 rfl rfl hO ?_;intro a H;refine dw (fun _ K1=>?_);refine eD (cs:=[_,_,_,_,_,_,_,_,_,_,_]) H wn rfl rfl rfl ?_;clear H;intro b4 a w hb4 H;refine eD (cs:=[_,_,_]) H wn rfl rfl rfl ?_;clear H;intro b5 a w hb5 H;refine kH H (aj K1 rfl (SQ fun _ K2=>SR fun _ K3=>?_));clear H K1;intro a H;refine aW eZ (cs:=[_,_,_,_,_,_,_,_,_,_,_]) H wn rfl rfl (H.hp.dX 1 rfl rfl) rfl ?_;clear H;intro a H;refine s_call afl H wn rfl (ahG _ _ H.ro x _ _ _ _ _ _ _ (by omega)) rfl ?_;clear H;rintro v15 _ a w ⟨rfl,rfl⟩ - H;refine kH H (aj K3 rfl (SR fun _ K4=>Rm rfl (Rc rfl (Kz K4 (Cd rfl ?_ ?_))))) <;> clear H K3 K4
 ·intro bX a H
  try have kQ:=dT bX
  rw [uz (r:=(jN x,s)) kQ] at hE;exact kP H (SR fun _ K5=>Rm rfl (aj K5 rfl (LR results133 rfl fun H=>H.hp.cK (L':=gN b ms ml mr mb mu s.n :: (mb,gL (gT s.bG)) :: L) (by repeat (first|exact cO _|apply List.Sublist.cons)) ⟨s,by rw [hE],rfl,fun h=>by rw [hE]⟩)))
 intro bX a H
 try have kQ:=dF bX
 rw [tF (r:=(jN x,s)) (gH.1 kQ)] at hE;dsimp only at hE;refine kP H (Kc K2 (SR fun _ K6=>Rm rfl (Rk rfl (bg GU aD 2 rfl rfl (Rd rfl (Rk rfl (Rf GU rfl ?_)))))));clear H K2;intro a H;refine bN aD 2 (vs:=[_]) _ H wn rfl rfl rfl rfl rfl rfl rfl rfl ?_;clear H;intro w H;dsimp only [List.set,setRow] at H;refine K6 _ _ ?_;clear K6;refine qL (ι:=CS × GH) (Tc:=[(0,_),(4,_),(5,_)]) (Lc:=[(_,_),(_,_)]) (fun gh=>[]) (fun gh=>[gN b ms ml mr mb mu gh.1.n,(mb,gL (gT gh.1.bG))]++L) (fun gh=>gh.2) (fun gh=>lg body note t x.kind x.id ⟨s.n+(gU x:Nat),s.bG⟩=(0,gh.1)∧(∀ b o,Gt b=some o→gh.2 b=some o)∧gh.1.n=s.n+(gU x:Nat)∧(x.kind=7→t < 4)) (by exact (H).sub ⟨rfl,rfl,rfl,aC⟩) ?_ ?_
 ·skip;refine kP H (SR fun _ K7=>bg gJ aD 1 rfl rfl (Kz K7 (SB (SR fun _ K8=>Rc rfl (aj K8 rfl (Cd rfl ?_ ?_)))))) <;> clear H K7 K8
  ·intro gQ a H
   try have p28:=dT gQ
   have hu:((gU x:Nat):Int)=xL x.text:=by rw [gU,av p28]
   refine kP H (SR fun _ K9=>bg tJ gD 1 rfl rfl ?_);clear H;intro a H;refine s_call NZ H wn rfl (NC _ _ H.ro x.text (by omega)) rfl ?_;clear H;rintro v33 _ a w ⟨rfl,rfl⟩ - H;refine kH H (Rm rfl ?_);clear H;intro a H;(iterate 2 refine uT H wn rfl rfl rfl ?_;clear H;intro a H);refine kH H (Ra rfl (aj K9 rfl (SC (Rm rfl (Rk rfl (bg GU aD 2 rfl rfl (Rm rfl (Rs rfl (Rd rfl ?_)))))))));clear H K9;intro a H;rw [show s.n+1+((xL x.text:Int) - 1)=s.n+(gU x:Nat) by omega] at H;refine kH H (Rk rfl (Rf GU rfl ?_));clear H;intro a H;refine bN aD 2 (vs:=[_]) _ H wn rfl rfl rfl rfl rfl rfl rfl rfl ?_;clear H;intro w H;dsimp only [List.set,setRow] at H;refine aH ?_;refine ⟨(⟨s.n+(gU x:Nat),s.bG⟩,Gt),by exact (H).sub ⟨rfl,rfl,rfl,aC⟩,?_⟩;(try dsimp only)
   first
   | exact ⟨by simp_all [lg,bQ,gF,jZ],fun _ _ h=>h,rfl,fun h7=>by first|omega|(exfalso;simp_all)⟩
   | exact ⟨by simp_all [lg,bQ,gF,jZ],zG,rfl,fun h7=>by first|omega|(exfalso;simp_all)⟩
  intro gQ a H
  try have p28:=dF gQ
  have hu:((gU x:Nat):Int)=1:=by rw [gU,ah p28];rfl
  rw [show s.n+1=s.n+((gU x:Nat):Int) by omega] at H;refine kP H (SR fun _ aT=>Rc rfl (aj aT rfl (Cd rfl ?_ ?_))) <;> clear H aT
  ·intro h45 a H
   try have p45:=dT h45
   refine kP H (SR fun _ bB=>bg ahk uf 0 rfl rfl (Rn rfl (Kz bB (Cd rfl ?_ ?_)))) <;> clear H bB
   ·intro qx a H
    try have p49:=dT qx
    refine aS (fun _ bC=>?_)
    have hF1:(fJ (aP st li rv) body note t x s).1=19:=by rw [hE];simp [gF,lg,p45,bQ,qx]
    have hF2:(fJ (aP st li rv) body note t x s).1=0→(⟨s.n+(gU x:Nat),s.bG⟩:CS)=(fJ (aP st li rv) body note t x s).2:=fun h=>absurd (hF1.symm.trans h) (by decide);exact kP H (SC (aO bC rfl (LR results133 rfl fun H=>H.hp.cK (L':=gN b ms ml mr mb mu (s.n+(gU x:Nat)) :: (mb,gL (gT (s.bG))) :: L) (by repeat (first|exact cO _|apply List.Sublist.cons)) ⟨⟨s.n+(gU x:Nat),s.bG⟩,aB vi hF1.symm,rfl,hF2⟩)))
   intro qx a H
   try have p49:=dF qx
   refine fu ?_;refine ⟨(⟨s.n+(gU x:Nat),s.bG⟩,Gt),by exact (H).sub ⟨rfl,rfl,rfl,aC⟩,?_⟩;(try dsimp only)
   first
   | exact ⟨by simp_all [lg,bQ,gF,jZ],fun _ _ h=>h,rfl,fun h7=>by first|omega|(exfalso;simp_all)⟩
   | exact ⟨by simp_all [lg,bQ,gF,jZ],zG,rfl,fun h7=>by first|omega|(exfalso;simp_all)⟩
  intro h45 a H
  try have p45:=dF h45
  refine kP H (SR fun _ bK=>Rc rfl (aj bK rfl (Cd rfl ?_ ?_))) <;> clear H bK
  ·intro h50 a H
   try have p50:=dT h50
   refine kP H (SQ fun _ bP=>SR fun _ dx=>bg RA uf 0 rfl rfl ?_);clear H;intro a H;refine s_call kD H wn rfl (kI _ _ H.ro _ 19) rfl ?_;clear H;rintro v54 _ a w ⟨rfl,rfl⟩ - H;refine jJ qZ iW [_] [_] H wn rfl rfl rfl rfl rfl (by intro i q h;match i,h with|0,h=>exact h|n+1,h=>simp at h) rfl rfl ?_;clear H;intro b55 a w aoQ H;obtain ⟨Qu,zG,aiD,H⟩:=H.eG;refine s_call sj H wn rfl (sw _ _ H.ro _ _ (alm aiD)) rfl ?_;clear H;rintro v56 _ a w ⟨rfl,rfl⟩ - H;refine kH H (aj dx rfl (SR fun _ dP=>Rm rfl (Rc rfl (Kz dP (Cd rfl ?_ ?_))))) <;> clear H dx dP
   ·intro jk a H
    try have p58:=dT jk
    have e58:bQ note 19≠0:=fun h=>p58 (by rw [h];rfl)
    have akb:bT [bQ note 19]=bQ note 19:=by simp [bT,e58]
    rw [akb] at H
    have hF1:(fJ (aP st li rv) body note t x s).1=bQ note 19:=by rw [hE];simp [gF,lg,p50,e58]
    have hF2:(fJ (aP st li rv) body note t x s).1=0→(⟨s.n+(gU x:Nat),s.bG⟩:CS)=(fJ (aP st li rv) body note t x s).2:=fun h=>absurd (hF1.symm.trans h) (e58);exact kP H (SR fun _ dB=>Rm rfl (aj dB rfl (LR results133 rfl fun H=>H.hp.cK (L':=gN b ms ml mr mb mu (s.n+(gU x:Nat)) :: (mb,gL (gT (s.bG))) :: L) (by repeat (first|exact cO _|apply List.Sublist.cons)) ⟨⟨s.n+(gU x:Nat),s.bG⟩,aB vi hF1.symm,rfl,hF2⟩)))
   intro jk a H
   try have p58:=dF jk
   have e58:bQ note 19=0:=Decidable.byContradiction fun h=>p58 (by simp [bT,h]);refine kP H (Kc bP (SR fun _ dY=>Rm rfl (bg wL aD 1 rfl rfl ?_)));clear H bP;intro a H;refine gB Rb (Li:=[_,_]) (L:=gN b ms ml mr mb mu _ :: (mb,gL (gT s.bG)) :: L) H wn rfl (QM _ _ _ st li rv b ms ml mr mb mu _ s.bG x.id (hck.mono zG) (Hp.owns (Li:=[_,_]) H.hp)) rfl ?_;clear H;rintro v63 _ _ a w ⟨rfl,rfl,rfl⟩ - H;dsimp only [lca,aV] at H;refine kH H (aj dY rfl (SR fun _ eP=>Rm rfl (Rc rfl (Kz eP (Cd rfl ?_ ?_))))) <;> clear H dY eP
   ·intro lZ a H
    try have p65:=dT lZ
    have hF1:(fJ (aP st li rv) body note t x s).1=oK s.bG x.id:=by rw [hE];simp [gF,lg,p50,e58,jZ,p65]
    have hF2:(fJ (aP st li rv) body note t x s).1=0→(⟨s.n+(gU x:Nat),jU s.bG x.id⟩:CS)=(fJ (aP st li rv) body note t x s).2:=fun h=>absurd (hF1.symm.trans h) (p65);exact kP H (SR fun _ dZ=>Rm rfl (aj dZ rfl (LR results133 rfl fun H=>H.hp.cK (L':=gN b ms ml mr mb mu (s.n+(gU x:Nat)) :: (mb,gL (gT (jU s.bG x.id))) :: L) (by repeat (first|exact cO _|apply List.Sublist.cons)) ⟨⟨s.n+(gU x:Nat),jU s.bG x.id⟩,aB vi hF1.symm,rfl,hF2⟩)))
   intro lZ a H
   try have p65:=dF lZ
   have e65:oK s.bG x.id=0:=gH.1 p65;refine fu ?_;refine ⟨(⟨s.n+(gU x:Nat),jU s.bG x.id⟩,Qu),by exact (H).sub ⟨rfl,rfl,rfl,aC⟩,?_⟩;(try dsimp only)
   first
   | exact ⟨by simp_all [lg,bQ,gF,jZ],fun _ _ h=>h,rfl,fun h7=>by first|omega|(exfalso;simp_all)⟩
   | exact ⟨by simp_all [lg,bQ,gF,jZ],zG,rfl,fun h7=>by first|omega|(exfalso;simp_all)⟩
  intro h50 a H
  try have p50:=dF h50
  refine kP H (SR fun _ eU=>Rc rfl (aj eU rfl (Cd rfl ?_ ?_))) <;> clear H eU
  ·intro Bt a H
   try have p67:=dT Bt
   refine kP H (SQ fun _ fK=>SR fun _ gM=>bg KX aD 0 rfl rfl (Rc rfl (Kz gM (Cd rfl ?_ ?_)))) <;> clear H gM
   ·intro uN a H
    try have p71:=dT uN
    refine aS (fun _ iC=>?_)
    have hF1:(fJ (aP st li rv) body note t x s).1=17:=by rw [hE];simp [gF,lg,p67,bQ,p71]
    have hF2:(fJ (aP st li rv) body note t x s).1=0→(⟨s.n+(gU x:Nat),s.bG⟩:CS)=(fJ (aP st li rv) body note t x s).2:=fun h=>absurd (hF1.symm.trans h) (by decide);exact kP H (SC (aO iC rfl (LR results133 rfl fun H=>H.hp.cK (L':=gN b ms ml mr mb mu (s.n+(gU x:Nat)) :: (mb,gL (gT (s.bG))) :: L) (by repeat (first|exact cO _|apply List.Sublist.cons)) ⟨⟨s.n+(gU x:Nat),s.bG⟩,aB vi hF1.symm,rfl,hF2⟩)))
   intro uN a H
   try have p71:=dF uN
   have e71:¬ 4≤t:=by omega
   refine kP H (Kc fK (SR fun _ gu=>Rm rfl (bg wL aD 1 rfl rfl ?_)));clear H fK;intro a H;refine gB Rb (Li:=[_,_]) (L:=gN b ms ml mr mb mu _ :: (mb,gL (gT s.bG)) :: L) H wn rfl (QM _ _ _ st li rv b ms ml mr mb mu _ s.bG x.id hck (Hp.owns (Li:=[_,_]) H.hp)) rfl ?_;clear H;rintro v75 _ _ a w ⟨rfl,rfl,rfl⟩ - H;dsimp only [lca,aV] at H;refine kH H (aj gu rfl (SR fun _ iX=>Rm rfl (Rc rfl (Kz iX (Cd rfl ?_ ?_))))) <;> clear H gu iX
   ·intro zw a H
    try have Fz:=dT zw
    have hF1:(fJ (aP st li rv) body note t x s).1=oK s.bG x.id:=by rw [hE];simp [gF,lg,p67,bQ,e71,jZ,Fz]
    have hF2:(fJ (aP st li rv) body note t x s).1=0→(⟨s.n+(gU x:Nat),jU s.bG x.id⟩:CS)=(fJ (aP st li rv) body note t x s).2:=fun h=>absurd (hF1.symm.trans h) (Fz);exact kP H (SR fun _ jo=>Rm rfl (aj jo rfl (LR results133 rfl fun H=>H.hp.cK (L':=gN b ms ml mr mb mu (s.n+(gU x:Nat)) :: (mb,gL (gT (jU s.bG x.id))) :: L) (by repeat (first|exact cO _|apply List.Sublist.cons)) ⟨⟨s.n+(gU x:Nat),jU s.bG x.id⟩,aB vi hF1.symm,rfl,hF2⟩)))
   intro zw a H
   try have Fz:=dF zw
   have e77:oK s.bG x.id=0:=gH.1 Fz;refine fu ?_;refine ⟨(⟨s.n+(gU x:Nat),jU s.bG x.id⟩,Gt),by exact (H).sub ⟨rfl,rfl,rfl,aC⟩,?_⟩;(try dsimp only)
   first
   | exact ⟨by simp_all [lg,bQ,gF,jZ],fun _ _ h=>h,rfl,fun h7=>by first|omega|(exfalso;simp_all)⟩
   | exact ⟨by simp_all [lg,bQ,gF,jZ],zG,rfl,fun h7=>by first|omega|(exfalso;simp_all)⟩
  intro Bt a H
  try have p67:=dF Bt
  refine kP H (SR fun _ iN=>Rc rfl (aj iN rfl (Cd rfl ?_ ?_))) <;> clear H iN
  ·intro jd a H
   try have zO:=dT jd
   refine kP H (SR fun _ kJ=>bg wL aD 1 rfl rfl ?_);clear H;intro a H;refine s_call ze H wn rfl (zL _ _ H.ro x.id 1 1073741824) rfl ?_;clear H;rintro v83 _ a w ⟨rfl,rfl⟩ - H;refine kH H (Rn rfl (Kz kJ (Cd rfl ?_ ?_))) <;> clear H kJ
   ·intro h84 a H
    try have UW:=dT h84
    refine aS (fun _ kK=>?_)
    have e84:¬ (1≤x.id∧x.id≤1073741824):=by have h0:=h84;simp at h0;omega
    have hF1:(fJ (aP st li rv) body note t x s).1=18:=by rw [hE];simp [gF,lg,zO,bQ,e84]
    have hF2:(fJ (aP st li rv) body note t x s).1=0→(⟨s.n+(gU x:Nat),s.bG⟩:CS)=(fJ (aP st li rv) body note t x s).2:=fun h=>absurd (hF1.symm.trans h) (by decide);exact kP H (SC (aO kK rfl (LR results133 rfl fun H=>H.hp.cK (L':=gN b ms ml mr mb mu (s.n+(gU x:Nat)) :: (mb,gL (gT (s.bG))) :: L) (by repeat (first|exact cO _|apply List.Sublist.cons)) ⟨⟨s.n+(gU x:Nat),s.bG⟩,aB vi hF1.symm,rfl,hF2⟩)))
   intro h84 a H
   try have UW:=dF h84
   refine fu ?_;refine ⟨(⟨s.n+(gU x:Nat),s.bG⟩,Gt),by exact (H).sub ⟨rfl,rfl,rfl,aC⟩,?_⟩;(try dsimp only)
   first
   | exact ⟨by simp_all [lg,bQ,gF,jZ],fun _ _ h=>h,rfl,fun h7=>by first|omega|(exfalso;simp_all)⟩
   | exact ⟨by simp_all [lg,bQ,gF,jZ],zG,rfl,fun h7=>by first|omega|(exfalso;simp_all)⟩
  intro jd a H
  try have zO:=dF jd
  refine fu ?_;refine ⟨(⟨s.n+(gU x:Nat),s.bG⟩,Gt),by exact (H).sub ⟨rfl,rfl,rfl,aC⟩,?_⟩;(try dsimp only)
  first
  | exact ⟨by simp_all [lg,bQ,gF,jZ],fun _ _ h=>h,rfl,fun h7=>by first|omega|(exfalso;simp_all)⟩
  | exact ⟨by simp_all [lg,bQ,gF,jZ],zG,rfl,fun h7=>by first|omega|(exfalso;simp_all)⟩
 clear H;intro gh a w hI H;obtain ⟨s1,g⟩:=gh;dsimp only at hI H;obtain ⟨hP,zH,aps,Zx⟩:=hI;rw [hP,tF rfl] at hE;dsimp only at hE;replace hck:=hck.mono zH;replace hh:=hh.mono zH;replace hf:=hf.mono zH;replace hr:=hr.mono zH;dsimp only [lca,aV] at H;refine kP H (SQ fun _ jA=>SR fun _ kT=>Rm rfl (bg gJ aD 1 rfl rfl (Rf DL rfl ?_)));clear H;intro a H;refine aW lJ (cs:=[_,_,_,_,_]) H wn rfl rfl (H.hp.dX 1 rfl rfl) rfl ?_;clear H;intro a H;refine gB Jk (Li:=[_,_]) (L:=gN b ms ml mr mb mu s1.n :: (mb,gL (gT s1.bG)) :: L) H wn rfl (JB _ _ _ st li rv b ms ml mr mb mu _ hck (Hp.owns (Li:=[_,_]) H.hp) x.kind x.head _ _ _ hh (by omega)) rfl ?_;clear H;rintro v90 _ _ a w ⟨rfl,rfl,rfl⟩ - H;dsimp only [lca,aV] at H;refine kH H (aj kT rfl (SR fun _ kU=>Rm rfl (Rc rfl (Kz kU (Cd rfl ?_ ?_))))) <;> clear H kT kU
 ·intro zx a H
  try have JQ:=dT zx
  have hF1:(fJ (aP st li rv) body note t x s).1=fP (aP st li rv) x.kind x.head:=by rw [hE,uz (r:=(fP (aP st li rv) x.kind x.head,s1)) JQ]
  have hF2:(fJ (aP st li rv) body note t x s).1=0→s1=(fJ (aP st li rv) body note t x s).2:=fun h=>absurd (hF1.symm.trans h) JQ;exact kP H (SR fun _ lM=>Rm rfl (aj lM rfl (LR results133 rfl fun H=>H.hp.cK (L':=gN b ms ml mr mb mu (s1.n) :: (mb,gL (gT (s1.bG))) :: L) (by repeat (first|exact cO _|apply List.Sublist.cons)) ⟨s1,aB vi hF1.symm,rfl,hF2⟩)))
 intro zx a H
 try have JQ:=dF zx
 rw [tF (r:=(fP (aP st li rv) x.kind x.head,s1)) (gH.1 JQ)] at hE;dsimp only at hE;refine kP H (Kc jA (SQ fun _ lN=>SR fun _ lQ=>bg gJ aD 1 rfl rfl (Kz lQ (SB (SR fun _ mo=>Rc rfl (aj mo rfl (Cd rfl ?_ ?_))))))) <;> clear H jA lQ mo
 ·intro uO a H
  try have MJ:=dT uO
  rw [av MJ] at hE;refine kP H (SR fun _ rz=>Rm rfl (bg Al jy 1 rfl rfl (bg KX aD 0 rfl rfl ?_)));clear H;intro a H;refine nk FH [_,_,_] H wn rfl rfl rfl rfl ?_;clear H;intro a H;refine gB KS (Li:=[_,_]) (L:=gN b ms ml mr mb mu s1.n :: (mb,gL (gT s1.bG)) :: L) H wn rfl (ih _ _ _ st li rv b ms ml mr mb mu s1 x.flow _ false true t hck (Hp.owns (Li:=[_,_]) H.hp) hf (by omega) ht0 BJ (by omega) (by omega)) rfl ?_;clear H;rintro apE _ _ a w ⟨rfl,s3,rfl,rfl,h3⟩ - H;dsimp only [lca,aV] at H
  have hF1:(fJ (aP st li rv) body note t x s).1=(jg (aP st li rv) false true t x.flow s1).1:=by rw [hE]
  have hF2:(fJ (aP st li rv) body note t x s).1=0→s3=(fJ (aP st li rv) body note t x s).2:=by rw [hE];exact h3
  exact kH H (aj rz rfl (LR results133 rfl fun H=>H.hp.cK (L':=gN b ms ml mr mb mu (s3.n) :: (mb,gL (gT (s3.bG))) :: L) (by repeat (first|exact cO _|apply List.Sublist.cons)) ⟨s3,aB vi hF1.symm,rfl,hF2⟩))
 intro uO a H
 try have MJ:=dF uO
 rw [ah MJ] at hE;refine kP H (SR fun _ wm=>Rc rfl (aj wm rfl (Cd rfl ?_ ?_))) <;> clear H wm
 ·intro sF a H
  try have JO:=dT sF
  rw [av JO] at hE;refine kP H (SR fun _ lS=>Rm rfl (bg zk zV 1 rfl rfl (bg RA uf 0 rfl rfl (bg KX aD 0 rfl rfl (Rd rfl ?_)))));clear H;intro a H;refine nk FH [_,_,_] H wn rfl rfl rfl rfl ?_;clear H;intro a H;refine gB afm (Li:=[_,_]) (L:=gN b ms ml mr mb mu s1.n :: (mb,gL (gT s1.bG)) :: L) H wn rfl (rows_ok ih hm _ _ _ st li rv b ms ml mr mb mu s1 x.rows _ note (t+1) hck (Hp.owns (Li:=[_,_]) H.hp) hr (by omega) (by omega) (by have:=Zx JO;omega) (by omega) (by omega)) rfl ?_;clear H;rintro apG _ _ a w ⟨s3,rfl,rfl,h3⟩ - H;dsimp only [lca,aV] at H
  have hF1:(fJ (aP st li rv) body note t x s).1=(lI x.rows.length (fun s=>iO (aP st li rv) note (t+1) x.rows s) s1).1:=by rw [hE]
  have hF2:(fJ (aP st li rv) body note t x s).1=0→s3=(fJ (aP st li rv) body note t x s).2:=by rw [hE];exact h3
  exact kH H (aj lS rfl (LR results133 rfl fun H=>H.hp.cK (L':=gN b ms ml mr mb mu (s3.n) :: (mb,gL (gT (s3.bG))) :: L) (by repeat (first|exact cO _|apply List.Sublist.cons)) ⟨s3,aB vi hF1.symm,rfl,hF2⟩))
 intro sF a H
 try have JO:=dF sF
 rw [ah JO] at hE
 have hF1:(fJ (aP st li rv) body note t x s).1=0:=by rw [hE]
 have hF2:(fJ (aP st li rv) body note t x s).1=0→s1=(fJ (aP st li rv) body note t x s).2:=fun h=>by rw [hE]
 exact kP H (Kc lN (SR fun _ yQ=>aj yQ rfl (LR results133 rfl fun H=>H.hp.cK (L':=gN b ms ml mr mb mu (s1.n) :: (mb,gL (gT (s1.bG))) :: L) (by repeat (first|exact cO _|apply List.Sublist.cons)) ⟨s1,aB vi hF1.symm,rfl,hF2⟩)))
end
section
open Go.RowKit
theorem aeR:∀ args w,(callFunc 133 args).run prog w=.ok (.enter 133 args) w:=enters func133 rfl (by kernel_rfl)
theorem aeQ:∀ args w,(callFunc 132 args).run prog w=.ok (.enter 132 args) w:=enters func132 rfl (by kernel_rfl)
def V5 (fv:ak) (Gi:GH) (n:Nat) (E:Nat→Int) {σ:Type} (B:σ→OL) (S:Nat→σ):Prop:=∀ i,i < n→∀ (G1:GH) (w1:World),(∀ b o,Gi b=some o→G1 b=some o)→ig G1 (B (S i)) w1 →
 xB prog fv [vi i] w1 (gy w1 G1 (B (S i)) fun u G' L'=>∃ s,u=vi (E i)∧L'=B s∧(E i=0→s=S (i+1)))
theorem acH (G:GH) (w0:World) {σ:Type} (B:σ→OL) (S:Nat→σ) (n:Nat) (E:Nat→Int) (fv:ak) (hO:ig G (B (S 0)) w0) (hn:n≤4611686018427387904) (hf:V5 fv G n E B S) :
  Calls prog 123 #[vi n,fv] w0 (gy w0 G (B (S 0)) fun u G' L'=>∃ s,u=vi (iI E n)∧L'=B s∧(iI E n=0→s=S n)):=by
 refine jB (N:=18) (T:=[(0,_),(1,_)]) func123 rfl ntmps123 rfl rfl hO ?_;intro a H;refine kP H (SR fun _ K1=>aj K1 rfl (SQ fun _ K2=>SR fun _ K3=>Rm rfl (Rm rfl (Kz K3 (SB ?_)))));clear H K1 K3;intro a H;skip;refine eH (ι:=Nat × GH) (Tc:=[(1,_),(7,_)]) (Lc:=[]) (fun gh=>[(8,vi gh.1)]) (fun gh=>[]++B (S gh.1)) (fun gh=>gh.2) (fun gh=>gh.1≤n∧bT (((List.range n).map E).drop gh.1)=iI E n∧(∀ b o,G b=some o→gh.2 b=some o)) (fun gh=>n - gh.1) ((0,G)) (by exact (H).sub ⟨rfl,rfl,rfl,aC⟩) ?_ ?_
 ·exact ⟨iF _,rfl,fun _ _ h=>h⟩
 clear H;intro gh a w hI H;obtain ⟨k,g⟩:=gh;dsimp only at hI H;obtain ⟨hk,he,hgm⟩:=hI;dsimp only [lca,aV] at H;refine kP H (SR fun _ K4=>Rc rfl (Kz K4 (SQ fun _ K5=>Cd rfl ?_ ?_))) <;> clear H K4
 ·intro h9 a H
  try have p9:=dT h9
  have hk2:k < n:=by omega
  refine kP H (Kc K5 (SQ fun _ K6=>SB (SR fun _ K7=>Rm rfl (aj K7 rfl (SR fun _ K8=>Rm rfl (Rm rfl ?_))))));clear H K5 K7;intro a H;refine yG (Li:=[]) (L:=B (S k)) H wn rfl rfl (hf k hk2 _ _ hgm (Hp.owns (Li:=[]) H.hp)) rfl ?_;clear H;rintro v13 yO L13 a w ⟨s3,rfl,rfl,h3⟩ nT H;refine kH H (aj K8 rfl (SR fun _ K9=>Rm rfl (Rc rfl (Kz K9 (Cd rfl ?_ ?_))))) <;> clear H K8 K9
  ·intro fM a H
   try have oL:=dT fM
   have hE:iI E n=E k:=by rw [qJ hk2,av oL] at he;exact he.symm
   exact kP H (SR fun _ aT=>Rm rfl (aj aT rfl (LR results123 rfl fun H=>H.hp.eB ⟨s3,by rw [hE],rfl,fun h=>absurd (hE.symm.trans h) oL⟩)))
  intro fM a H
  try have oL:=dF fM
  have hS:=h3 (gH.1 oL);subst hS;refine kP H (Kc K6 (SC (Rd rfl (Rm rfl ?_))));clear H K6;intro a H;refine aH ?_;refine dK ((k+1,yO)) (by exact (H).sub ⟨rfl,rfl,rfl,aC⟩) ?_ ?_
  ·(try dsimp only);exact ⟨by omega,by rw [qJ hk2,ah oL] at he;exact he,fun b o h=>nT b o (hgm b o h)⟩
  first|omega|(dsimp only;omega)
 intro h9 a H
 try have p9:=dF h9
 refine dW ?_;refine K2 _ _ ?_;clear K2;exact kP H (SR fun _ bB=>aj bB rfl (LR results123 rfl fun H=>H.hp.eB ⟨S n,aB vi (by rw [iw (by simp;omega)] at he;exact he),by rw [show k=n by omega],fun _=>rfl⟩))
abbrev Ny (b ms ml mr mb mu:Nat) (L:OL) (s:CS):OL:=gN b ms ml mr mb mu s.n :: (mb,gL (gT s.bG)) :: L
theorem akx {m:Nat} (ih:IW m) (hm:m≤4294967296) {G:GH} {L:OL} {st:List bL} {li:List dH} {rv:List dh} {b ms ml mr mb mu:Nat} {s:CS} {l:List aJ} {v:ak} {body note:Bool} {t:Int} {x3 x4 x5:Nat}
  (hck:xC G st li rv ms ml mr mu) (h3:aF G x3 0=some (aM b 0)) (h4:aF G x4 0=some v) (h5:∀ (j:Nat) (u:ak),[.bool body,.bool note,vi t][j]?=some u→aF G x5 (0+j)=some u)
  (hv:au G (.sl 11 (l.map aJ.dat)) v) (hz:bU l≤m) (ht0:0≤t) (BJ:t≤4) (hs0:0≤s.n) (hs1:s.n+(bU l:Nat)≤1099511627776) :
  V5 (.func (.func 132) #[] #[(aM x3 0),(aM x4 0),(aM x5 0)]) G l.length (DK (fJ (aP st li rv) body note t) l s) (Ny b ms ml mr mb mu L) (rU (fJ (aP st li rv) body note t) l s):=by
 intro k hk G1 w0 Mc hO;refine mF (caps:=[(aM x3 0),(aM x4 0),(aM x5 0)]) aeQ ?_;replace h3:=ay Mc h3;replace h4:=ay Mc h4;replace h5:=fun j u hj=>ay Mc (h5 j u hj);replace hck:=hck.mono Mc;replace hv:=hv.mono Mc;obtain ⟨A,c,rfl,hc1,hc2,hg⟩:=hv.slice;rw [bV] at *;obtain ⟨o,xo,pA,pn,pc,dA,dn,dc,yA,yn,yc,fA,fn,fc,rA,rn,rc,rfl,hrow,hhd,hfl,hrw⟩:=GX hk hg;obtain ⟨hn0,hn1⟩:=abM (aP st li rv) body note t l s k (by omega)
 have hdz:bU (l.drop k)=1+dQ l[k].dat+bU (l.drop (k+1)):=by
  simp only [bU];rw [nD hk,iq,fE]
 have Uh:=M9 (jW hk)
 have hE:DK (fJ (aP st li rv) body note t) l s k=(fJ (aP st li rv) body note t l[k] (rU (fJ (aP st li rv) body note t) l s k)).1:=by unfold DK;rw [fT hk]
 have hS:rU (fJ (aP st li rv) body note t) l s (k+1)=(fJ (aP st li rv) body note t l[k] (rU (fJ (aP st li rv) body note t) l s k)).2:=by rw [rU,fT hk]
 rw [hE,hS]
 generalize rU (fJ (aP st li rv) body note t) l s k=s1 at *
 refine jB (N:=13) (T:=[(0,_),(1,_),(2,_),(3,_)]) func132 rfl ntmps132 rfl rfl hO ?_;intro a H;refine kP H (SR fun _ K1=>aj K1 rfl (SQ fun _ K2=>?_));clear H K1;intro a H;refine dI hmx [[],[],[],[1,2],[1,2,3],[],(ra 0 6),(ra 0 7)] [6,7] (by kernel_rfl) [_,_,_,_,.agg #[vi l[k].kind,vi l[k].code,vi l[k].id,.string l[k].text,.slice pA pn pc,vi l[k].head.marks.ins,vi l[k].head.marks.move,.slice dA dn dc,.slice yA yn yc,.slice fA fn fc,.slice rA rn rc],.agg #[.bool body,.bool note,vi t]] H (aG (X0 rfl fun hG=>Rg J7 rfl (ay hG h3)) (X0 rfl fun hG=>Rg jy rfl (ay hG h4)) (Z0 rfl (Rm rfl)) (Z2 1 7 2 8 rfl (Ri lu eZ rfl rfl)) (aG ?_ ?_ (bY rfl) (bY rfl) dD)) ?_
 ·refine dN 3 9 rfl rfl fun _ a w G1 hG HT H fin=>?_;refine aW eZ (cs:=[_,_,_,_,_,_,_,_,_,_,_]) H wn rfl rfl (fun j v hj=>H.hp.aF (ay hG (hrow j v hj))) rfl ?_;clear H;intro a H;exact fin H iJ rfl
 ·refine yR rfl fun _ a w G1 hG HT H fin=>?_;refine aW Qb (cs:=[.bool body,.bool note,vi t]) H wn rfl rfl (fun j v hj=>H.hp.aF (ay hG (h5 j v hj))) rfl ?_;clear H;intro a H;exact fin H iJ rfl
 clear H;intro a w G jY H hv;have H:=H.aZ (hv 0 6 rfl rfl) rfl;have H:=H.aZ (hv 4 10 rfl rfl) rfl;have H:=H.aZ (hv 5 11 rfl rfl) rfl;clear hv;refine gB aeR (Li:=[]) (L:=Ny b ms ml mr mb mu L s1) H wn rfl (aky ih hm _ _ _ st li rv b ms ml mr mb mu s1 l[k] _ _ _ _ _ body note t (hck.mono jY) (Hp.owns (Li:=[]) H.hp) (hhd.mono jY) (hfl.mono jY) (hrw.mono jY) (by omega) ht0 BJ (by omega) (by omega)) rfl ?_;clear H;rintro v12 _ _ a w ⟨s3,rfl,rfl,h12⟩ - H;dsimp only [List.nil_append] at H;refine kH H (Ra rfl ?_);clear H;intro a H;refine aH ⟨rfl,?_⟩;refine K2 _ _ ?_;clear K2;refine lr H results132 rfl ?_;exact H.hp.eB ⟨s3,rfl,rfl,h12⟩
theorem akA {m:Nat} (ih:IW m) (hm:m≤4294967296):IW (m+1):=by
 intro G L w0 st li rv b ms ml mr mb mu s l v body note t hck hO hv hz ht0 BJ hs0 hs1;obtain ⟨hA1,hA2⟩:=ZU (aP st li rv) body note t l s;refine Calls.acL (R:=fun u G' L'=>Nb b ms ml mr mb mu L (jg (aP st li rv) body note t l s) u L') ?_ fun _ _ _ h=>h;obtain ⟨A,c,rfl,hc1,hc2,-⟩:=hv.slice;rw [bV] at *;have hll:=FT l;refine jB (N:=11) (T:=[(0,_),(1,_),(2,_)]) func71 rfl ntmps71 rfl rfl hO ?_;intro a H;refine dw (fun _ K1=>?_);refine eD (cs:=[_]) H wn rfl rfl rfl ?_;clear H;intro b3 a w hb3 H;refine eD (cs:=[_]) H wn rfl rfl rfl ?_;clear H;intro b4 a w hb4 H;refine eD (cs:=[_,_,_]) H wn rfl rfl rfl ?_;clear H;intro b5 a w hb5 H;refine kH H (aj K1 rfl (SQ fun _ K2=>?_));clear H K1;intro a H;obtain ⟨Ga5,OE,zC,H⟩:=H.eG;obtain ⟨Ga4,JF,Bv,H⟩:=H.eG;obtain ⟨Ga,Fj,sM,H⟩:=H.eG;replace zC:=Fj _ _ (JF _ _ zC);replace Bv:=Fj _ _ Bv;have hma:∀ b o,G b=some o→Ga b=some o:=fun b o h=>Fj _ _ (JF _ _ (OE _ _ h))
 have g3:aF Ga b3 0=some (aM b 0):=by unfold aF;rw [sM];rfl
 have g4:aF Ga b4 0=some (.slice A l.length c):=by unfold aF;rw [Bv];rfl
 have g5:∀ (j:Nat) (u:ak),[.bool body,.bool note,vi t][j]?=some u→aF Ga b5 (0+j)=some u:=by
  intro j u hj;unfold aF;rw [zC];simpa using hj
 have hcb:=akx (mb:=mb) (L:=L) (s:=s) ih hm (hck.mono hma) g3 g4 g5 (hv.mono hma) (by omega) ht0 BJ hs0 hs1;refine kP H (SC (Rg jy rfl (by assumption) ?_));clear H;intro a H;refine kH H (Rl lu rfl ?_);clear H;intro a H;refine qX H wn rfl rfl ?_;clear H;intro a H;refine gB Jj (Li:=[]) (L:=Ny b ms ml mr mb mu L s) H wn rfl (acH _ _ (Ny b ms ml mr mb mu L) (rU (fJ (aP st li rv) body note t) l s) l.length (DK (fJ (aP st li rv) body note t) l s) _ (Hp.owns (Li:=[]) H.hp) (by omega) hcb) rfl ?_;clear H;rintro v10 _ _ a w ⟨s3,rfl,rfl,h10⟩ - H;dsimp only [List.nil_append] at H;exact kH H (aO K2 rfl (LR results71 rfl fun H=>H.hp.eB ⟨s3,by rw [hA1],rfl,fun h=>by rw [hA1] at h;exact (h10 h).trans (hA2 (hA1.trans h)).symm⟩))
theorem O9:∀ m:Nat,m≤4294967297→IW m
 | 0,_=>fun _ _ _ _ _ _ _ _ _ _ _ _ _ _ _ _ _ _ _ _ _ h=>absurd h (by omega)
 | m+1,hm=>akA (O9 m (by omega)) (by omega)
end
section
open Go.RowKit
theorem X7:dV prog 49 1 1:=⟨by kernel_rfl⟩
theorem Jq:dV prog 49 2 2:=⟨by kernel_rfl⟩
theorem aeN:∀ args w,(callFunc 126 args).run prog w=.ok (.enter 126 args) w:=enters func126 rfl (by kernel_rfl)
theorem aeM:∀ args w,(callFunc 124 args).run prog w=.ok (.enter 124 args) w:=enters func124 rfl (by kernel_rfl)
theorem amm {G:GH} {bl:Nat} {l:List dh} {A:Option Addr} {n c:Nat} (hb:aF G bl 0=some (.slice A n c)) (hv:au G (.sl 3 (l.map dh.dat)) (.slice A n c)):uY (.func (.func 126) #[] #[(aM bl 0)]) G l.length fun k=>(l[k]?.map dh.id).getD 0:=by
 intro k hk G1 w0 hm hG;refine mF (caps:=[(aM bl 0)]) aeN ?_;replace hb:=ay hm hb
 obtain rfl:n=l.length:=by have:=hv.len;simpa using this
 obtain ⟨b,o,rfl,hrow⟩:=JY (hv.mono hm) hk;have hq:=hrow 0 _ rfl;refine eN [(0,_),(1,_)] func126 rfl ntmps126 rfl rfl hG ?_;intro a H;refine kP H (SR fun _ K1=>aj K1 rfl (SR fun _ K2=>Rg ow rfl (by assumption) ?_));clear H K1;intro a H;refine kH H (Rm rfl (Ri mH nV rfl rfl (Rf Lg rfl (Rg aD rfl (by assumption) ?_))));clear H;intro a H;exact kH H (aj K2 rfl (LR results126 rfl fun H=>H.rt (by dsimp only;rw [fT hk];rfl)))
def MO (l:List dh) (i:Nat) (x:dh):Int:=bT [kY (fun k=>(l[k]?.map dh.id).getD 0) i,bQ (!qm x.author) 39,bQ (!decide (0≤x.time∧x.time≤1099511627776)) 40]
def zS (l:List dh) (i:Nat):Int:=match l[i]? with|some x=>MO l i x|none=>0
theorem amb {G:GH} {bl:Nat} {l:List dh} {A:Option Addr} {n c:Nat} (hb:aF G bl 0=some (.slice A n c)) (hv:au G (.sl 3 (l.map dh.dat)) (.slice A n c)) (hl:l.length≤4294967296) (ht:∀ x∈l,x.author.size < 4611686018427387904):uY (.func (.func 124) #[] #[(aM bl 0)]) G l.length (zS l):=by
 intro k hk G1 w0 hm hG;refine mF (caps:=[(aM bl 0)]) aeM ?_;replace hb:=ay hm hb;replace hv:=hv.mono hm;have hcb:=amm hb hv
 obtain rfl:n=l.length:=by have:=hv.len;simpa using this
 obtain ⟨b,o,rfl,hrow⟩:=JY hv hk;have hte:=ht _ (jW hk)
 have he:zS l k=MO l k l[k]:=by unfold zS;rw [fT hk]
 obtain ⟨x,hx⟩:∃ x,x=l[k]:=⟨_,rfl⟩;rw [← hx] at hrow hte he;refine eN [(0,_),(1,_)] func124 rfl ntmps124 rfl rfl hG ?_;intro a H;refine kP H (SR fun _ K1=>aj K1 rfl (SQ fun _ K2=>?_));clear H K1;intro a H;have H:=H.sub (T':=[(0,_),(1,_)]) ⟨rfl,rfl,aC⟩;refine dI hmx [[],[],[0,1],[],[],[3,4],[3,4,5],(ra 3 4),(ra 0 8),(ra 0 9),(ra 0 10),[],[],[11,12],[11,12,13],(ra 11 4),(ra 0 16),(ra 0 17),(ra 0 18),(ra 0 19),(ra 0 20),(ra 0 21)] [19,20,21] (by kernel_rfl) [_,.func (.func 126) #[] #[(aM bl 0)],vi (kY (fun k=>(l[k]?.map dh.id).getD 0) k),_,_,_,_,_,.bool (qm x.author),_,vi (bQ (!qm x.author) 39),_,_,_,_,_,.bool (decide (0≤x.time∧x.time≤1099511627776)),_,vi (bQ (!decide (0≤x.time∧x.time≤1099511627776)) 40)] H (aG (Z0 rfl (Rm rfl)) ?_ ?_ (X0 rfl fun hG=>Rg ow rfl (ay hG hb)) (aG (Z0 rfl (Rm rfl)) (Z2 3 7 4 8 rfl (Ri mH nV rfl rfl)) (Z1 5 9 rfl (Rf X7 rfl)) (X1 6 10 rfl fun hG=>Rg gD rfl (ay hG (hrow 1 _ rfl))) (aG ?_ (Z1 8 12 rfl (Rn rfl)) ?_ (X0 rfl fun hG=>Rg ow rfl (ay hG hb)) (aG (Z0 rfl (Rm rfl)) (Z2 11 15 12 16 rfl (Ri mH nV rfl rfl)) (Z1 13 17 rfl (Rf Jq rfl)) (X1 14 18 rfl fun hG=>Rg aD rfl (ay hG (hrow 2 _ rfl))) (aG ?_ (Z1 16 20 rfl (Rn rfl)) ?_ (bY rfl) (bq (bY rfl) (bq (bY rfl) dD))))))) ?_
 ·refine yR rfl fun _ a w G1 hG HT H fin=>?_;refine qX H wn rfl rfl ?_;clear H;intro a H;exact fin H iJ rfl
 ·refine eu 0 4 1 5 rfl rfl fun _ a w G1 hG HT H fin=>?_;refine s_call QY H wn rfl (Uo _ _ H.ro k _ _ (by omega) (fun i hi=>(hcb.mono hG) i (by omega))) rfl ?_;clear H;rintro v6 G6 a w rfl fH H;exact fin H fH (rfl)
 ·refine dN 7 11 rfl rfl fun _ a w G1 hG HT H fin=>?_;refine s_call Xt H wn rfl (WJ _ _ H.ro x.author hte) rfl ?_;clear H;rintro v12 Dp a w ⟨rfl,-⟩ tK H;exact fin H tK (rfl)
 ·refine dN 9 13 rfl rfl fun _ a w G1 hG HT H fin=>?_;refine s_call kD H wn rfl (kI _ _ H.ro _ 39) rfl ?_;clear H;rintro v14 IU a w ⟨rfl,-⟩ DY H;exact fin H DY (rfl)
 ·refine dN 15 19 rfl rfl fun _ a w G1 hG HT H fin=>?_;refine s_call ze H wn rfl (zL _ _ H.ro x.time 0 1099511627776) rfl ?_;clear H;rintro v20 EA a w ⟨rfl,-⟩ ahP H;exact fin H ahP (rfl)
 ·refine dN 17 21 rfl rfl fun _ a w G1 hG HT H fin=>?_;refine s_call kD H wn rfl (kI _ _ H.ro _ 40) rfl ?_;clear H;rintro v22 Qq a w ⟨rfl,-⟩ xW H;exact fin H xW (rfl)
 clear H;intro a w G jY H hv;have H:=H.aZ (hv 2 6 rfl rfl) rfl;have H:=H.aZ (hv 10 14 rfl rfl) rfl;have H:=H.aZ (hv 18 22 rfl rfl) rfl;clear hv;refine jJ qZ iW [_,_,_] [_,_,_] H wn rfl rfl rfl rfl rfl (by intro i q h;match i,h with|0,h=>exact h|1,h=>exact h|2,h=>exact h|n+3,h=>simp at h) rfl rfl ?_;clear H;intro b23 a w aoM H;obtain ⟨G23,ajr,aix,H⟩:=H.eG;refine s_call sj H wn rfl (sw _ _ H.ro _ _ (Ig [kY (fun k=>(l[k]?.map dh.id).getD 0) k,bQ (!qm x.author) 39,bQ (!decide (0≤x.time∧x.time≤1099511627776)) 40] aix (show 3≤maxLen by decide))) rfl ?_;clear H;rintro v24 _ a w ⟨rfl,rfl⟩ - H;refine kH H (Ra rfl ?_);clear H;intro a H;refine aH ⟨rfl,?_⟩;refine K2 _ _ ?_;clear K2;refine lr H results124 rfl ?_;exact H.rt (by rw [he,MO])
def yX (l:List dh):Int:=bT [bQ (decide (256 < (l.length:Int))) 9,iI (zS l) (min l.length 256)]
theorem adu (G:GH) (w0:World) (hG:Hold G w0) (l:List dh) (v:ak) (hv:au G (.sl 3 (l.map dh.dat)) v) (hl:l.length≤4294967296) (ht:∀ x∈l,x.author.size < 4611686018427387904) :
  Calls prog 67 #[v] w0 (bJ w0 G fun u G'=>u=vi (yX l)):=by
 obtain ⟨A,c,rfl,hc1,hc2,-⟩:=hv.slice;rw [bV] at *;refine eN [(0,_)] func67 rfl ntmps67 rfl rfl hG ?_;intro a H;refine dw (fun _ K1=>?_);refine eD (cs:=[_]) H wn rfl rfl rfl ?_;clear H;intro b1 a w hb1 H;refine kH H (aj K1 rfl (SQ fun _ K2=>?_));clear H K1;intro a H;have H:=H.sub (T':=[(1,_)]) ⟨rfl,aC⟩;obtain ⟨Ga,hma,hb1',H⟩:=H.eG
 have hbl:aF Ga b1 0=some (.slice A l.length c):=by unfold aF;rw [hb1'];rfl
 have hcb:=amb hbl (hv.mono hma) hl ht;refine dI hmx [[],[0],[0,1],[0,1,2],[],[4],[4,5],[],(ra 0 8),(ra 0 9),(ra 0 10),(ra 0 11)] [9,10,11] (by kernel_rfl) [_,_,_,vi (bQ (decide (256 < (l.length:Int))) 9),_,_,vi ((min l.length 256:Nat):Int),.func (.func 124) #[] #[(aM b1 0)],vi (iI (zS l) (min l.length 256))] H (aG (X0 rfl fun hG=>Rg ow rfl (ay hG hbl)) (Z1 0 3 rfl (Rl mH rfl)) (Z1 1 4 rfl (Rc rfl)) ?_ (aG (X0 rfl fun hG=>Rg ow rfl (ay hG hbl)) (Z1 4 7 rfl (Rl mH rfl)) ?_ ?_ (aG ?_ (bY rfl) (bY rfl) (bY rfl) dD))) ?_
 ·refine dN 2 5 rfl rfl fun _ a w G1 hG HT H fin=>?_;refine s_call kD H wn rfl (kI _ _ H.ro _ 9) rfl ?_;clear H;rintro v6 G6 a w ⟨rfl,-⟩ fH H;exact fin H fH (rfl)
 ·refine dN 5 8 rfl rfl fun _ a w G1 hG HT H fin=>?_;refine PZ H wn rfl rfl rfl ?_;clear H;intro a H;exact fin H iJ (aB vi (by omega))
 ·refine yR rfl fun _ a w G1 hG HT H fin=>?_;refine qX H wn rfl rfl ?_;clear H;intro a H;exact fin H iJ rfl
 ·refine eu 6 9 7 10 rfl rfl fun _ a w G1 hG HT H fin=>?_;refine s_call Jj H wn rfl (KF _ _ H.ro (min l.length 256) (zS l) _ (by omega) ((hcb.mono hG).le (Nat.min_le_left _ _))) rfl ?_;clear H;rintro v11 wh a w rfl qQ H;exact fin H qQ (rfl)
 clear H;intro a w G jY H hv;have H:=H.aZ (hv 3 6 rfl rfl) rfl;have H:=H.aZ (hv 8 11 rfl rfl) rfl;clear hv;refine jJ qZ iW [_,_] [_,_] H wn rfl rfl rfl rfl rfl (by intro i q h;match i,h with|0,h=>exact h|1,h=>exact h|n+2,h=>simp at h) rfl rfl ?_;clear H;intro b12 a w Fg H;obtain ⟨Dp,BA,Ht,H⟩:=H.eG;refine s_call sj H wn rfl (sw _ _ H.ro _ _ (AQ Ht)) rfl ?_;clear H;rintro v13 _ a w ⟨rfl,rfl⟩ - H;refine kH H (Ra rfl ?_);clear H;intro a H;refine aH ⟨rfl,?_⟩;refine K2 _ _ ?_;clear K2;refine lr H results67 rfl ?_;exact H.rt rfl
theorem zm:∀ {l:List Int},bT l=0→∀ x∈l,x=0
 | [],_,_,h=>by cases h
 | e :: r,h,x,hx=>by
  unfold bT at h
  by_cases he:e=0
  ·rw [ah (fun h'=>h' he)] at h
   rcases uo.1 hx with rfl|hx
   ·exact he
   exact zm h x hx
  rw [av he] at h;exact absurd h he
theorem WH {E:Nat→Int} {n:Nat} (h:iI E n=0) (i:Nat) (hi:i < n):E i=0:=zm h _ (by simp;exact ⟨i,hi,rfl⟩)
theorem ZO {id:Nat→Int} {i:Nat} (h:kY id i=0):1≤id i∧id i≤1073741824∧(0 < i→id (i - 1) < id i):=by
 unfold kY at h
 by_cases h1:1≤id i∧id i≤1073741824
 ·rw [ah (fun h'=>h' h1)] at h
  by_cases h2:0 < i∧id i=id (i - 1)
  ·rw [av h2] at h;cases h
  rw [ah h2] at h
  by_cases h3:0 < i∧id i < id (i - 1)
  ·rw [av h3] at h;cases h
  exact ⟨h1.1,h1.2,fun h0=>by omega⟩
 rw [av h1] at h;cases h
theorem ZP {l:List Int} (h:∀ i (h:i+1 < l.length),l[i] < l[i+1]):Ab l:=by
 have hlt:∀ (j i:Nat) (hj:j < l.length) (hi:i < j),l[i] < l[j]:=by
  intro j
  induction j with
  | zero=>intro i _ hi;omega
  | succ j ih =>
   intro i hj hi;have h1:=h j hj
   by_cases e:i=j
   ·subst e;exact h1
   have:=ih i (by omega) (by omega);omega
 intro k hk hm;obtain ⟨i,hi,he⟩:=List.getElem_of_mem hm;rw [List.length_take] at hi;have:=hlt k i hk (by omega);rw [List.getElem_take] at he
 omega
theorem amc {l:List dh} (h:yX l=0):Ab (l.map dh.id):=by
 have h1:=zm h _ (lW);have h2:=zm h _ (nE _ lW)
 have hl:l.length≤256:=by
  unfold bQ at h1
  by_cases hd:256 < (l.length:Int)
  ·rw [av (aI hd)] at h1;cases h1
  omega
 refine ZP fun i hi=>?_;rw [bV] at hi;have h3:=WH h2 (i+1) (by omega)
 unfold zS at h3
 rw [fT hi] at h3;have h4:=(ZO (zm h3 _ lW)).2.2 (by omega);rw [Nat.add_sub_cancel,fT hi,fT (show i < l.length by omega)] at h4
 simpa using h4
theorem akQ {l:List dH} (h:wF l=0):Ab (l.map dH.id):=by
 have h1:=zm h _ (lW);have h2:=zm h _ (nE _ lW)
 have hl:l.length≤64:=by
  unfold bQ at h1
  by_cases hd:64 < (l.length:Int)
  ·rw [av (aI hd)] at h1;cases h1
  omega
 refine ZP fun i hi=>?_;rw [bV] at hi;have h3:=WH h2 (i+1) (by omega)
 unfold yx at h3
 have h4:=(ZO (zm h3 _ lW)).2.2 (by omega);rw [Nat.add_sub_cancel,fT hi,fT (show i < l.length by omega)] at h4
 simpa using h4
theorem abp {l:List bL} (h:gI l=0):Ab (l.map bL.id):=by
 unfold gI at h
 by_cases h1:128 < l.length
 ·rw [av h1] at h;cases h
 rw [ah h1] at h
 by_cases h2:uI (BP l) 0 l.length≠0
 ·rw [av h2] at h;exact absurd h h2
 intro k hk;rw [bV] at hk;have:=aat (gH.1 h2) k hk;rw [← List.map_take,List.getElem_map];exact this
end
section
open Go.RowKit
theorem agr:∀ args w,(callFunc 68 args).run prog w=.ok (.enter 68 args) w:=enters func68 rfl (by kernel_rfl)
theorem tZ:Ty prog 36 4 96 [.slice none 0 0,.slice none 0 0,.slice none 0 0,.slice none 0 0] true:=⟨by kernel_rfl,by kernel_rfl⟩
theorem agp:∀ args w,(callFunc 66 args).run prog w=.ok (.enter 66 args) w:=enters func66 rfl (by kernel_rfl)
theorem agq:∀ args w,(callFunc 67 args).run prog w=.ok (.enter 67 args) w:=enters func67 rfl (by kernel_rfl)
theorem Ak:dV prog 38 1 1:=⟨by kernel_rfl⟩
theorem CF (e:Int):bT [e]=e:=by
 by_cases h:e=0 <;> simp [bT,h]
structure oC where
 flow:List aJ
 fin:jm
 revs:List dh
 gq:rD
structure qF (G:GH) (D:jS) (d:oC):Prop where
 fl:au G (.sl 11 (d.flow.map aJ.dat)) (aK D.f)
 hd:ku G d.fin (aK D.p) (aK D.d) (aK D.y)
 ins:D.ins=d.fin.marks.ins
 mv:D.move=d.fin.marks.move
 rv:au G (.sl 3 (d.revs.map dh.dat)) (aK D.r)
 st:tq G d.gq (aK D.s1) (aK D.s2) (aK D.s3) (aK D.s4)
theorem tq.mono {G G':GH} (hm:∀ b o,G b=some o→G' b=some o) {s:rD} {a b c d:ak} (h:tq G s a b c d):tq G' s a b c d:=⟨h.st.mono hm,h.li.mono hm,h.cm.mono hm,h.va.mono hm⟩
theorem qF.mono {G G':GH} (hm:∀ b o,G b=some o→G' b=some o) {D:jS} {d:oC} (h:qF G D d):qF G' D d:=⟨h.fl.mono hm,h.hd.mono hm,h.ins,h.mv,h.rv.mono hm,h.st.mono hm⟩
structure Ey (d:oC):Prop where
 fl:bU d.flow≤1073741824
 hd:pJ d.fin≤4294967296
 rn:d.revs.length≤4294967296
 rt:∀ x∈d.revs,x.author.size < 4611686018427387904
 sn:d.gq.styles.length≤4294967296
 st:KE d.gq
abbrev oC.oV (d:oC):iT:=aP d.gq.styles d.gq.lists d.revs
def sO (m:Ad):Bool:=decide ((m.ins≠0∨m.move≠0)∨0 < (m.bR.length:Int))
def jL (d:oC):Int:=bT [bT [lF d.gq,yX d.revs],bT [fP d.oV 3 d.fin,bQ (sO d.fin.marks) 21],(jg d.oV true false 0 d.flow ⟨0,[]⟩).1,bQ (decide (16384 < (jg d.oV true false 0 d.flow ⟨0,[]⟩).2.n)) 9]
theorem ady (G:GH) (w0:World) (hG:Hold G w0) (D:jS) (d:oC) (hR:qF G D d) (hz:Ey d) :
  Calls prog 21 #[D.val] w0 (bJ w0 G fun u G'=>u=vi (jL d)):=by
 obtain ⟨df,dp,dd,dy,dr,d1,d2,d3,d4,ins,mv⟩:=D;obtain ⟨hfl,hhd,hin,hmv,mU,hst⟩:=hR;dsimp only at hfl hhd hin hmv mU hst;subst hin;subst hmv;obtain ⟨zf,zh,zr,zt,zs,zg⟩:=hz;have hdl:=hhd.bR.len;rw [bV] at hdl
 have hdn:d.fin.marks.bR.length≤4294967296:=by
  have h1:=Cc d.fin;have h2:=mO (d.fin.marks.bR.map jV.dat);rw [bV] at h2;omega
 refine eN [(0,_)] func21 rfl ntmps21 rfl rfl hG ?_;intro a H;refine dw (fun _ K1=>?_);refine eD (cs:=[_,_,_,_,_,_,_,_,_,_,_]) H wn rfl rfl rfl ?_;clear H;intro b1 a w hb1 H;refine kH H (aj K1 rfl (SQ fun _ K2=>SQ fun _ K3=>?_));clear H K1;intro a H;refine dI hmx [[],[0],[0,1],[],[3],(ra 0 5),(ra 0 6),(ra 0 7),(ra 0 8)] [6,7,8] (by kernel_rfl) [_,.agg #[aK d1,aK d2,aK d3,aK d4],vi (lF d.gq),_,aK dr,vi (yX d.revs)] H (aG (Z0 rfl (Rf xQ rfl)) ?_ ?_ (Z0 rfl (Rf qM rfl)) (aG (Z1 3 11 rfl (Ro ow 0 rfl)) ?_ (bY rfl) (bY rfl) (bq (bY rfl) dD))) ?_
 ·refine dN 0 8 rfl rfl fun _ a w G1 hG HT H fin=>?_;refine aW tZ (cs:=[_,_,_,_]) H wn rfl rfl (H.hp.dX 0 rfl rfl) rfl ?_;clear H;intro a H;exact fin H iJ rfl
 ·refine dN 1 9 rfl rfl fun _ a w G1 hG HT H fin=>?_;refine s_call agp H wn rfl (adw _ _ H.ro d.gq _ _ _ _ (hst.mono hG) zg) rfl ?_;clear H;rintro v10 Kk a w rfl pW H;exact fin H pW (rfl)
 ·refine dN 4 12 rfl rfl fun _ a w G1 hG HT H fin=>?_;refine s_call agq H wn rfl (adu _ _ H.ro d.revs _ (mU.mono hG) zr zt) rfl ?_;clear H;rintro v13 yO a w rfl ahL H;exact fin H ahL (rfl)
 clear H;intro a w G jY H hv;have H:=H.aZ (hv 2 10 rfl rfl) rfl;have H:=H.aZ (hv 5 13 rfl rfl) rfl;clear hv;refine jJ qZ iW [_,_] [_,_] H wn rfl rfl rfl rfl rfl (by intro i q h;match i,h with|0,h=>exact h|1,h=>exact h|n+2,h=>simp at h) rfl rfl ?_;clear H;intro b14 a w Yz H;obtain ⟨IU,LW,ait,H⟩:=H.eG;have hg1:=fun b o h=>LW b o (jY b o h);replace hfl:=hfl.mono hg1;replace hhd:=hhd.mono hg1;replace mU:=mU.mono hg1;replace hst:=hst.mono hg1;refine s_call sj H wn rfl (sw _ _ H.ro _ _ (AQ ait)) rfl ?_;clear H;rintro v15 _ a w ⟨rfl,rfl⟩ - H;refine kH H (Ra rfl ?_);clear H;intro a H;refine aH ⟨rfl,?_⟩;refine K3 _ _ ?_;clear K3;refine kP H (SR fun _ K4=>Rm rfl (Rc rfl (Kz K4 (Cd rfl ?_ ?_)))) <;> clear H K4
 ·intro bX a H
  try have kQ:=dT bX
  have hE:jL d=bT [lF d.gq,yX d.revs]:=by rw [jL,bT,av kQ]
  exact kP H (SR fun _ K5=>Rm rfl (aj K5 rfl (LR results21 rfl fun H=>H.rt (by rw [hE]))))
 intro bX a H
 try have kQ:=dF bX
 have e1:=gH.1 kQ;have s1:=zm e1 _ lW;have s2:=zm e1 _ (nE _ lW);have t1:=zm s1 _ lW;have t2:=zm s1 _ (nE _ lW);refine fu ?_;refine K2 _ _ ?_;clear K2;refine dw (fun _ K6=>?_);refine aW jQ (cs:=[_,_,_,_,_,_,_,_,_,_,_]) H wn rfl rfl (H.hp.dX 0 rfl rfl) rfl ?_;clear H;intro a H;refine gB agr (Li:=[_]) (L:=[]) H wn rfl (ali _ _ (Hp.owns (Li:=[_]) H.hp) ⟨df,dp,dd,dy,dr,d1,d2,d3,d4,d.fin.marks.ins,d.fin.marks.move⟩ d.gq.styles d.gq.lists d.revs hst.st hst.li mU (abp t1) (akQ t2) (amc s2) zs zg.ln zr) rfl ?_;clear H;rintro v20 EA _ a w ⟨b,ms,ml,mr,mb,mu,rfl,rfl,hck⟩ Eb H;dsimp only [lca,aV] at H;replace hfl:=hfl.mono Eb;replace hhd:=hhd.mono Eb;refine kH H (aj K6 rfl (SR fun _ K7=>Rf Ak rfl (Rf oW rfl ?_)));clear H K6;intro a H;refine aW AU (cs:=[_,_,_,_]) H wn rfl rfl (H.hp.dX 0 rfl rfl) rfl ?_;clear H;intro a H;refine dU AU H wn rfl ?_;clear H;intro b5 a w hb5 H;refine bN AU 0 (vs:=[_,_,_,_]) _ H wn rfl rfl rfl rfl rfl rfl rfl rfl ?_;clear H;intro w H;dsimp only [List.set,setRow] at H;refine K7 _ _ ?_;clear K7;refine aS (fun _ K8=>?_);refine aS (fun _ K9=>?_)
 by_cases c0:d.fin.marks.ins≠0
 ·skip;have c1:d.fin.marks.ins≠0∨d.fin.marks.move≠0:=Or.inl c0;refine dI hmx [[],[],[1],[0,1,2],[],[4],[4,5],(ra 0 7),(ra 0 8),(ra 0 9),(ra 0 10),(ra 0 11),(ra 0 12),(ra 0 13),(ra 0 14),(ra 0 15),(ra 0 16),(ra 0 17),(ra 0 18),(ra 0 19),(ra 0 20),(ra 0 21)] [19,20,21] (by kernel_rfl) [_,_,zD d.fin (aK dp) (aK dd) (aK dy),vi (fP d.oV 3 d.fin),_,vi d.fin.marks.ins,_,_,undef,undef,undef,.bool (decide (d.fin.marks.ins≠0∨d.fin.marks.move≠0)),_,undef,undef,undef,undef,.bool (sO d.fin.marks),vi (bQ (sO d.fin.marks) 21)] H (aG (Z0 rfl (Rm rfl)) (Z0 rfl (Rf Ak rfl)) ?_ ?_ (aG (Z0 rfl (Rf uL rfl)) (Z1 4 28 rfl (Ro aD 0 rfl)) (Z1 5 29 rfl (Rc rfl)) (Z1 6 30 rfl (Rm rfl)) (aG (aX (j:=7) (by kernel_rfl) (fun _ _ _ _ _ h=>h) rfl rfl rfl rfl rfl (fun _ _ h=>aY h (aL (aI c0))) rfl (fun _=>rfl)) (aX (j:=7) (by kernel_rfl) (fun _ _ _ _ _ h=>h) rfl rfl rfl rfl rfl (fun _ _ h=>aY h (aL (aI c0))) rfl (fun _=>rfl)) (aX (j:=7) (by kernel_rfl) (fun _ _ _ _ _ h=>h) rfl rfl rfl rfl rfl (fun _ _ h=>aY h (aL (aI c0))) rfl (fun _=>rfl)) ?_ (aG (Z1 11 35 rfl (Rm rfl)) (aX (j:=12) (by kernel_rfl) (fun _ _ _ _ _ h=>h) rfl rfl rfl rfl rfl (fun _ _ h=>aY h (aL (aI c1))) rfl (fun _=>rfl)) (aX (j:=12) (by kernel_rfl) (fun _ _ _ _ _ h=>h) rfl rfl rfl rfl rfl (fun _ _ h=>aY h (aL (aI c1))) rfl (fun _=>rfl)) (aX (j:=12) (by kernel_rfl) (fun _ _ _ _ _ h=>h) rfl rfl rfl rfl rfl (fun _ _ h=>aY h (aL (aI c1))) rfl (fun _=>rfl)) (aG (aX (j:=12) (by kernel_rfl) (fun _ _ _ _ _ h=>h) rfl rfl rfl rfl rfl (fun _ _ h=>aY h (aL (aI c1))) rfl (fun _=>rfl)) ?_ ?_ (bY rfl) (bq (bY rfl) (bq (bY rfl) dD))))))) ?_
  ·refine dN 1 25 rfl rfl fun _ a w G1 hG HT H fin=>?_;refine aW lJ (cs:=[_,_,_,_,_]) H wn rfl rfl (H.hp.dX 1 rfl rfl) rfl ?_;clear H;intro a H;exact fin H iJ rfl
  ·refine eu 0 24 2 26 rfl rfl fun _ a w G1 hG HT H fin=>?_;refine gB Jk (Li:=[_,_]) (L:=gN b ms ml mr mb mu 0 :: (mb,gL []) :: []) H wn rfl (JB _ _ _ d.gq.styles d.gq.lists d.revs b ms ml mr mb mu _ (hck.mono hG) (Hp.owns (Li:=[_,_]) H.hp) 3 d.fin _ _ _ (hhd.mono hG) zh) rfl ?_;clear H;rintro v27 _ _ a w ⟨rfl,rfl,rfl⟩ Ls H;dsimp only [lca,aV] at H;exact fin H Ls (rfl)
  ·refine eu 7 31 10 34 rfl rfl fun _ a w G1 hG HT H fin=>?_;refine kH H (Pt (aI c0) rfl ?_);clear H;intro a H;exact fin H iJ (by show _=_;first|exact aL (aI c1).symm|exact aL (by simp [c0]))
  ·refine eu 12 36 16 40 rfl rfl fun _ a w G1 hG HT H fin=>?_;refine kH H (Pt (aI c1) rfl ?_);clear H;intro a H;exact fin H iJ (by show _=_;first|exact aL (gW (Or.inl c1)).symm|exact aL (by simp [sO,c1]))
  ·refine dN 17 41 rfl rfl fun _ a w G1 hG HT H fin=>?_;refine s_call kD H wn rfl (kI _ _ H.ro _ 21) rfl ?_;clear H;rintro v42 VW a w ⟨rfl,-⟩ LA H;exact fin H LA (rfl)
  clear H;intro a w G fH H hv;have H:=H.aZ (hv 3 27 rfl rfl) rfl;have H:=H.aZ (hv 18 42 rfl rfl) rfl;clear hv;refine jJ qZ iW [_,_] [_,_] H wn rfl rfl rfl rfl rfl (by intro i q h;match i,h with|0,h=>exact h|1,h=>exact h|n+2,h=>simp at h) rfl rfl ?_;clear H;intro Ns a w YE H;obtain ⟨Dr,qb,LK,H⟩:=H.eG;have Fh:=fun b o h=>qb b o (fH b o h);replace hfl:=hfl.mono Fh;replace hck:=hck.mono Fh;refine s_call sj H wn rfl (sw _ _ H.ro _ _ (AQ LK)) rfl ?_;clear H;rintro v44 _ a w ⟨rfl,rfl⟩ - H;refine kH H (Ra rfl ?_);clear H;intro a H;refine aH ⟨rfl,?_⟩;refine K9 _ _ ?_;clear K9;refine kP H (SR fun _ aT=>Rm rfl (Rc rfl (Kz aT (Cd rfl ?_ ?_)))) <;> clear H aT
  ·intro h46 a H
   try have p46:=dT h46
   have hE:jL d=bT [fP d.oV 3 d.fin,bQ (sO d.fin.marks) 21]:=by rw [jL,bT,ah (by simpa using e1),bT,av p46]
   exact kP H (SR fun _ bB=>Rm rfl (aj bB rfl (LR results21 rfl fun H=>H.rt (by rw [hE]))))
  intro h46 a H
  try have p46:=dF h46
  have e2:=gH.1 p46;refine kP H (Kc K8 (SQ fun _ bC=>SR fun _ bK=>Rm rfl (bg uM jy 1 rfl rfl ?_)));clear H K8;intro a H;refine nk FH [_,_,_] H wn rfl rfl rfl rfl ?_;clear H;intro a H;refine gB KS (Li:=[_,_]) (L:=gN b ms ml mr mb mu 0 :: (mb,gL []) :: []) H wn rfl (O9 4294967297 (by omega) _ _ _ d.gq.styles d.gq.lists d.revs b ms ml mr mb mu ⟨0,[]⟩ d.flow _ true false 0 hck (Hp.owns (Li:=[_,_]) H.hp) hfl (by omega) (by omega) (by omega) (by decide) (by dsimp only;omega)) rfl ?_;clear H;rintro v52 _ _ a w ⟨rfl,s3,rfl,rfl,h3⟩ - H;dsimp only [lca,aV] at H;refine kH H (aj bK rfl (SR fun _ bP=>Rm rfl (Rc rfl (Kz bP (Cd rfl ?_ ?_))))) <;> clear H bK bP
  ·intro gK a H
   try have p54:=dT gK
   have hE:jL d=(jg d.oV true false 0 d.flow ⟨0,[]⟩).1:=by rw [jL,bT,ah (by simpa using e1),bT,ah (by simpa using e2),bT,av p54]
   exact kP H (SR fun _ dx=>Rm rfl (aj dx rfl (LR results21 rfl fun H=>H.rt (by rw [hE]))))
  intro gK a H
  try have p54:=dF gK
  have e3:=gH.1 p54;have hs3:=h3 e3;subst hs3;refine kP H (Kc bC (SR fun _ dP=>Rm rfl (Rk rfl (bg GU aD 2 rfl rfl (Rc rfl ?_)))));clear H bC;intro a H;refine s_call kD H wn rfl (kI _ _ H.ro _ 9) rfl ?_;clear H;rintro v61 _ a w ⟨rfl,rfl⟩ - H
  have hE:jL d=bQ (decide (16384 < (jg d.oV true false 0 d.flow ⟨0,[]⟩).2.n)) 9:=by rw [jL,bT,ah (by simpa using e1),bT,ah (by simpa using e2),bT,ah (by simpa using e3)];exact CF _
  exact kH H (aj dP rfl (LR results21 rfl fun H=>H.rt (by rw [hE])))
 skip
 by_cases c1:d.fin.marks.ins≠0∨d.fin.marks.move≠0
 ·skip;refine dI hmx [[],[],[1],[0,1,2],[],[4],[4,5],(ra 0 7),(ra 0 8),(ra 0 9),(ra 0 10),(ra 0 11),(ra 0 12),(ra 0 13),(ra 0 14),(ra 0 15),(ra 0 16),(ra 0 17),(ra 0 18),(ra 0 19),(ra 0 20),(ra 0 21)] [19,20,21] (by kernel_rfl) [_,_,zD d.fin (aK dp) (aK dd) (aK dy),vi (fP d.oV 3 d.fin),_,vi d.fin.marks.ins,_,_,_,vi d.fin.marks.move,_,.bool (decide (d.fin.marks.ins≠0∨d.fin.marks.move≠0)),_,undef,undef,undef,undef,.bool (sO d.fin.marks),vi (bQ (sO d.fin.marks) 21)] H (aG (Z0 rfl (Rm rfl)) (Z0 rfl (Rf Ak rfl)) ?_ ?_ (aG (Z0 rfl (Rf uL rfl)) (Z1 4 28 rfl (Ro aD 0 rfl)) (Z1 5 29 rfl (Rc rfl)) (Z1 6 30 rfl (Rm rfl)) (aG (Z1 7 31 rfl (YF wI (aR c0) rfl)) (Z2 8 32 7 31 rfl (YO aD 0 (aR c0) rfl)) (Z2 9 33 7 31 rfl (YC (aR c0) rfl)) ?_ (aG (Z1 11 35 rfl (Rm rfl)) (aX (j:=12) (by kernel_rfl) (fun _ _ _ _ _ h=>h) rfl rfl rfl rfl rfl (fun _ _ h=>aY h (aL (aI c1))) rfl (fun _=>rfl)) (aX (j:=12) (by kernel_rfl) (fun _ _ _ _ _ h=>h) rfl rfl rfl rfl rfl (fun _ _ h=>aY h (aL (aI c1))) rfl (fun _=>rfl)) (aX (j:=12) (by kernel_rfl) (fun _ _ _ _ _ h=>h) rfl rfl rfl rfl rfl (fun _ _ h=>aY h (aL (aI c1))) rfl (fun _=>rfl)) (aG (aX (j:=12) (by kernel_rfl) (fun _ _ _ _ _ h=>h) rfl rfl rfl rfl rfl (fun _ _ h=>aY h (aL (aI c1))) rfl (fun _=>rfl)) ?_ ?_ (bY rfl) (bq (bY rfl) (bq (bY rfl) dD))))))) ?_
  ·refine dN 1 25 rfl rfl fun _ a w G1 hG HT H fin=>?_;refine aW lJ (cs:=[_,_,_,_,_]) H wn rfl rfl (H.hp.dX 1 rfl rfl) rfl ?_;clear H;intro a H;exact fin H iJ rfl
  ·refine eu 0 24 2 26 rfl rfl fun _ a w G1 hG HT H fin=>?_;refine gB Jk (Li:=[_,_]) (L:=gN b ms ml mr mb mu 0 :: (mb,gL []) :: []) H wn rfl (JB _ _ _ d.gq.styles d.gq.lists d.revs b ms ml mr mb mu _ (hck.mono hG) (Hp.owns (Li:=[_,_]) H.hp) 3 d.fin _ _ _ (hhd.mono hG) zh) rfl ?_;clear H;rintro v27 _ _ a w ⟨rfl,rfl,rfl⟩ Ls H;dsimp only [lca,aV] at H;exact fin H Ls (rfl)
  ·refine eu 7 31 10 34 rfl rfl fun _ a w G1 hG HT H fin=>?_;refine kH H (Pf (aR c0) rfl ?_);clear H;intro a H;exact fin H iJ (by show _=_;first|exact aL (aI c1).symm|exact aL (by simp [c0]))
  ·refine eu 12 36 16 40 rfl rfl fun _ a w G1 hG HT H fin=>?_;refine kH H (Pt (aI c1) rfl ?_);clear H;intro a H;exact fin H iJ (by show _=_;first|exact aL (gW (Or.inl c1)).symm|exact aL (by simp [sO,c1]))
  ·refine dN 17 41 rfl rfl fun _ a w G1 hG HT H fin=>?_;refine s_call kD H wn rfl (kI _ _ H.ro _ 21) rfl ?_;clear H;rintro v42 VW a w ⟨rfl,-⟩ LA H;exact fin H LA (rfl)
  clear H;intro a w G fH H hv;have H:=H.aZ (hv 3 27 rfl rfl) rfl;have H:=H.aZ (hv 18 42 rfl rfl) rfl;clear hv;refine jJ qZ iW [_,_] [_,_] H wn rfl rfl rfl rfl rfl (by intro i q h;match i,h with|0,h=>exact h|1,h=>exact h|n+2,h=>simp at h) rfl rfl ?_;clear H;intro Ns a w YE H;obtain ⟨Dr,qb,LK,H⟩:=H.eG;have Fh:=fun b o h=>qb b o (fH b o h);replace hfl:=hfl.mono Fh;replace hck:=hck.mono Fh;refine s_call sj H wn rfl (sw _ _ H.ro _ _ (AQ LK)) rfl ?_;clear H;rintro v44 _ a w ⟨rfl,rfl⟩ - H;refine kH H (Ra rfl ?_);clear H;intro a H;refine aH ⟨rfl,?_⟩;refine K9 _ _ ?_;clear K9;refine kP H (SR fun _ dB=>Rm rfl (Rc rfl (Kz dB (Cd rfl ?_ ?_)))) <;> clear H dB
  ·intro h46 a H
   try have p46:=dT h46
   have hE:jL d=bT [fP d.oV 3 d.fin,bQ (sO d.fin.marks) 21]:=by rw [jL,bT,ah (by simpa using e1),bT,av p46]
   exact kP H (SR fun _ dY=>Rm rfl (aj dY rfl (LR results21 rfl fun H=>H.rt (by rw [hE]))))
  intro h46 a H
  try have p46:=dF h46
  have e2:=gH.1 p46;refine kP H (Kc K8 (SQ fun _ eP=>SR fun _ dZ=>Rm rfl (bg uM jy 1 rfl rfl ?_)));clear H K8;intro a H;refine nk FH [_,_,_] H wn rfl rfl rfl rfl ?_;clear H;intro a H;refine gB KS (Li:=[_,_]) (L:=gN b ms ml mr mb mu 0 :: (mb,gL []) :: []) H wn rfl (O9 4294967297 (by omega) _ _ _ d.gq.styles d.gq.lists d.revs b ms ml mr mb mu ⟨0,[]⟩ d.flow _ true false 0 hck (Hp.owns (Li:=[_,_]) H.hp) hfl (by omega) (by omega) (by omega) (by decide) (by dsimp only;omega)) rfl ?_;clear H;rintro v52 _ _ a w ⟨rfl,s3,rfl,rfl,h3⟩ - H;dsimp only [lca,aV] at H;refine kH H (aj dZ rfl (SR fun _ eU=>Rm rfl (Rc rfl (Kz eU (Cd rfl ?_ ?_))))) <;> clear H dZ eU
  ·intro gK a H
   try have p54:=dT gK
   have hE:jL d=(jg d.oV true false 0 d.flow ⟨0,[]⟩).1:=by rw [jL,bT,ah (by simpa using e1),bT,ah (by simpa using e2),bT,av p54]
   exact kP H (SR fun _ fK=>Rm rfl (aj fK rfl (LR results21 rfl fun H=>H.rt (by rw [hE]))))
  intro gK a H
  try have p54:=dF gK
  have e3:=gH.1 p54;have hs3:=h3 e3;subst hs3;refine kP H (Kc eP (SR fun _ gM=>Rm rfl (Rk rfl (bg GU aD 2 rfl rfl (Rc rfl ?_)))));clear H eP;intro a H;refine s_call kD H wn rfl (kI _ _ H.ro _ 9) rfl ?_;clear H;rintro v61 _ a w ⟨rfl,rfl⟩ - H
  have hE:jL d=bQ (decide (16384 < (jg d.oV true false 0 d.flow ⟨0,[]⟩).2.n)) 9:=by rw [jL,bT,ah (by simpa using e1),bT,ah (by simpa using e2),bT,ah (by simpa using e3)];exact CF _
  exact kH H (aj gM rfl (LR results21 rfl fun H=>H.rt (by rw [hE])))
 skip;refine dI hmx [[],[],[1],[0,1,2],[],[4],[4,5],(ra 0 7),(ra 0 8),(ra 0 9),(ra 0 10),(ra 0 11),(ra 0 12),(ra 0 13),(ra 0 14),(ra 0 15),(ra 0 16),(ra 0 17),(ra 0 18),(ra 0 19),(ra 0 20),(ra 0 21)] [19,20,21] (by kernel_rfl) [_,_,zD d.fin (aK dp) (aK dd) (aK dy),vi (fP d.oV 3 d.fin),_,vi d.fin.marks.ins,_,_,_,vi d.fin.marks.move,_,.bool (decide (d.fin.marks.ins≠0∨d.fin.marks.move≠0)),_,_,aK dd,vi d.fin.marks.bR.length,_,.bool (sO d.fin.marks),vi (bQ (sO d.fin.marks) 21)] H (aG (Z0 rfl (Rm rfl)) (Z0 rfl (Rf Ak rfl)) ?_ ?_ (aG (Z0 rfl (Rf uL rfl)) (Z1 4 28 rfl (Ro aD 0 rfl)) (Z1 5 29 rfl (Rc rfl)) (Z1 6 30 rfl (Rm rfl)) (aG (Z1 7 31 rfl (YF wI (aR c0) rfl)) (Z2 8 32 7 31 rfl (YO aD 0 (aR c0) rfl)) (Z2 9 33 7 31 rfl (YC (aR c0) rfl)) ?_ (aG (Z1 11 35 rfl (Rm rfl)) (Z1 12 36 rfl (YF mJ (aR c1) rfl)) (Z2 13 37 12 36 rfl (YO mP 0 (aR c1) rfl)) ?_ (aG (Z2 15 39 12 36 rfl (YC (aR c1) rfl)) ?_ ?_ (bY rfl) (bq (bY rfl) (bq (bY rfl) dD))))))) ?_
 ·refine dN 1 25 rfl rfl fun _ a w G1 hG HT H fin=>?_;refine aW lJ (cs:=[_,_,_,_,_]) H wn rfl rfl (H.hp.dX 1 rfl rfl) rfl ?_;clear H;intro a H;exact fin H iJ rfl
 ·refine eu 0 24 2 26 rfl rfl fun _ a w G1 hG HT H fin=>?_;refine gB Jk (Li:=[_,_]) (L:=gN b ms ml mr mb mu 0 :: (mb,gL []) :: []) H wn rfl (JB _ _ _ d.gq.styles d.gq.lists d.revs b ms ml mr mb mu _ (hck.mono hG) (Hp.owns (Li:=[_,_]) H.hp) 3 d.fin _ _ _ (hhd.mono hG) zh) rfl ?_;clear H;rintro v27 _ _ a w ⟨rfl,rfl,rfl⟩ Ls H;dsimp only [lca,aV] at H;exact fin H Ls (rfl)
 ·refine eu 7 31 10 34 rfl rfl fun _ a w G1 hG HT H fin=>?_;refine kH H (Pf (aR c0) rfl ?_);clear H;intro a H;exact fin H iJ (by show _=_;first|exact aL (aI c1).symm|exact aL (by simp [c0]))
 ·refine eu 14 38 12 36 rfl rfl fun _ a w G1 hG HT H fin=>?_;refine kH H (YL kS (aR c1) rfl ?_);clear H;intro a H;exact fin H iJ (by show _=_;first|rfl|exact aB (fun n:Nat=>vi n) hdl)
 ·refine eu 12 36 16 40 rfl rfl fun _ a w G1 hG HT H fin=>?_;refine kH H (Pf (aR c1) rfl ?_);clear H;intro a H;exact fin H iJ (by show _=_;first|exact aL (gW (Or.inl c1)).symm|exact aL (by simp [sO,c1]))
 ·refine dN 17 41 rfl rfl fun _ a w G1 hG HT H fin=>?_;refine s_call kD H wn rfl (kI _ _ H.ro _ 21) rfl ?_;clear H;rintro v42 VW a w ⟨rfl,-⟩ LA H;exact fin H LA (rfl)
 clear H;intro a w G fH H hv;have H:=H.aZ (hv 3 27 rfl rfl) rfl;have H:=H.aZ (hv 18 42 rfl rfl) rfl;clear hv;refine jJ qZ iW [_,_] [_,_] H wn rfl rfl rfl rfl rfl (by intro i q h;match i,h with|0,h=>exact h|1,h=>exact h|n+2,h=>simp at h) rfl rfl ?_;clear H;intro Ns a w YE H;obtain ⟨Dr,qb,LK,H⟩:=H.eG;have Fh:=fun b o h=>qb b o (fH b o h);replace hfl:=hfl.mono Fh;replace hck:=hck.mono Fh;refine s_call sj H wn rfl (sw _ _ H.ro _ _ (AQ LK)) rfl ?_;clear H;rintro v44 _ a w ⟨rfl,rfl⟩ - H;refine kH H (Ra rfl ?_);clear H;intro a H;refine aH ⟨rfl,?_⟩;refine K9 _ _ ?_;clear K9;refine kP H (SR fun _ iC=>Rm rfl (Rc rfl (Kz iC (Cd rfl ?_ ?_)))) <;> clear H iC
 ·intro h46 a H
  try have p46:=dT h46
  have hE:jL d=bT [fP d.oV 3 d.fin,bQ (sO d.fin.marks) 21]:=by rw [jL,bT,ah (by simpa using e1),bT,av p46]
  exact kP H (SR fun _ gu=>Rm rfl (aj gu rfl (LR results21 rfl fun H=>H.rt (by rw [hE]))))
 intro h46 a H
 try have p46:=dF h46
 have e2:=gH.1 p46;refine kP H (Kc K8 (SQ fun _ iX=>SR fun _ jo=>Rm rfl (bg uM jy 1 rfl rfl ?_)));clear H K8;intro a H;refine nk FH [_,_,_] H wn rfl rfl rfl rfl ?_;clear H;intro a H;refine gB KS (Li:=[_,_]) (L:=gN b ms ml mr mb mu 0 :: (mb,gL []) :: []) H wn rfl (O9 4294967297 (by omega) _ _ _ d.gq.styles d.gq.lists d.revs b ms ml mr mb mu ⟨0,[]⟩ d.flow _ true false 0 hck (Hp.owns (Li:=[_,_]) H.hp) hfl (by omega) (by omega) (by omega) (by decide) (by dsimp only;omega)) rfl ?_;clear H;rintro v52 _ _ a w ⟨rfl,s3,rfl,rfl,h3⟩ - H;dsimp only [lca,aV] at H;refine kH H (aj jo rfl (SR fun _ iN=>Rm rfl (Rc rfl (Kz iN (Cd rfl ?_ ?_))))) <;> clear H jo iN
 ·intro gK a H
  try have p54:=dT gK
  have hE:jL d=(jg d.oV true false 0 d.flow ⟨0,[]⟩).1:=by rw [jL,bT,ah (by simpa using e1),bT,ah (by simpa using e2),bT,av p54]
  exact kP H (SR fun _ kJ=>Rm rfl (aj kJ rfl (LR results21 rfl fun H=>H.rt (by rw [hE]))))
 intro gK a H
 try have p54:=dF gK
 have e3:=gH.1 p54;have hs3:=h3 e3;subst hs3;refine kP H (Kc iX (SR fun _ kK=>Rm rfl (Rk rfl (bg GU aD 2 rfl rfl (Rc rfl ?_)))));clear H iX;intro a H;refine s_call kD H wn rfl (kI _ _ H.ro _ 9) rfl ?_;clear H;rintro v61 _ a w ⟨rfl,rfl⟩ - H
 have hE:jL d=bQ (decide (16384 < (jg d.oV true false 0 d.flow ⟨0,[]⟩).2.n)) 9:=by rw [jL,bT,ah (by simpa using e1),bT,ah (by simpa using e2),bT,ah (by simpa using e3)];exact CF _
 exact kH H (aj kK rfl (LR results21 rfl fun H=>H.rt (by rw [hE])))
end
section
open Go.RowKit
theorem oq {G:GH} {b:Nat} {cs:List ak} {e:TypeId} {q:Nat × Nat} (h:G b=some (.cells cs.toArray e q)) (k:Nat) (ds:List ak) (hd:ds=(cs.drop k).take ds.length) (j:Nat) (v:ak) (hj:ds[j]?=some v):aF G b (k+j)=some v:=by
 unfold aF
 rw [h]
 show cs.toArray[k+j]?=some v
 rw [hd,Af] at hj
 split at hj
 ·simpa using hj
 cases hj
end
section
open Go.RowKit
section
variable {N:Nat} {D:List Deferred} {w0:World} {F:Nat→Prop} {G0 G G1 G2:GH} {L L1 L2:OL} {T Xs:List (Nat × ak)}
variable {r:Option Nat} {P:Program} {Q:Exit→Act→World→Prop} {l:List Oper} {a a':Act} {w w':World}
theorem acR {id:Nat} (hm:P.follows .mixedOrders=true) (cZ:List (List Nat)) (B:List Nat) (hk:DJ l cZ=true) (hB:Ca l cZ B=true) (m1 m2 m3:Nat) (Zc:B.contains m1=false) (Zd:B.contains m2=false) (TF:B.contains m3=false) (hne:Nat.beq m1 m2=false) (hne1:Nat.beq m1 m3=false) (hne2:Nat.beq m2 m3=false) (gG:(cZ.getD m3 []).contains m1=true) (h23:(cZ.getD m3 []).contains m2=true) (UD Mx UE:Obj) (pr:Nat→Nat→Nat→ak→GH→Prop)
  (hp1:∀ b b' c i v G,Nat.beq i m1=false→(cZ.getD i []).contains m1=false→pr b c i v G→pr b' c i v G)
  (hp2:∀ b c c' i v G,Nat.beq i m2=false→(cZ.getD i []).contains m2=false→pr b c i v G→pr b c' i v G)
  (H:St N D w0 F G0 G L T a w)
  (hstep:allI (fun i o=>∀ b c L' S a w G1,(∀ x,x∈L→x∈L')→B.contains i=false→Nat.beq i m1=false→Nat.beq i m2=false→Nat.beq i m3=false→S i=false→(∀ j∈cZ.getD i [],S j=true)→(∀ k o,G k=some o→G1 k=some o)→St N D w0 F G0 G1 L' T a w→(∀ i d,S i=true→fG l i=some d→∃ v,a.tmps[d]?=some v∧pr b c i v G1) →
   WL r P l.toArray (fun e a' w'=>e=.normal∧DX N D w0 F G0 G L' T l (pr b c) (eO S i) a' w') [o] a w) 0 l)
  (TG:∀ o c L' S a w G1,(∀ x,x∈L→x∈L')→l[m1]?=some o→S m1=false→(∀ j∈cZ.getD m1 [],S j=true)→(∀ k o,G k=some o→G1 k=some o)→St N D w0 F G0 G1 L' T a w→(∀ b i d,i≠m1→S i=true→fG l i=some d→∃ v,a.tmps[d]?=some v∧pr b c i v G1) →
   WL r P l.toArray (fun e a' w'=>e=.normal∧∃ b,DX N D w0 F G0 G ((b,UD) :: L') T l (pr b c) (eO S m1) a' w') [o] a w)
  (TH:∀ o b L' S a w G1,(∀ x,x∈L→x∈L')→l[m2]?=some o→S m2=false→(∀ j∈cZ.getD m2 [],S j=true)→(∀ k o,G k=some o→G1 k=some o)→St N D w0 F G0 G1 L' T a w→(∀ c i d,i≠m2→S i=true→fG l i=some d→∃ v,a.tmps[d]?=some v∧pr b c i v G1) →
   WL r P l.toArray (fun e a' w'=>e=.normal∧∃ c,DX N D w0 F G0 G ((c,Mx) :: L') T l (pr b c) (eO S m2) a' w') [o] a w)
  (TI:∀ o b c S a w G1,l[m3]?=some o→S m3=false→(∀ j∈cZ.getD m3 [],S j=true)→(∀ k o,G k=some o→G1 k=some o)→St N D w0 F G0 G1 ((b,UD) :: (c,Mx) :: L) T a w→(∀ i d,S i=true→fG l i=some d→∃ v,a.tmps[d]?=some v∧pr b c i v G1) →
   WL r P l.toArray (fun e a' w'=>e=.normal∧DX N D w0 F G0 G ((b,UE) :: (c,Mx) :: L) T l (pr b c) (eO S m3) a' w') [o] a w)
  (hend:∀ b c a w G1,(∀ k o,G k=some o→G1 k=some o)→St N D w0 F G0 G1 ((b,UE) :: (c,Mx) :: L) T a w→(∀ i d,B.contains i=false→fG l i=some d→∃ v,a.tmps[d]?=some v∧pr b c i v G1)→WL r P l.toArray (fun e a w=>e=.normal∧Q .normal a w) (sP l B) a w)
  (ajA:Nat.blt m1 l.length=true) (Md:Nat.blt m2 l.length=true) (H8:Nat.blt m3 l.length=true):WP r P (.region id l.toArray true) Q a w:=by
 have ne:∀ {x y:Nat},Nat.beq x y=false→x≠y:=fun h e=>by subst e;rw [Nat.beq_refl] at h;cases h
 have hne':m1≠m2:=ne hne
 have OI:m1≠m3:=ne hne1
 have OJ:m2≠m3:=ne hne2
 refine QJ hm cZ B hk hB (fun S a w=>(S m3=true→S m1=true∧S m2=true)∧∃ b c L',L'=(bif S m1 then [(b,bif S m3 then UE else UD)] else [])++((bif S m2 then [(c,Mx)] else [])++L)∧DX N D w0 F G0 G L' T l (pr b c) S a w)
  ⟨fun h=>absurd (show false=true from h) (by decide),0,0,L,rfl,G,fun _ _ h=>h,H.move H.hp.drew,fun _ _ h=>absurd (show false=true from h) (by decide)⟩ ?_ ?_
 ·rintro i o S a w ho hb cB nS hdesc ⟨OM,b,c,L',hL,G1,hG,HS,hv⟩
  have hsub:∀ x,x∈L→x∈L':=fun x hx=>by rw [hL];exact List.mem_append_right _ (List.mem_append_right _ hx)
  have hno:∀ j,j < l.length→S j=true→(cZ.getD j []).contains i=false:=fun j hjl hj=>by
   cases hc:(cZ.getD j []).contains i with
   | false=>rfl
   | true =>
    have:=hdesc j hjl (by simpa using hc)
    rw [this] at hj;cases hj
  by_cases h1:i=m1
  ·subst h1
   have Bu:S m3=false:=hdesc m3 (Eq.mp Nat.blt_eq H8) (by simpa using gG)
   have h:=TG o c L' S a w G1 hsub ho cB nS hG HS fun b' j d hj hSj hd=>by
    obtain ⟨v,hv1,hv2⟩:=hv j d hSj hd
    exact ⟨v,hv1,hp1 b b' c j v _ (xK hj) (hno j (za hd) hSj) hv2⟩
   refine sZ (fun e a' w' ⟨he,b',hD⟩=>⟨he,fun h3=>?_,b',c,_,?_,hD⟩) h
   ·rw [show eO S i m3=S m3 from ah OI.symm,Bu] at h3;cases h3
   ·rw [hL,cB,show eO S i i=true from av rfl,show eO S i m2=S m2 from ah hne'.symm,show eO S i m3=S m3 from ah OI.symm,Bu]
    rfl
  ·by_cases h2:i=m2
   ·subst h2
    have Bu:S m3=false:=hdesc m3 (Eq.mp Nat.blt_eq H8) (by simpa using h23)
    have h:=TH o b L' S a w G1 hsub ho cB nS hG HS fun c' j d hj hSj hd=>by
     obtain ⟨v,hv1,hv2⟩:=hv j d hSj hd
     exact ⟨v,hv1,hp2 b c c' j v _ (xK hj) (hno j (za hd) hSj) hv2⟩
    refine sZ (fun e a' w' ⟨he,c',hD⟩=>⟨he,fun h3=>?_,b,c',_,rfl,hD.perm ?_⟩) h
    ·rw [show eO S i m3=S m3 from ah OJ.symm,Bu] at h3;cases h3
    ·rw [hL,cB,show eO S i i=true from av rfl,show eO S i m1=S m1 from ah hne',show eO S i m3=S m3 from ah OJ.symm]
     cases S m1 with
     | false=>exact List.Perm.refl _
     | true=>exact List.Perm.swap _ _ _
   ·by_cases h3:i=m3
    ·subst h3
     have hS1:S m1=true:=nS m1 (by simpa using gG)
     have hS2:S m2=true:=nS m2 (by simpa using h23)
     rw [hS1,hS2,cB] at hL
     subst hL
     have h:=TI o b c S a w G1 ho cB nS hG HS hv
     refine sZ (fun e a' w' ⟨he,hD⟩=>⟨he,fun _=>⟨?_,?_⟩,b,c,_,?_,hD⟩) h
     ·rw [show eO S i m1=S m1 from ah OI];exact hS1
     ·rw [show eO S i m2=S m2 from ah OJ];exact hS2
     ·rw [show eO S i i=true from av rfl,show eO S i m1=S m1 from ah OI,show eO S i m2=S m2 from ah OJ,hS1,hS2];rfl
    ·have h:=I7 hstep i o ho
     rw [lD] at h
     have e1:eO S i m1=S m1:=ah (fun e=>h1 e.symm)
     have e2:eO S i m2=S m2:=ah (fun e=>h2 e.symm)
     have e3:eO S i m3=S m3:=ah (fun e=>h3 e.symm)
     refine sZ (fun e a' w' ⟨he,hD⟩=>⟨he,?_,b,c,L',?_,hD⟩) (h b c L' S a w G1 hsub hb (xK h1) (xK h2) (xK h3) cB nS hG HS hv)
     ·rw [e1,e2,e3];exact OM
     ·rw [e1,e2,e3];exact hL
 ·rintro S a w hall Zf ⟨OM,b,c,L',hL,G1,hG,HS,hv⟩
  have hs1:S m1=true:=hall m1 (Eq.mp Nat.blt_eq ajA) Zc
  have hs2:S m2=true:=hall m2 (Eq.mp Nat.blt_eq Md) Zd
  have hs3:S m3=true:=hall m3 (Eq.mp Nat.blt_eq H8) TF
  rw [hs1,hs2,hs3] at hL
  subst hL
  exact hend b c a w G1 hG HS fun j d hb hd=>hv j d (hall j (za hd) hb) hd
end
end
section
open Go.RowKit
theorem agb:∀ args w,(callFunc 39 args).run prog w=.ok (.enter 39 args) w:=enters func39 rfl (by kernel_rfl)
theorem XE:∀ args w,(callFunc 40 args).run prog w=.ok (.enter 40 args) w:=enters func40 rfl (by kernel_rfl)
theorem agc:∀ args w,(callFunc 41 args).run prog w=.ok (.enter 41 args) w:=enters func41 rfl (by kernel_rfl)
theorem agd:∀ args w,(callFunc 42 args).run prog w=.ok (.enter 42 args) w:=enters func42 rfl (by kernel_rfl)
theorem agf:∀ args w,(callFunc 43 args).run prog w=.ok (.enter 43 args) w:=enters func43 rfl (by kernel_rfl)
theorem rD.eq_iff (a b:rD):(((a.styles=b.styles∧a.lists=b.lists)∧a.comments=b.comments)∧a.vars=b.vars)↔a=b:=by cases a;cases b;simp [and_assoc]
theorem oC.eq_iff (a b:oC):((((((a.flow=b.flow∧a.fin=b.fin)∧a.revs=b.revs)∧a.gq.styles=b.gq.styles)∧a.gq.lists=b.gq.lists)∧a.gq.comments=b.gq.comments)∧a.gq.vars=b.gq.vars)↔a=b:=by
 obtain ⟨a1,a2,a3,a4,a5,a6,a7⟩:=a;obtain ⟨b1,b2,b3,b4,b5,b6,b7⟩:=b
 simp [and_assoc]
set_option maxHeartbeats 2000000 in
theorem KP (G:GH) (w0:World) (hG:Hold G w0) (D E:jS) (x y:oC) (hD:qF G D x) (hE:qF G E y) (hz:bU x.flow≤4294967296) :
  Calls prog 9 #[D.val,E.val] w0 (bJ w0 G fun u G'=>∃ b,u=.bool b∧(b=true↔x=y)):=by
 have he:=oC.eq_iff x y;refine eN [(0,_),(1,_)] func9 rfl ntmps9 rfl rfl hG ?_;intro a H;refine dw (fun _ K1=>?_);refine eD (cs:=[_,_,_,_,_,_,_,_,_,_,_]) H wn rfl rfl rfl ?_;clear H;intro b2 a w hb2 H;refine eD (cs:=[_,_,_,_,_,_,_,_,_,_,_]) H wn rfl rfl rfl ?_;clear H;intro b3 a w hb3 H;refine kH H (aj K1 rfl (SQ fun _ K2=>?_));clear H K1;intro a H;obtain ⟨Qv,mZ,sM,H⟩:=H.eG;obtain ⟨Ga,kN,hb2',H⟩:=H.eG;have hga:=fun j v hj=>oq hb2' 0 D.cells rfl j v hj;have hge:∀ j v,E.cells[j]?=some v→aF Ga b3 (0+j)=some v:=fun j v hj=>ay kN (oq sM 0 E.cells rfl j v hj)
 have hgd:∀ j v,[aK D.p,vi x.fin.marks.ins,vi x.fin.marks.move,aK D.d,aK D.y][j]?=some v→aF Ga b2 (1+j)=some v:=fun j v hj=>by rw [← hD.ins,← hD.mv] at hj;exact oq hb2' 1 [aK D.p,vi D.ins,vi D.move,aK D.d,aK D.y] rfl j v hj
 have hgf:∀ j v,[aK E.p,vi y.fin.marks.ins,vi y.fin.marks.move,aK E.d,aK E.y][j]?=some v→aF Ga b3 (1+j)=some v:=fun j v hj=>by rw [← hE.ins,← hE.mv] at hj;exact ay kN (oq sM 1 [aK E.p,vi E.ins,vi E.move,aK E.d,aK E.y] rfl j v hj)
 have hgs:∀ j v,[aK D.s1,aK D.s2,aK D.s3,aK D.s4][j]?=some v→aF Ga b2 (7+j)=some v:=fun j v hj=>oq hb2' 7 [aK D.s1,aK D.s2,aK D.s3,aK D.s4] rfl j v hj;have hgt:∀ j v,[aK E.s1,aK E.s2,aK E.s3,aK E.s4][j]?=some v→aF Ga b3 (7+j)=some v:=fun j v hj=>ay kN (oq sM 7 [aK E.s1,aK E.s2,aK E.s3,aK E.s4] rfl j v hj);have hx1:=(hD.fl.mono mZ).mono kN;have hy1:=(hE.fl.mono mZ).mono kN;have hx2:=(hD.hd.mono mZ).mono kN;have hy2:=(hE.hd.mono mZ).mono kN;have hx3:=(hD.rv.mono mZ).mono kN;have hy3:=(hE.rv.mono mZ).mono kN;have hx4:=(hD.st.mono mZ).mono kN;have hy4:=(hE.st.mono mZ).mono kN;clear hD hE
 have fB:∀ (bD rZ cu:Nat) (v:ak) (G G':GH),(∀ k o,G k=some o→G' k=some o)→(fun (bD rZ cu:Nat) (v:ak) (G:GH)=>match cu with|0=>v=(aM b2 7)|1=>v=.agg #[aK D.s1,aK D.s2,aK D.s3,aK D.s4]|2=>v=(aM b3 7)|3=>v=.agg #[aK E.s1,aK E.s2,aK E.s3,aK E.s4]|4=>v=(aM bD 0)|5=>v=(aM rZ 0)|_=>True) bD rZ cu v G→(fun (bD rZ cu:Nat) (v:ak) (G:GH)=>match cu with|0=>v=(aM b2 7)|1=>v=.agg #[aK D.s1,aK D.s2,aK D.s3,aK D.s4]|2=>v=(aM b3 7)|3=>v=.agg #[aK E.s1,aK E.s2,aK E.s3,aK E.s4]|4=>v=(aM bD 0)|5=>v=(aM rZ 0)|_=>True) bD rZ cu v G':=by
  intro bD rZ cu v G G' hm h
  match cu,h with
  | 0,h=>exact h
  | 1,h=>exact h
  | 2,h=>exact h
  | 3,h=>exact h
  | 4,h=>exact h
  | 5,h=>exact h
  | 6,h=>exact trivial
  | 7,h=>exact trivial
  | _+8,h=>exact trivial
 refine acR (hmx) [[],[0],[],[2],[],[],[0,1,4,5],(ra 0 7)] [7] (by kernel_rfl) (by kernel_rfl) 4 5 6 (by decide) (by decide) (by decide) (by decide) (by decide) (by decide) (by decide) (by decide) (.cells #[.slice none 0 0,.slice none 0 0,.slice none 0 0,.slice none 0 0] 36 (0,0)) (.cells #[.slice none 0 0,.slice none 0 0,.slice none 0 0,.slice none 0 0] 36 (0,0)) (.cells #[aK D.s1,aK D.s2,aK D.s3,aK D.s4] 36 (0,0)) (fun (bD rZ cu:Nat) (v:ak) (G:GH)=>match cu with|0=>v=(aM b2 7)|1=>v=.agg #[aK D.s1,aK D.s2,aK D.s3,aK D.s4]|2=>v=(aM b3 7)|3=>v=.agg #[aK E.s1,aK E.s2,aK E.s3,aK E.s4]|4=>v=(aM bD 0)|5=>v=(aM rZ 0)|_=>True) (fun b b' c i v G hi hc h=>by match i,hi,hc,h with|0,_,_,h=>exact h|1,_,_,h=>exact h|2,_,_,h=>exact h|3,_,_,h=>exact h|4,hi,_,_=>exact absurd hi (by decide)|5,_,_,h=>exact h|6,_,hc,_=>exact absurd hc (by decide)|7,_,hc,_=>exact absurd hc (by decide)|_+8,_,_,_=>exact trivial) (fun b c c' i v G hi hc h=>by match i,hi,hc,h with|0,_,_,h=>exact h|1,_,_,h=>exact h|2,_,_,h=>exact h|3,_,_,h=>exact h|4,_,_,h=>exact h|5,hi,_,_=>exact absurd hi (by decide)|6,_,hc,_=>exact absurd hc (by decide)|7,_,hc,_=>exact absurd hc (by decide)|_+8,_,_,_=>exact trivial) H ?_ ?_ ?_ ?_ ?_ (by kernel_rfl) (by kernel_rfl) (by kernel_rfl)
 ·clear H;refine aG ?_ ?_ ?_ ?_ (aG ?_ ?_ ?_ ?_ dD)
  ·intro bD rZ jv dz a w G1 jO _ _ _ _ cB hc hG HT hv;have H:=HT;clear cB;have Hb:=H.full;have H:=Hb;clear hc;refine kH H (Rf xQ rfl ?_);clear H;intro a H;refine aH ⟨rfl,?_⟩;exact kC (by kernel_rfl) (fB bD rZ) rfl rfl HT Hb hG hv (fun _ _ h=>h) (rfl) H
  ·intro bD rZ jv dz a w G1 jO _ _ _ _ cB hc hG HT hv;have H:=HT;clear cB;have H:=H.aZ (hv 0 8 (hc 0 (by decide)) rfl) rfl;have Hb:=H.full;have H:=Hb;clear hc;refine aW tZ (cs:=[aK D.s1,aK D.s2,aK D.s3,aK D.s4]) H wn rfl rfl (fun j v hj=>H.hp.aF (ay hG (hgs j v hj))) rfl ?_;clear H;intro a H;refine aH ⟨rfl,?_⟩;exact kC (by kernel_rfl) (fB bD rZ) rfl rfl HT Hb hG hv (fun _ _ h=>h) (rfl) H
  ·intro bD rZ jv dz a w G1 jO _ _ _ _ cB hc hG HT hv;have H:=HT;clear cB;have Hb:=H.full;have H:=Hb;clear hc;refine kH H (Rf xQ rfl ?_);clear H;intro a H;refine aH ⟨rfl,?_⟩;exact kC (by kernel_rfl) (fB bD rZ) rfl rfl HT Hb hG hv (fun _ _ h=>h) (rfl) H
  ·intro bD rZ jv dz a w G1 jO _ _ _ _ cB hc hG HT hv;have H:=HT;clear cB;have H:=H.aZ (hv 2 10 (hc 2 (by decide)) rfl) rfl;have Hb:=H.full;have H:=Hb;clear hc;refine aW tZ (cs:=[aK E.s1,aK E.s2,aK E.s3,aK E.s4]) H wn rfl rfl (fun j v hj=>H.hp.aF (ay hG (hgt j v hj))) rfl ?_;clear H;intro a H;refine aH ⟨rfl,?_⟩;exact kC (by kernel_rfl) (fB bD rZ) rfl rfl HT Hb hG hv (fun _ _ h=>h) (rfl) H
  ·intro _ _ _ _ _ _ _ _ _ hB;exact absurd hB (by decide)
  ·intro _ _ _ _ _ _ _ _ _ _ hB;exact absurd hB (by decide)
  ·intro _ _ _ _ _ _ _ _ _ _ _ hB;exact absurd hB (by decide)
  intro _ _ _ _ _ _ _ _ hB;exact absurd hB (by decide)
 ·clear H;intro o_ rZ jv dz a w G1 jO uQ _ hc hG HT hv;obtain rfl:_=o_:=Option.some.inj uQ;clear uQ;have H:=HT;have Hb:=H.full;have H:=Hb;clear hc;refine dU tZ H wn rfl ?_;clear H;intro b5 a w hb5 H;refine aH ⟨rfl,b5,?_⟩;exact NK (by kernel_rfl) rfl HT Hb hG (fun j e h1 h2 h3=>hv _ j e h1 h2 h3) (rfl) H
 ·clear H;intro o_ bD jv dz a w G1 jO uQ _ hc hG HT hv;obtain rfl:_=o_:=Option.some.inj uQ;clear uQ;have H:=HT;have Hb:=H.full;have H:=Hb;clear hc;refine dU tZ H wn rfl ?_;clear H;intro b6 a w hb6 H;refine aH ⟨rfl,b6,?_⟩;exact NK (by kernel_rfl) rfl HT Hb hG (fun j e h1 h2 h3=>hv _ j e h1 h2 h3) (rfl) H
 ·clear H;intro o_ bD rZ dz a w G1 uQ _ hc hG HT hv;obtain rfl:_=o_:=Option.some.inj uQ;clear uQ;have H:=HT;have H:=H.aZ (hv 4 5 (hc 4 (by decide)) rfl) rfl;have H:=H.aZ (hv 1 9 (hc 1 (by decide)) rfl) rfl;have Hb:=H.full;have H:=Hb;clear hc;refine bN tZ 0 (vs:=[_,_,_,_]) _ H wn rfl rfl rfl rfl rfl rfl rfl rfl ?_;clear H;intro w H;dsimp only [List.set,setRow] at H;refine aH ⟨rfl,?_⟩;exact aek rfl HT hG hv H
 clear H;intro b5 b6 a w G jY H hv;have H:=H.aZ (hv 4 5 rfl rfl) rfl;have H:=H.aZ (hv 5 6 rfl rfl) rfl;have H:=H.aZ (hv 3 11 rfl rfl) rfl;clear hv;refine bN tZ 1 (vs:=[_,_,_,_]) _ H wn rfl rfl rfl rfl rfl rfl rfl rfl ?_;clear H;intro w H;dsimp only [List.set,setRow] at H;refine aH ⟨rfl,?_⟩;refine K2 _ _ ?_;clear K2;refine kP H (SR fun _ K3=>aj K3 rfl (SR fun _ K4=>Rf uM rfl (Rg jy rfl (ay jY (hga 0 _ rfl)) (Rf uM rfl (Rg jy rfl (ay jY (hge 0 _ rfl)) ?_)))));clear H K3;intro a H;refine s_call NV H wn rfl (XY _ _ H.ro x.flow y.flow _ _ (hx1.mono jY) (hy1.mono jY) (by omega)) rfl ?_;clear H;rintro v16 yP a w ⟨b16,rfl,aiv⟩ pY H;refine kH H (Rm rfl (Sp 17 rfl ?_ ?_)) <;> clear H
 ·intro bX a H
  try have kQ:=dT bX
  refine kH H (YF Ak bX rfl ?_);clear H;intro a H;refine aW lJ (cs:=[aK D.p,vi x.fin.marks.ins,vi x.fin.marks.move,aK D.d,aK D.y]) H (wg H rfl rfl bX) rfl rfl (fun j v hj=>H.hp.aF (ay pY (ay jY (hgd j v hj)))) rfl ?_;clear H;intro a H;refine kH H (YF Ak bX rfl ?_);clear H;intro a H;refine aW lJ (cs:=[aK E.p,vi y.fin.marks.ins,vi y.fin.marks.move,aK E.d,aK E.y]) H (wg H rfl rfl bX) rfl rfl (fun j v hj=>H.hp.aF (ay pY (ay jY (hgf j v hj)))) rfl ?_;clear H;intro a H;refine s_call KR H (wg H rfl rfl bX) rfl (KW _ _ H.ro x.fin y.fin _ _ _ _ _ _ ((hx2.mono jY).mono pY) ((hy2.mono jY).mono pY)) rfl ?_;clear H;rintro v22 Qq a w rfl CQ H;refine kH H (Pt bX rfl (Rm rfl (Sp 24 rfl ?_ ?_))) <;> clear H
  ·intro bE a H
   try have jP:=dT bE
   refine kH H (YF qM bE rfl (YR ow bE rfl (ay CQ (ay pY (ay jY (hga 6 _ rfl)))) (YF qM bE rfl (YR ow bE rfl (ay CQ (ay pY (ay jY (hge 6 _ rfl)))) ?_))));clear H;intro a H;refine s_call agb H (wg H rfl rfl bE) rfl (ahd _ _ H.ro x.revs y.revs _ _ (((hx3.mono jY).mono pY).mono CQ) (((hy3.mono jY).mono pY).mono CQ)) rfl ?_;clear H;rintro v29 ug a w rfl vQ H;have hx5:=(((hx4.mono jY).mono pY).mono CQ).mono vQ;have OX:=(((hy4.mono jY).mono pY).mono CQ).mono vQ;refine kH H (Pt bE rfl (Rm rfl (Sp 31 rfl ?_ ?_))) <;> clear H
   ·intro h31 a H
    try have p31:=dT h31
    refine kH H (YF vI h31 rfl (YO nu 0 h31 rfl (YF vI h31 rfl (YO nu 1 h31 rfl ?_))));clear H;intro a H;refine s_call XE H (wg H rfl rfl h31) rfl (XQ _ _ H.ro x.gq.styles y.gq.styles _ _ hx5.st OX.st) rfl ?_;clear H;rintro v36 G36 a w ⟨b36,rfl,YB⟩ JE H;refine kH H (Pt h31 rfl (Rm rfl (Sp 38 rfl ?_ ?_))) <;> clear H
    ·intro jC a H
     try have p38:=dT jC
     refine kH H (YF lX jC rfl (YO kR 0 jC rfl (YF lX jC rfl (YO kR 1 jC rfl (YM jC rfl ?_)))));clear H;intro a H;refine s_call agc H (wg H rfl rfl jC) rfl (agV _ _ H.ro x.gq.lists y.gq.lists _ _ _ (hx5.li.mono JE) (OX.li.mono JE) (fun i h1 h2=>agP _ _ _)) rfl ?_;clear H;rintro v44 VX a w ⟨b44,rfl,YG⟩ LX H;refine kH H (Pt jC rfl (Rm rfl (Sp 46 rfl ?_ ?_))) <;> clear H
     ·intro h46 a H
      try have p46:=dT h46
      refine kH H (YF wJ h46 rfl (YO rV 0 h46 rfl (YF wJ h46 rfl (YO rV 1 h46 rfl ?_))));clear H;intro a H;refine s_call agd H (wg H rfl rfl h46) rfl (ahb _ _ H.ro x.gq.comments y.gq.comments _ _ ((hx5.cm.mono JE).mono LX) ((OX.cm.mono JE).mono LX)) rfl ?_;clear H;rintro v51 G51 a w rfl Za H;refine kH H (Pt h46 rfl (Rm rfl (Sp 53 rfl ?_ ?_))) <;> clear H
      ·intro fC a H
       try have p53:=dT fC
       refine kH H (YF wK fC rfl (YO oO 0 fC rfl (YF wK fC rfl (YO oO 1 fC rfl ?_))));clear H;intro a H;refine s_call agf H (wg H rfl rfl fC) rfl (ahe _ _ H.ro x.gq.vars y.gq.vars _ _ (((hx5.va.mono JE).mono LX).mono Za) (((OX.va.mono JE).mono LX).mono Za)) rfl ?_;clear H;rintro v58 G58 a w rfl apl H;exact kH H (Pt fC rfl (aj K4 rfl (LR results9 rfl fun H=>H.rt ⟨_,rfl,by rw [← he];simp_all⟩)))
      intro fC a H
      try have p53:=dF fC
      exact kH H (aQ fC rfl (aN fC rfl (Pf fC rfl (aj K4 rfl (LR results9 rfl fun H=>H.rt ⟨_,rfl,by rw [← he];simp_all⟩)))))
     intro h46 a H
     try have p46:=dF h46
     exact kH H (aQ h46 rfl (aN h46 rfl (Pf h46 rfl (Rm rfl (aQ rfl rfl (aN rfl rfl (Pf rfl rfl (aj K4 rfl (LR results9 rfl fun H=>H.rt ⟨_,rfl,by rw [← he];simp_all⟩)))))))))
    intro jC a H
    try have p38:=dF jC
    exact kH H (aQ jC rfl (aQ jC rfl (Pf jC rfl (Rm rfl (aQ rfl rfl (aN rfl rfl (Pf rfl rfl (Rm rfl (aQ rfl rfl (aN rfl rfl (Pf rfl rfl (aj K4 rfl (LR results9 rfl fun H=>H.rt ⟨_,rfl,by rw [← he];simp_all⟩)))))))))))))
   intro h31 a H
   try have p31:=dF h31
   exact kH H (aQ h31 rfl (aN h31 rfl (Pf h31 rfl (Rm rfl (aQ rfl rfl (aQ rfl rfl (Pf rfl rfl (Rm rfl (aQ rfl rfl (aN rfl rfl (Pf rfl rfl (Rm rfl (aQ rfl rfl (aN rfl rfl (Pf rfl rfl (aj K4 rfl (LR results9 rfl fun H=>H.rt ⟨_,rfl,by rw [← he];simp_all⟩)))))))))))))))))
  intro bE a H
  try have jP:=dF bE
  exact kH H (aQ bE rfl (aN bE rfl (Pf bE rfl (Rm rfl (aQ rfl rfl (aN rfl rfl (Pf rfl rfl (Rm rfl (aQ rfl rfl (aQ rfl rfl (Pf rfl rfl (Rm rfl (aQ rfl rfl (aN rfl rfl (Pf rfl rfl (Rm rfl (aQ rfl rfl (aN rfl rfl (Pf rfl rfl (aj K4 rfl (LR results9 rfl fun H=>H.rt ⟨_,rfl,by rw [← he];simp_all⟩)))))))))))))))))))))
 intro bX a H
 try have kQ:=dF bX
 refine kH H (aQ bX rfl (aN bX rfl (Pf bX rfl (Rm rfl (aQ rfl rfl (aN rfl rfl (Pf rfl rfl (Rm rfl (aQ rfl rfl (aN rfl rfl (Pf rfl rfl (Rm rfl (aQ rfl rfl (aQ rfl rfl (Pf rfl rfl (Rm rfl (aQ rfl rfl (aN rfl rfl (Pf rfl rfl (Rm rfl (aQ rfl rfl (aN rfl rfl ?_))))))))))))))))))))));clear H;intro a H;exact kH H (Pf rfl rfl (aj K4 rfl (LR results9 rfl fun H=>H.rt ⟨_,rfl,by rw [← he];simp_all⟩)))
end
section
open Go.RowKit
theorem ZY {G:GH} {l:List dH} {A:Option Addr} {n c k:Nat} (h:au G (.sl 2 (l.map dH.dat)) (.slice A n c)) (hk:k < l.length):∃ b o B d,A=some ⟨b,o,none⟩∧aF G b (o+k*2+0)=some (vi l[k].id)∧aF G b (o+k*2+1)=some (.slice B l[k].levels.length d)∧au G (.sl 4 (l[k].levels.map iY.dat)) (.slice B l[k].levels.length d):=by
 obtain ⟨b,o,cs,rfl,hcl,hrow,hr⟩:=h.at_ k l[k].dat (by simp [hk]);obtain ⟨B,m,d,rfl,h2⟩:=Mr hr;have hm:=au.len h2;rw [bV] at hm;subst hm;exact ⟨b,o,B,d,rfl,hrow 0 _ rfl,hrow 1 _ rfl,h2⟩
theorem aac {G:GH} {l:List iY} {A:Option Addr} {n c k:Nat} (h:au G (.sl 4 (l.map iY.dat)) (.slice A n c)) (hk:k < l.length):∃ b o,A=some ⟨b,o,none⟩∧∀ j u,(iY.cells l[k])[j]?=some u→aF G b (o+k*4+j)=some u:=by
 obtain ⟨b,o,cs,rfl,hcl,hrow,hr⟩:=h.at_ k l[k].dat (by simp [hk]);obtain rfl:=Pq hr;exact ⟨b,o,rfl,hrow⟩
theorem Xd {G:GH} {l:List fq} {A:Option Addr} {n c k:Nat} (h:au G (.sl 6 (l.map fq.dat)) (.slice A n c)) (hk:k < l.length):∃ b o,A=some ⟨b,o,none⟩∧∀ j u,(fq.cells l[k])[j]?=some u→aF G b (o+k*6+j)=some u:=by
 obtain ⟨b,o,cs,rfl,hcl,hrow,hr⟩:=h.at_ k l[k].dat (by simp [hk]);obtain rfl:=KI hr;exact ⟨b,o,rfl,hrow⟩
theorem abN {G:GH} {l:List iE} {A:Option Addr} {n c k:Nat} (h:au G (.sl 2 (l.map iE.dat)) (.slice A n c)) (hk:k < l.length):∃ b o,A=some ⟨b,o,none⟩∧∀ j u,(iE.cells l[k])[j]?=some u→aF G b (o+k*2+j)=some u:=by
 obtain ⟨b,o,cs,rfl,hcl,hrow,hr⟩:=h.at_ k l[k].dat (by simp [hk]);obtain rfl:=Qg hr;exact ⟨b,o,rfl,hrow⟩
theorem U8 {G:GH} {l:List dh} {A:Option Addr} {n c k:Nat} (h:au G (.sl 3 (l.map dh.dat)) (.slice A n c)) (hk:k < l.length):∃ b o,A=some ⟨b,o,none⟩∧∀ j u,(dh.cells l[k])[j]?=some u→aF G b (o+k*3+j)=some u:=by
 obtain ⟨b,o,cs,rfl,hcl,hrow,hr⟩:=h.at_ k l[k].dat (by simp [hk]);obtain rfl:=PV hr;exact ⟨b,o,rfl,hrow⟩
theorem MX {α:Type} {A B:List α} {k:Nat} (h1:k < A.length) (h2:k < B.length) (h:A.take k=B.take k) (e:A[k]=B[k]):A.take (k+1)=B.take (k+1):=by
 rw [iG h1,iG h2,h,e]
theorem MW {α:Type} {A B:List α} (hl:A.length=B.length) (h:A.take A.length=B.take A.length):A=B:=by
 rw [List.take_length,iH (by omega)] at h;exact h
set_option maxHeartbeats 4000000 in
theorem agS (G:GH) (w0:World) (hG:Hold G w0) (x y:rD) (a1 KH c1 d1 a2 WK c2 d2:ak) (hx:tq G x a1 KH c1 d1) (hy:tq G y a2 WK c2 d2) :
  Calls prog 44 #[.agg #[a1,KH,c1,d1],.agg #[a2,WK,c2,d2]] w0 (bJ w0 G fun u G'=>∃ b,u=.bool b∧(b=true↔x=y)):=by
 have hml:maxLen=9223372036854775807:=rfl;have he:=rD.eq_iff x y;obtain ⟨hx1,hx2,hx3,hx4⟩:=hx;obtain ⟨hy1,hy2,hy3,hy4⟩:=hy;obtain ⟨aA,ac,rfl,-,-,-⟩:=hx1.slice;obtain ⟨bA,bc,rfl,-,aoT,-⟩:=hx2.slice;obtain ⟨cA,cc,rfl,-,hcm1,-⟩:=hx3.slice;obtain ⟨dA,dc,rfl,-,aoZ,-⟩:=hx4.slice;obtain ⟨eA,ec,rfl,-,-,-⟩:=hy1.slice;obtain ⟨fA,fc,rfl,-,aoU,-⟩:=hy2.slice;obtain ⟨gA,gc,rfl,-,hcm2,-⟩:=hy3.slice;obtain ⟨iA,ic,rfl,-,apa,-⟩:=hy4.slice;have hxl:=hx2.cells;have hxc:=hx3.cells;have hxd:=hx4.cells
 simp only [bV] at *
 refine eN [(0,_),(1,_)] func44 rfl ntmps44 rfl rfl hG ?_;intro a H;refine dw (fun _ K1=>?_);refine eD (cs:=[_,_,_,_]) H wn rfl rfl rfl ?_;clear H;intro b2 a w hb2 H;refine eD (cs:=[_,_,_,_]) H wn rfl rfl rfl ?_;clear H;intro b3 a w hb3 H;refine kH H (aj K1 rfl (SQ fun _ K2=>SQ fun _ K3=>?_));clear H K1;intro a H;obtain ⟨Qv,mZ,sM,HQ⟩:=H.eG;clear H;obtain ⟨Ga,kN,hb2',H⟩:=HQ.eG;clear HQ;have hga:=fun j v hj=>oq hb2' 0 [.slice aA x.styles.length ac,.slice bA x.lists.length bc,.slice cA x.comments.length cc,.slice dA x.vars.length dc] rfl j v hj;have hge:∀ j v,[.slice eA y.styles.length ec,.slice fA y.lists.length fc,.slice gA y.comments.length gc,.slice iA y.vars.length ic][j]?=some v→aF Ga b3 (0+j)=some v:=fun j v hj=>ay kN (oq sM 0 [.slice eA y.styles.length ec,.slice fA y.lists.length fc,.slice gA y.comments.length gc,.slice iA y.vars.length ic] rfl j v hj);replace hx1:=(hx1.mono mZ).mono kN;replace hx2:=(hx2.mono mZ).mono kN;replace hx3:=(hx3.mono mZ).mono kN;replace hx4:=(hx4.mono mZ).mono kN;replace hy1:=(hy1.mono mZ).mono kN;replace hy2:=(hy2.mono mZ).mono kN;replace hy3:=(hy3.mono mZ).mono kN;replace hy4:=(hy4.mono mZ).mono kN;refine kP H (SC (Rf vI rfl (Rg nu rfl (hga 0 _ rfl) (Rf vI rfl (Rg nu rfl (hge 0 _ rfl) ?_)))));clear H;intro a H;refine s_call XE H wn rfl (XQ _ _ H.ro x.styles y.styles _ _ hx1 hy1) rfl ?_;clear H;rintro v13 yO a w ⟨b13,rfl,Jw⟩ nT H;replace hx2:=hx2.mono nT;replace hx3:=hx3.mono nT;replace hx4:=hx4.mono nT;replace hy2:=hy2.mono nT;replace hy3:=hy3.mono nT;replace hy4:=hy4.mono nT;replace hga:=fun j v hj=>ay nT (hga j v hj);replace hge:=fun j v hj=>ay nT (hge j v hj);refine kH H (Rn rfl (Rm rfl (Sp 15 rfl ?_ ?_))) <;> clear H
 ·intro fM a H
  try have oL:=dT fM
  refine kH H (aQ fM rfl (aN fM rfl (aN fM rfl (Pt fM rfl (Rm rfl (aQ rfl rfl (aN rfl rfl (aN rfl rfl (Pt rfl rfl (Rm rfl (aQ rfl rfl (aN rfl rfl (aN rfl rfl (Pt rfl rfl (Kn K3 (Ct rfl rfl (SR fun _ K4=>aj K4 rfl ?_)))))))))))))))));clear H K3 K4;intro a H;refine lr H results44 rfl ?_
  first
  | exact H.rt ⟨true,rfl,by rw [← he];exact ⟨fun _=>⟨⟨⟨hst,hls⟩,hcs⟩,hvs⟩,fun _=>rfl⟩⟩
  | exact H.rt ⟨false,rfl,by
    simp only [mD,false_iff]
    rintro rfl
    first
     | exact c0 rfl
     | exact c1 rfl
     | (simp at qw;done)
     | (simp at xU;done)
     | (simp at mR;done)
     | omega
     | (simp_all;done)
     | fail⟩
 intro fM a H
 try have oL:=dF fM
 refine kH H (YF lX fM rfl (YR kR fM rfl (hga 1 _ rfl) (YL jE fM rfl (YF lX fM rfl (YR kR fM rfl (hge 1 _ rfl) (YL jE fM rfl (YC fM rfl (Pf fM rfl (Rm rfl (Sp 24 rfl ?_ ?_)))))))))) <;> clear H
 ·intro bE a H
  try have jP:=dT bE
  refine kH H (aQ bE rfl (aN bE rfl (aN bE rfl (Pt bE rfl (Rm rfl (aQ rfl rfl (aN rfl rfl (aN rfl rfl (Pt rfl rfl (Kn K3 (Ct rfl rfl (SR fun _ K5=>aj K5 rfl ?_))))))))))));clear H K3 K5;intro a H;refine lr H results44 rfl ?_
  first
  | exact H.rt ⟨true,rfl,by rw [← he];exact ⟨fun _=>⟨⟨⟨hst,hls⟩,hcs⟩,hvs⟩,fun _=>rfl⟩⟩
  | exact H.rt ⟨false,rfl,by
    simp only [mD,false_iff]
    rintro rfl
    first
     | exact c0 rfl
     | exact c1 rfl
     | (simp at qw;done)
     | (simp at xU;done)
     | (simp at mR;done)
     | omega
     | (simp_all;done)
     | fail⟩
 intro bE a H
 try have jP:=dF bE
 refine kH H (YF wJ bE rfl (YR rV bE rfl (hga 2 _ rfl) (YL nX bE rfl (YF wJ bE rfl (YR rV bE rfl (hge 2 _ rfl) (YL nX bE rfl (YC bE rfl (Pf bE rfl (Rm rfl (Sp 33 rfl ?_ ?_)))))))))) <;> clear H
 ·intro lG a H
  try have p33:=dT lG
  refine kH H (aQ lG rfl (aN lG rfl (aN lG rfl (Pt lG rfl (Kn K3 (Ct rfl rfl (SR fun _ K6=>aj K6 rfl ?_)))))));clear H K3 K6;intro a H;refine lr H results44 rfl ?_
  first
  | exact H.rt ⟨true,rfl,by rw [← he];exact ⟨fun _=>⟨⟨⟨hst,hls⟩,hcs⟩,hvs⟩,fun _=>rfl⟩⟩
  | exact H.rt ⟨false,rfl,by
    simp only [mD,false_iff]
    rintro rfl
    first
     | exact c0 rfl
     | exact c1 rfl
     | (simp at qw;done)
     | (simp at xU;done)
     | (simp at mR;done)
     | omega
     | (simp_all;done)
     | fail⟩
 intro lG a H
 try have p33:=dF lG
 refine kH H (YF wK lG rfl (YR oO lG rfl (hga 3 _ rfl) (YL mX lG rfl (YF wK lG rfl (YR oO lG rfl (hge 3 _ rfl) (YL mX lG rfl (YC lG rfl (Pf lG rfl (Kn K3 (Cd rfl ?_ ?_)))))))))) <;> clear H K3
 ·intro kM a H
  try have p41:=dT kM
  refine kP H (SR fun _ K7=>aj K7 rfl ?_);clear H K7;intro a H;refine lr H results44 rfl ?_
  first
  | exact H.rt ⟨true,rfl,by rw [← he];exact ⟨fun _=>⟨⟨⟨hst,hls⟩,hcs⟩,hvs⟩,fun _=>rfl⟩⟩
  | exact H.rt ⟨false,rfl,by
    simp only [mD,false_iff]
    rintro rfl
    first
     | exact c0 rfl
     | exact c1 rfl
     | (simp at qw;done)
     | (simp at xU;done)
     | (simp at mR;done)
     | omega
     | (simp_all;done)
     | fail⟩
 intro kM a H
 try have p41:=dF kM
 refine kP H (Kc K2 (SQ fun _ K8=>SQ fun _ K9=>?_));clear H K2;intro a H
 have hl1:x.lists.length=y.lists.length:=by omega
 have hl2:x.comments.length=y.comments.length:=by omega
 have hl3:x.vars.length=y.vars.length:=by omega
 have hst:x.styles=y.styles:=Jw.1 (by simp_all);refine kP H (SC (aO K9 rfl (SB ?_)));clear H K9;intro a H;skip;refine eH (ι:=Nat × GH) (Tc:=[(2,_),(3,_)]) (Lc:=[]) (fun gh=>[(5,vi gh.1)]) (fun gh=>[]) (fun gh=>gh.2) (fun gh=>gh.1≤x.lists.length∧x.lists.take gh.1=y.lists.take gh.1∧(∀ b o,yO b=some o→gh.2 b=some o)) (fun gh=>x.lists.length - gh.1) ((0,yO)) (by exact (H).sub ⟨rfl,rfl,rfl,aC⟩) ?_ ?_
 ·exact ⟨iF _,rfl,fun _ _ h=>h⟩
 clear H;intro gh a w hI H;obtain ⟨k,g⟩:=gh;dsimp only at hI H;obtain ⟨hk,hsame,hgm⟩:=hI;dsimp only [lca,aV] at H;refine kP H (SQ fun _ aT=>SR fun _ bB=>Rm rfl (Rf lX rfl (Rg kR rfl (ay hgm (hga 1 _ rfl)) (Rl jE rfl (Rc rfl (Kz bB (Cd rfl ?_ ?_))))))) <;> clear H bB
 ·intro h46 a H
  try have p46:=dT h46
  have hk2:k < x.lists.length:=by omega
  have hk3:k < y.lists.length:=by omega
  obtain ⟨q1,o1,B1,e1,rfl,hi1,hv1,hlv1⟩:=ZY (hx2.mono hgm) hk2;obtain ⟨q2,o2,B2,e2,rfl,hi2,hv2,hlv2⟩:=ZY (hy2.mono hgm) hk3;obtain ⟨_,u1,-,Y6,ajn,-⟩:=hlv1.slice;obtain ⟨_,u2,-,Y7,ajo,-⟩:=hlv2.slice
  simp only [bV] at Y6 Y7
  refine kP H (Kc aT (SQ fun _ bC=>SB (SQ fun _ bK=>SQ fun _ bP=>?_)));clear H aT;intro a H
  by_cases c0:¬ x.lists[k].id=y.lists[k].id
  ·skip;refine dI hmx [[],[0],[],[0,1,2],(ra 0 4),(ra 0 5),[],[6],[],[6,7,8],(ra 6 4),(ra 6 5),(ra 0 12),(ra 0 13),(ra 0 14),(ra 0 15),(ra 0 14),(ra 0 17),(ra 0 18),(ra 0 19),(ra 0 20),(ra 0 14),(ra 0 14++[21]),(ra 0 14),(ra 0 14++[21,22,23]),(ra 0 14++ra 21 4),(ra 0 14++ra 21 5),(ra 0 14++ra 21 6),(ra 0 28),(ra 0 29)] [] (by kernel_rfl) [_,_,_,_,_,_,_,_,_,_,_,_,_,_,undef,undef,undef,undef,undef,undef,undef,undef,undef,undef,undef,undef,undef,undef,undef,_] H (aG (Z0 rfl (Rf lX rfl)) (X1 0 49 rfl fun hG=>Rg kR rfl (ay hG (ay hgm (hga 1 _ rfl)))) (Z0 rfl (Rm rfl)) (Z2 1 50 2 51 rfl (Ri jE jR rfl rfl)) (aG (Z1 3 52 rfl (Rf zl rfl)) (X1 4 53 rfl fun hG=>Rg aD rfl (ay hG hi1)) (Z0 rfl (Rf lX rfl)) (X1 6 55 rfl fun hG=>Rg kR rfl (ay hG (ay hgm (hge 1 _ rfl)))) (aG (Z0 rfl (Rm rfl)) (Z2 7 56 8 57 rfl (Ri jE jR rfl rfl)) (Z1 9 58 rfl (Rf zl rfl)) (X1 10 59 rfl fun hG=>Rg aD rfl (ay hG hi2)) (aG (Z2 5 54 11 60 rfl (Rc rfl)) (Z1 12 61 rfl (Rm rfl)) (aX (j:=13) (by kernel_rfl) (fun _ _ _ _ _ h=>h) rfl rfl rfl rfl rfl (fun _ _ h=>aY h (aL (aI c0))) rfl (fun _=>rfl)) (aX (j:=13) (by kernel_rfl) (fun _ _ _ _ _ h=>h) rfl rfl rfl rfl rfl (fun _ _ h=>aY h (aL (aI c0))) rfl (fun _=>rfl)) (aG (aX (j:=13) (by kernel_rfl) (fun _ _ _ _ _ h=>h) rfl rfl rfl rfl rfl (fun _ _ h=>aY h (aL (aI c0))) rfl (fun _=>rfl)) (aX (j:=13) (by kernel_rfl) (fun _ _ _ _ _ h=>h) rfl rfl rfl rfl rfl (fun _ _ h=>aY h (aL (aI c0))) rfl (fun _=>rfl)) (aX (j:=13) (by kernel_rfl) (fun _ _ _ _ _ h=>h) rfl rfl rfl rfl rfl (fun _ _ h=>aY h (aL (aI c0))) rfl (fun _=>rfl)) (aX (j:=13) (by kernel_rfl) (fun _ _ _ _ _ h=>h) rfl rfl rfl rfl rfl (fun _ _ h=>aY h (aL (aI c0))) rfl (fun _=>rfl)) (aG (aX (j:=13) (by kernel_rfl) (fun _ _ _ _ _ h=>h) rfl rfl rfl rfl rfl (fun _ _ h=>aY h (aL (aI c0))) rfl (fun _=>rfl)) (aX (j:=13) (by kernel_rfl) (fun _ _ _ _ _ h=>h) rfl rfl rfl rfl rfl (fun _ _ h=>aY h (aL (aI c0))) rfl (fun _=>rfl)) (aX (j:=13) (by kernel_rfl) (fun _ _ _ _ _ h=>h) rfl rfl rfl rfl rfl (fun _ _ h=>aY h (aL (aI c0))) rfl (fun _=>rfl)) (aX (j:=13) (by kernel_rfl) (fun _ _ _ _ _ h=>h) rfl rfl rfl rfl rfl (fun _ _ h=>aY h (aL (aI c0))) rfl (fun _=>rfl)) (aG (aX (j:=13) (by kernel_rfl) (fun _ _ _ _ _ h=>h) rfl rfl rfl rfl rfl (fun _ _ h=>aY h (aL (aI c0))) rfl (fun _=>rfl)) (aX (j:=13) (by kernel_rfl) (fun _ _ _ _ _ h=>h) rfl rfl rfl rfl rfl (fun _ _ h=>aY h (aL (aI c0))) rfl (fun _=>rfl)) (aX (j:=13) (by kernel_rfl) (fun _ _ _ _ _ h=>h) rfl rfl rfl rfl rfl (fun _ _ h=>aY h (aL (aI c0))) rfl (fun _=>rfl)) (aX (j:=13) (by kernel_rfl) (fun _ _ _ _ _ h=>h) rfl rfl rfl rfl rfl (fun _ _ h=>aY h (aL (aI c0))) rfl (fun _=>rfl)) (bq (aX (j:=13) (by kernel_rfl) (fun _ _ _ _ _ h=>h) rfl rfl rfl rfl rfl (fun _ _ h=>aY h (aL (aI c0))) rfl (fun _=>rfl)) (bq (Z2 13 62 28 77 rfl (Pt (aI c0) rfl)) dD))))))))) ?_
   clear H;intro a w G fH H hv;have H:=H.aZ (hv 29 78 rfl rfl) rfl;clear hv;refine aH ⟨rfl,?_⟩;refine bP _ _ ?_;clear bP;refine yV H rfl rfl ?_;refine kP H (SR fun _ dx=>aj dx rfl ?_);clear H dx;intro a H;refine lr H results44 rfl ?_
   first
   | exact H.rt ⟨true,rfl,by rw [← he];exact ⟨fun _=>⟨⟨⟨hst,hls⟩,hcs⟩,hvs⟩,fun _=>rfl⟩⟩
   | exact H.rt ⟨false,rfl,by
     simp only [mD,false_iff]
     rintro rfl
     first
      | exact c0 rfl
      | exact c1 rfl
      | (simp at qw;done)
      | (simp at xU;done)
      | (simp at mR;done)
      | omega
      | (simp_all;done)
      | fail⟩
  skip
  by_cases c1:¬ (x.lists[k].levels.length:Int)=(y.lists[k].levels.length:Int)
  ·skip;refine dI hmx [[],[0],[],[0,1,2],(ra 0 4),(ra 0 5),[],[6],[],[6,7,8],(ra 6 4),(ra 6 5),(ra 0 12),(ra 0 13),(ra 0 14),(ra 0 15),(ra 0 14),(ra 0 17),(ra 0 18),(ra 0 19),(ra 0 20),(ra 0 14),(ra 0 14++[21]),(ra 0 14),(ra 0 14++[21,22,23]),(ra 0 14++ra 21 4),(ra 0 14++ra 21 5),(ra 0 14++ra 21 6),(ra 0 28),(ra 0 29)] [] (by kernel_rfl) [_,_,_,_,_,_,_,_,_,_,_,_,_,_,_,_,_,_,_,_,_,_,_,_,_,_,_,_,_,_] H (aG (Z0 rfl (Rf lX rfl)) (X1 0 49 rfl fun hG=>Rg kR rfl (ay hG (ay hgm (hga 1 _ rfl)))) (Z0 rfl (Rm rfl)) (Z2 1 50 2 51 rfl (Ri jE jR rfl rfl)) (aG (Z1 3 52 rfl (Rf zl rfl)) (X1 4 53 rfl fun hG=>Rg aD rfl (ay hG hi1)) (Z0 rfl (Rf lX rfl)) (X1 6 55 rfl fun hG=>Rg kR rfl (ay hG (ay hgm (hge 1 _ rfl)))) (aG (Z0 rfl (Rm rfl)) (Z2 7 56 8 57 rfl (Ri jE jR rfl rfl)) (Z1 9 58 rfl (Rf zl rfl)) (X1 10 59 rfl fun hG=>Rg aD rfl (ay hG hi2)) (aG (Z2 5 54 11 60 rfl (Rc rfl)) (Z1 12 61 rfl (Rm rfl)) (Z1 13 62 rfl (YF lX (aR c0) rfl)) (X2 14 63 13 62 rfl fun hG=>YR kR (aR c0) rfl (ay hG (ay hgm (hga 1 _ rfl)))) (aG (Z1 13 62 rfl (YM (aR c0) rfl)) (Z3 15 64 16 65 13 62 rfl (YI jE jR (aR c0) rfl rfl)) (Z2 17 66 13 62 rfl (YF xR (aR c0) rfl)) (X2 18 67 13 62 rfl fun hG=>YR yI (aR c0) rfl (ay hG hv1)) (aG (Z2 19 68 13 62 rfl (YL ru (aR c0) rfl)) (Z1 13 62 rfl (YF lX (aR c0) rfl)) (X2 21 70 13 62 rfl fun hG=>YR kR (aR c0) rfl (ay hG (ay hgm (hge 1 _ rfl)))) (Z1 13 62 rfl (YM (aR c0) rfl)) (aG (Z3 22 71 23 72 13 62 rfl (YI jE jR (aR c0) rfl rfl)) (Z2 24 73 13 62 rfl (YF xR (aR c0) rfl)) (X2 25 74 13 62 rfl fun hG=>YR yI (aR c0) rfl (ay hG hv2)) (Z2 26 75 13 62 rfl (YL ru (aR c0) rfl)) (bq (Z3 20 69 27 76 13 62 rfl (YC (aR c0) rfl)) (bq (Z2 13 62 28 77 rfl (Pf (aR c0) rfl)) dD))))))))) ?_
   clear H;intro a w G fH H hv;have H:=H.aZ (hv 29 78 rfl rfl) rfl;clear hv;refine aH ⟨rfl,?_⟩;refine bP _ _ ?_;clear bP;refine yV H rfl (aI c1) ?_;refine kP H (SR fun _ dP=>aj dP rfl ?_);clear H dP;intro a H;refine lr H results44 rfl ?_
   first
   | exact H.rt ⟨true,rfl,by rw [← he];exact ⟨fun _=>⟨⟨⟨hst,hls⟩,hcs⟩,hvs⟩,fun _=>rfl⟩⟩
   | exact H.rt ⟨false,rfl,by
     simp only [mD,false_iff]
     rintro rfl
     first
      | exact c0 rfl
      | exact c1 rfl
      | (simp at qw;done)
      | (simp at xU;done)
      | (simp at mR;done)
      | omega
      | (simp_all;done)
      | fail⟩
  skip;refine dI hmx [[],[0],[],[0,1,2],(ra 0 4),(ra 0 5),[],[6],[],[6,7,8],(ra 6 4),(ra 6 5),(ra 0 12),(ra 0 13),(ra 0 14),(ra 0 15),(ra 0 14),(ra 0 17),(ra 0 18),(ra 0 19),(ra 0 20),(ra 0 14),(ra 0 14++[21]),(ra 0 14),(ra 0 14++[21,22,23]),(ra 0 14++ra 21 4),(ra 0 14++ra 21 5),(ra 0 14++ra 21 6),(ra 0 28),(ra 0 29)] [] (by kernel_rfl) [_,_,_,_,_,_,_,_,_,_,_,_,_,_,_,_,_,_,_,_,_,_,_,_,_,_,_,_,_,_] H (aG (Z0 rfl (Rf lX rfl)) (X1 0 49 rfl fun hG=>Rg kR rfl (ay hG (ay hgm (hga 1 _ rfl)))) (Z0 rfl (Rm rfl)) (Z2 1 50 2 51 rfl (Ri jE jR rfl rfl)) (aG (Z1 3 52 rfl (Rf zl rfl)) (X1 4 53 rfl fun hG=>Rg aD rfl (ay hG hi1)) (Z0 rfl (Rf lX rfl)) (X1 6 55 rfl fun hG=>Rg kR rfl (ay hG (ay hgm (hge 1 _ rfl)))) (aG (Z0 rfl (Rm rfl)) (Z2 7 56 8 57 rfl (Ri jE jR rfl rfl)) (Z1 9 58 rfl (Rf zl rfl)) (X1 10 59 rfl fun hG=>Rg aD rfl (ay hG hi2)) (aG (Z2 5 54 11 60 rfl (Rc rfl)) (Z1 12 61 rfl (Rm rfl)) (Z1 13 62 rfl (YF lX (aR c0) rfl)) (X2 14 63 13 62 rfl fun hG=>YR kR (aR c0) rfl (ay hG (ay hgm (hga 1 _ rfl)))) (aG (Z1 13 62 rfl (YM (aR c0) rfl)) (Z3 15 64 16 65 13 62 rfl (YI jE jR (aR c0) rfl rfl)) (Z2 17 66 13 62 rfl (YF xR (aR c0) rfl)) (X2 18 67 13 62 rfl fun hG=>YR yI (aR c0) rfl (ay hG hv1)) (aG (Z2 19 68 13 62 rfl (YL ru (aR c0) rfl)) (Z1 13 62 rfl (YF lX (aR c0) rfl)) (X2 21 70 13 62 rfl fun hG=>YR kR (aR c0) rfl (ay hG (ay hgm (hge 1 _ rfl)))) (Z1 13 62 rfl (YM (aR c0) rfl)) (aG (Z3 22 71 23 72 13 62 rfl (YI jE jR (aR c0) rfl rfl)) (Z2 24 73 13 62 rfl (YF xR (aR c0) rfl)) (X2 25 74 13 62 rfl fun hG=>YR yI (aR c0) rfl (ay hG hv2)) (Z2 26 75 13 62 rfl (YL ru (aR c0) rfl)) (bq (Z3 20 69 27 76 13 62 rfl (YC (aR c0) rfl)) (bq (Z2 13 62 28 77 rfl (Pf (aR c0) rfl)) dD))))))))) ?_
  clear H;intro a w G fH H hv;have H:=H.aZ (hv 29 78 rfl rfl) rfl;clear hv;refine aH ⟨rfl,?_⟩;refine bP _ _ ?_;clear bP;refine om H rfl (aR c1) ?_;refine kP H (Kc bK (SR fun _ dB=>aj dB rfl (SB ?_)));clear H bK dB;intro a H;skip;refine eH (ι:=Nat × GH) (Tc:=[(2,_),(3,_),(5,_)]) (Lc:=[]) (fun gh=>[(6,vi gh.1)]) (fun gh=>[]) (fun gh=>gh.2) (fun gh=>gh.1≤x.lists[k].levels.length∧x.lists[k].levels.take gh.1=y.lists[k].levels.take gh.1∧(∀ b o,G b=some o→gh.2 b=some o)) (fun gh=>x.lists[k].levels.length - gh.1) ((0,G)) (by exact (H).sub ⟨rfl,rfl,rfl,rfl,aC⟩) ?_ ?_
  ·exact ⟨iF _,rfl,fun _ _ h=>h⟩
  clear H;intro gh a w hI H;obtain ⟨j,g2⟩:=gh;dsimp only at hI H;obtain ⟨hj,hsl,D8⟩:=hI;dsimp only [lca,aV] at H;refine kP H (SQ fun _ dY=>SR fun _ eP=>Rm rfl (Rf lX rfl (Rg kR rfl (ay D8 (ay fH (ay hgm (hga 1 _ rfl)))) (Rm rfl (Ri jE jR rfl rfl (Rf xR rfl (Rg yI rfl (ay D8 (ay fH hv1)) (Rl ru rfl (Rc rfl (Kz eP (Cd rfl ?_ ?_))))))))))) <;> clear H eP
  ·intro h87 a H
   try have MH:=dT h87
   have hj2:j < x.lists[k].levels.length:=by omega
   have hj3:j < y.lists[k].levels.length:=by omega
   obtain ⟨s1,t1,rfl,hw1⟩:=aac ((hlv1.mono fH).mono D8) hj2;obtain ⟨s2,t2,rfl,hw2⟩:=aac ((hlv2.mono fH).mono D8) hj3;have hmm:=fun b o h=>D8 b o (fH b o (hgm b o h));have ajY:=ay D8 (ay fH hv1);have ajZ:=ay D8 (ay fH hv2);refine kP H (Kc dY (SQ fun _ dZ=>SB (SQ fun _ eU=>?_)));clear H dY;intro a H;refine dI hmx [[],[0],[],[0,1,2],(ra 0 4),(ra 0 5),[],(ra 0 7),(ra 0 8),[],[9],[],[9,10,11],(ra 9 4),(ra 9 5),[],(ra 9 7),(ra 9 8),(ra 0 18)] [] (by kernel_rfl) [_,_,_,_,_,_,_,_,.agg (iY.cells x.lists[k].levels[j]).toArray,_,_,_,_,_,_,_,_,.agg (iY.cells y.lists[k].levels[j]).toArray,.bool (!decide (x.lists[k].levels[j]=y.lists[k].levels[j]))] H (aG (Z0 rfl (Rf lX rfl)) (X1 0 90 rfl fun hG=>Rg kR rfl (ay hG (ay hmm (hga 1 _ rfl)))) (Z0 rfl (Rm rfl)) (Z2 1 91 2 92 rfl (Ri jE jR rfl rfl)) (aG (Z1 3 93 rfl (Rf xR rfl)) (X1 4 94 rfl fun hG=>Rg yI rfl (ay hG ajY)) (Z0 rfl (Rm rfl)) (Z2 5 95 6 96 rfl (Ri ru xu rfl rfl)) (aG ?_ (Z0 rfl (Rf lX rfl)) (X1 9 99 rfl fun hG=>Rg kR rfl (ay hG (ay hmm (hge 1 _ rfl)))) (Z0 rfl (Rm rfl)) (aG (Z2 10 100 11 101 rfl (Ri jE jR rfl rfl)) (Z1 12 102 rfl (Rf xR rfl)) (X1 13 103 rfl fun hG=>Rg yI rfl (ay hG ajZ)) (Z0 rfl (Rm rfl)) (bq (Z2 14 104 15 105 rfl (Ri ru xu rfl rfl)) (bq ?_ (bq ?_ dD))))))) ?_
   ·refine dN 7 97 rfl rfl fun _ a w G1 hG HT H fin=>?_;refine aW xu (cs:=iY.cells x.lists[k].levels[j]) H wn rfl rfl (fun i v hi=>H.hp.aF (ay hG (hw1 i v hi))) rfl ?_;clear H;intro a H;exact fin H iJ rfl
   ·refine dN 16 106 rfl rfl fun _ a w G1 hG HT H fin=>?_;refine aW xu (cs:=iY.cells y.lists[k].levels[j]) H wn rfl rfl (fun i v hi=>H.hp.aF (ay hG (hw2 i v hi))) rfl ?_;clear H;intro a H;exact fin H iJ rfl
   ·refine eu 8 98 17 107 rfl rfl fun _ a w G1 hG HT H fin=>?_;refine FE XU H wn rfl rfl rfl rfl ?_;clear H;intro a H;exact fin H iJ (aB (fun b=>Value.bool !b) (aaW _ _))
   clear H;intro a w G qQ H hv;have H:=H.aZ (hv 18 108 rfl rfl) rfl;clear hv;refine aH ⟨rfl,?_⟩;refine eU _ _ ?_;clear eU;refine jX H rfl ?_ ?_
   ·intro qw
    try have alq:=dT qw
    refine kP H (SR fun _ fK=>aj fK rfl ?_);clear H fK;intro a H;refine lr H results44 rfl ?_
    first
    | exact H.rt ⟨true,rfl,by rw [← he];exact ⟨fun _=>⟨⟨⟨hst,hls⟩,hcs⟩,hvs⟩,fun _=>rfl⟩⟩
    | exact H.rt ⟨false,rfl,by
      simp only [mD,false_iff]
      rintro rfl
      first
       | exact c0 rfl
       | exact c1 rfl
       | (simp at qw;done)
       | (simp at xU;done)
       | (simp at mR;done)
       | omega
       | (simp_all;done)
       | fail⟩
   intro qw
   try have alq:=dF qw
   refine kP H (Kc dZ (SC (Rm rfl (Rd rfl (Ra rfl ?_)))));clear H dZ;intro a H;refine aH ?_;refine dK ((j+1,_)) (by exact (H).sub ⟨rfl,rfl,rfl,rfl,aC⟩) ?_ ?_
   ·(try dsimp only);exact ⟨by omega,MX hj2 hj3 hsl (by simpa using qw),fun b o h=>qQ b o (D8 b o h)⟩
   first|omega|(dsimp only;omega)
  intro h87 a H
  try have MH:=dF h87
  obtain rfl:j=x.lists[k].levels.length:=by omega
  refine dW ?_;refine bC _ _ ?_;clear bC;refine kP H (SC (Rm rfl (Rd rfl (Ra rfl ?_))));clear H;intro a H;refine aH ?_;refine dK ((k+1,_)) (by exact (H).sub ⟨rfl,rfl,rfl,aC⟩) ?_ ?_
  ·(try dsimp only);exact ⟨by omega,MX hk2 hk3 hsame (by rw [← dH.eq_iff];exact ⟨gH.1 c0,MW (by omega) hsl⟩),fun b o h=>D8 b o (fH b o (hgm b o h))⟩
  first|omega|(dsimp only;omega)
 intro h46 a H
 try have p46:=dF h46
 obtain rfl:k=x.lists.length:=by omega
 have hls:=MW hl1 hsame;replace hga:=fun j v hj=>ay hgm (hga j v hj);replace hge:=fun j v hj=>ay hgm (hge j v hj);replace hx3:=hx3.mono hgm;replace hx4:=hx4.mono hgm;replace hy3:=hy3.mono hgm;replace hy4:=hy4.mono hgm;refine dW ?_;refine K8 _ _ ?_;clear K8;refine kP H (SQ fun _ gM=>SR fun _ iC=>aj iC rfl (SB ?_));clear H iC;intro a H;skip;refine eH (ι:=Nat × GH) (Tc:=[(2,_),(3,_)]) (Lc:=[]) (fun gh=>[(7,vi gh.1)]) (fun gh=>[]) (fun gh=>gh.2) (fun gh=>gh.1≤x.comments.length∧x.comments.take gh.1=y.comments.take gh.1∧(∀ b o,g b=some o→gh.2 b=some o)) (fun gh=>x.comments.length - gh.1) ((0,g)) (by exact (H).sub ⟨rfl,rfl,rfl,aC⟩) ?_ ?_
 ·exact ⟨iF _,rfl,fun _ _ h=>h⟩
 clear H;intro gh a w hI H;obtain ⟨k3,g3⟩:=gh;dsimp only at hI H;obtain ⟨ape,Zt,CO⟩:=hI;dsimp only [lca,aV] at H;refine kP H (SQ fun _ gu=>SR fun _ iX=>Rm rfl (Rf wJ rfl (Rg rV rfl (ay CO (hga 2 _ rfl)) (Rl nX rfl (Rc rfl (Kz iX (Cd rfl ?_ ?_))))))) <;> clear H iX
 ·intro oZ a H
  try have Db:=dT oZ
  have hk2:k3 < x.comments.length:=by omega
  have hk3:k3 < y.comments.length:=by omega
  obtain ⟨s1,t1,rfl,hw1⟩:=Xd (hx3.mono CO) hk2;obtain ⟨s2,t2,rfl,hw2⟩:=Xd (hy3.mono CO) hk3;refine kP H (Kc gu (SQ fun _ jo=>SB (SQ fun _ iN=>?_)));clear H gu;intro a H;refine dI hmx [[],[0],[],[0,1,2],(ra 0 4),[],[5],[],[5,6,7],(ra 5 4),(ra 0 10)] [] (by kernel_rfl) [_,_,_,_,.agg (fq.cells x.comments[k3]).toArray,_,_,_,_,.agg (fq.cells y.comments[k3]).toArray,.bool (!decide (x.comments[k3]=y.comments[k3]))] H (aG (Z0 rfl (Rf wJ rfl)) (X1 0 116 rfl fun hG=>Rg rV rfl (ay hG (ay CO (hga 2 _ rfl)))) (Z0 rfl (Rm rfl)) (Z2 1 117 2 118 rfl (Ri nX oP rfl rfl)) (aG ?_ (Z0 rfl (Rf wJ rfl)) (X1 5 121 rfl fun hG=>Rg rV rfl (ay hG (ay CO (hge 2 _ rfl)))) (Z0 rfl (Rm rfl)) (bq (Z2 6 122 7 123 rfl (Ri nX oP rfl rfl)) (bq ?_ (bq ?_ dD))))) ?_
  ·refine dN 3 119 rfl rfl fun _ a w G1 hG HT H fin=>?_;refine aW oP (cs:=fq.cells x.comments[k3]) H wn rfl rfl (fun i v hi=>H.hp.aF (ay hG (hw1 i v hi))) rfl ?_;clear H;intro a H;exact fin H iJ rfl
  ·refine dN 8 124 rfl rfl fun _ a w G1 hG HT H fin=>?_;refine aW oP (cs:=fq.cells y.comments[k3]) H wn rfl rfl (fun i v hi=>H.hp.aF (ay hG (hw2 i v hi))) rfl ?_;clear H;intro a H;exact fin H iJ rfl
  ·refine eu 4 120 9 125 rfl rfl fun _ a w G1 hG HT H fin=>?_;refine FE XT H wn rfl rfl rfl rfl ?_;clear H;intro a H;exact fin H iJ (aB (fun b=>Value.bool !b) (aaV _ _))
  clear H;intro a w G ahM H hv;have H:=H.aZ (hv 10 126 rfl rfl) rfl;clear hv;refine aH ⟨rfl,?_⟩;refine iN _ _ ?_;clear iN;refine jX H rfl ?_ ?_
  ·intro xU
   try have als:=dT xU
   refine kP H (SR fun _ kJ=>aj kJ rfl ?_);clear H kJ;intro a H;refine lr H results44 rfl ?_
   first
   | exact H.rt ⟨true,rfl,by rw [← he];exact ⟨fun _=>⟨⟨⟨hst,hls⟩,hcs⟩,hvs⟩,fun _=>rfl⟩⟩
   | exact H.rt ⟨false,rfl,by
     simp only [mD,false_iff]
     rintro rfl
     first
      | exact c0 rfl
      | exact c1 rfl
      | (simp at qw;done)
      | (simp at xU;done)
      | (simp at mR;done)
      | omega
      | (simp_all;done)
      | fail⟩
  intro xU
  try have als:=dF xU
  refine kP H (Kc jo (SC (Rm rfl (Rd rfl (Ra rfl ?_)))));clear H jo;intro a H;refine aH ?_;refine dK ((k3+1,_)) (by exact (H).sub ⟨rfl,rfl,rfl,aC⟩) ?_ ?_
  ·(try dsimp only);exact ⟨by omega,MX hk2 hk3 Zt (by simpa using xU),fun b o h=>ahM b o (CO b o h)⟩
  first|omega|(dsimp only;omega)
 intro oZ a H
 try have Db:=dF oZ
 obtain rfl:k3=x.comments.length:=by omega
 have hcs:=MW hl2 Zt;replace hga:=fun j v hj=>ay CO (hga j v hj);replace hge:=fun j v hj=>ay CO (hge j v hj);replace hx4:=hx4.mono CO;replace hy4:=hy4.mono CO;refine dW ?_;refine gM _ _ ?_;clear gM;refine kP H (SQ fun _ kK=>SR fun _ jA=>aj jA rfl (SB ?_));clear H jA;intro a H;skip;refine eH (ι:=Nat × GH) (Tc:=[(2,_),(3,_)]) (Lc:=[]) (fun gh=>[(8,vi gh.1)]) (fun gh=>[]) (fun gh=>gh.2) (fun gh=>gh.1≤x.vars.length∧x.vars.take gh.1=y.vars.take gh.1∧(∀ b o,g3 b=some o→gh.2 b=some o)) (fun gh=>x.vars.length - gh.1) ((0,g3)) (by exact (H).sub ⟨rfl,rfl,rfl,aC⟩) ?_ ?_
 ·exact ⟨iF _,rfl,fun _ _ h=>h⟩
 clear H;intro gh a w hI H;obtain ⟨k4,g4⟩:=gh;dsimp only at hI H;obtain ⟨apf,Zu,CP⟩:=hI;dsimp only [lca,aV] at H;refine kP H (SQ fun _ kT=>SR fun _ kU=>Rm rfl (Rf wK rfl (Rg oO rfl (ay CP (hga 3 _ rfl)) (Rl mX rfl (Rc rfl (Kz kU (Cd rfl ?_ ?_))))))) <;> clear H kU
 ·intro R5 a H
  try have alu:=dT R5
  have hk2:k4 < x.vars.length:=by omega
  have hk3:k4 < y.vars.length:=by omega
  obtain ⟨s1,t1,rfl,hw1⟩:=abN (hx4.mono CP) hk2;obtain ⟨s2,t2,rfl,hw2⟩:=abN (hy4.mono CP) hk3;refine kP H (Kc kT (SQ fun _ lM=>SB (SQ fun _ lN=>?_)));clear H kT;intro a H;refine dI hmx [[],[0],[],[0,1,2],(ra 0 4),[],[5],[],[5,6,7],(ra 5 4),(ra 0 10)] [] (by kernel_rfl) [_,_,_,_,.agg (iE.cells x.vars[k4]).toArray,_,_,_,_,.agg (iE.cells y.vars[k4]).toArray,.bool (!decide (x.vars[k4]=y.vars[k4]))] H (aG (Z0 rfl (Rf wK rfl)) (X1 0 134 rfl fun hG=>Rg oO rfl (ay hG (ay CP (hga 3 _ rfl)))) (Z0 rfl (Rm rfl)) (Z2 1 135 2 136 rfl (Ri mX oQ rfl rfl)) (aG ?_ (Z0 rfl (Rf wK rfl)) (X1 5 139 rfl fun hG=>Rg oO rfl (ay hG (ay CP (hge 3 _ rfl)))) (Z0 rfl (Rm rfl)) (bq (Z2 6 140 7 141 rfl (Ri mX oQ rfl rfl)) (bq ?_ (bq ?_ dD))))) ?_
  ·refine dN 3 137 rfl rfl fun _ a w G1 hG HT H fin=>?_;refine aW oQ (cs:=iE.cells x.vars[k4]) H wn rfl rfl (fun i v hi=>H.hp.aF (ay hG (hw1 i v hi))) rfl ?_;clear H;intro a H;exact fin H iJ rfl
  ·refine dN 8 142 rfl rfl fun _ a w G1 hG HT H fin=>?_;refine aW oQ (cs:=iE.cells y.vars[k4]) H wn rfl rfl (fun i v hi=>H.hp.aF (ay hG (hw2 i v hi))) rfl ?_;clear H;intro a H;exact fin H iJ rfl
  ·refine eu 4 138 9 143 rfl rfl fun _ a w G1 hG HT H fin=>?_;refine FE XW H wn rfl rfl rfl rfl ?_;clear H;intro a H;exact fin H iJ (aB (fun b=>Value.bool !b) (aaY _ _))
  clear H;intro a w G E9 H hv;have H:=H.aZ (hv 10 144 rfl rfl) rfl;clear hv;refine aH ⟨rfl,?_⟩;refine lN _ _ ?_;clear lN;refine jX H rfl ?_ ?_
  ·intro mR
   try have MF:=dT mR
   refine kP H (SR fun _ lQ=>aj lQ rfl ?_);clear H lQ;intro a H;refine lr H results44 rfl ?_
   first
   | exact H.rt ⟨true,rfl,by rw [← he];exact ⟨fun _=>⟨⟨⟨hst,hls⟩,hcs⟩,hvs⟩,fun _=>rfl⟩⟩
   | exact H.rt ⟨false,rfl,by
     simp only [mD,false_iff]
     rintro rfl
     first
      | exact c0 rfl
      | exact c1 rfl
      | (simp at qw;done)
      | (simp at xU;done)
      | (simp at mR;done)
      | omega
      | (simp_all;done)
      | fail⟩
  intro mR
  try have MF:=dF mR
  refine kP H (Kc lM (SC (Rm rfl (Rd rfl (Ra rfl ?_)))));clear H lM;intro a H;refine aH ?_;refine dK ((k4+1,_)) (by exact (H).sub ⟨rfl,rfl,rfl,aC⟩) ?_ ?_
  ·(try dsimp only);exact ⟨by omega,MX hk2 hk3 Zu (by simpa using mR),fun b o h=>E9 b o (CP b o h)⟩
  first|omega|(dsimp only;omega)
 intro R5 a H
 try have alu:=dF R5
 obtain rfl:k4=x.vars.length:=by omega
 have hvs:=MW hl3 Zu;replace hga:=fun j v hj=>ay CP (hga j v hj);replace hge:=fun j v hj=>ay CP (hge j v hj);replace hx4:=hx4.mono CP;replace hy4:=hy4.mono CP;refine dW ?_;refine kK _ _ ?_;clear kK;refine kP H (SR fun _ mo=>aj mo rfl ?_);clear H mo;intro a H;refine lr H results44 rfl ?_
 first
 | exact H.rt ⟨true,rfl,by rw [← he];exact ⟨fun _=>⟨⟨⟨hst,hls⟩,hcs⟩,hvs⟩,fun _=>rfl⟩⟩
 | exact H.rt ⟨false,rfl,by
   simp only [mD,false_iff]
   rintro rfl
   first
    | exact c0 rfl
    | exact c1 rfl
    | (simp at qw;done)
    | (simp at xU;done)
    | (simp at mR;done)
    | omega
    | (simp_all;done)
    | fail⟩
end
section
open Go.RowKit
theorem agh:∀ args w,(callFunc 44 args).run prog w=.ok (.enter 44 args) w:=enters func44 rfl (by kernel_rfl)
set_option maxHeartbeats 4000000 in
theorem Uv (G:GH) (w0:World) (hG:Hold G w0) (D E:jS) (x y:oC) (hD:qF G D x) (hE:qF G E y) (hz:bU x.flow≤4294967296) :
  Calls prog 10 #[D.val,E.val] w0 (bJ w0 G fun u G'=>∃ b,u=.bool b∧(b=true↔x=y)):=by
 have hml:maxLen=9223372036854775807:=rfl
 have he:(((x.flow=y.flow∧x.fin=y.fin)∧x.revs=y.revs)∧x.gq=y.gq)↔x=y:=by cases x;cases y;simp [and_assoc]
 obtain ⟨⟨rA,rn,rc⟩,hr1⟩:∃ q,D.r=q:=⟨_,rfl⟩;obtain ⟨⟨sA,sn,sc⟩,hr2⟩:∃ q,E.r=q:=⟨_,rfl⟩;have hv1:=hD.rv;have hv2:=hE.rv;rw [hr1] at hv1;rw [hr2] at hv2;obtain rfl:=hv1.len;obtain rfl:=hv2.len;obtain ⟨_,u1,hu1,Y6,ajn,-⟩:=hv1.slice;obtain ⟨_,u2,hu2,Y7,ajo,-⟩:=hv2.slice
 simp only [bV] at *
 refine eN [(0,_),(1,_)] func10 rfl ntmps10 rfl rfl hG ?_;intro a H;refine dw (fun _ K1=>?_);refine eD (cs:=[_,_,_,_,_,_,_,_,_,_,_]) H wn rfl rfl rfl ?_;clear H;intro b2 a w hb2 H;refine eD (cs:=[_,_,_,_,_,_,_,_,_,_,_]) H wn rfl rfl rfl ?_;clear H;intro b3 a w hb3 H;refine kH H (aj K1 rfl (SQ fun _ K2=>SQ fun _ K3=>?_));clear H K1;intro a H;obtain ⟨Qv,mZ,sM,HQ⟩:=H.eG;clear H;obtain ⟨Ga,kN,hb2',H⟩:=HQ.eG;clear HQ;have hga:=fun j v hj=>oq hb2' 0 D.cells rfl j v hj;have hge:∀ j v,E.cells[j]?=some v→aF Ga b3 (0+j)=some v:=fun j v hj=>ay kN (oq sM 0 E.cells rfl j v hj)
 have hgd:∀ j v,[aK D.p,vi x.fin.marks.ins,vi x.fin.marks.move,aK D.d,aK D.y][j]?=some v→aF Ga b2 (1+j)=some v:=fun j v hj=>by rw [← hD.ins,← hD.mv] at hj;exact oq hb2' 1 [aK D.p,vi D.ins,vi D.move,aK D.d,aK D.y] rfl j v hj
 have hgf:∀ j v,[aK E.p,vi y.fin.marks.ins,vi y.fin.marks.move,aK E.d,aK E.y][j]?=some v→aF Ga b3 (1+j)=some v:=fun j v hj=>by rw [← hE.ins,← hE.mv] at hj;exact ay kN (oq sM 1 [aK E.p,vi E.ins,vi E.move,aK E.d,aK E.y] rfl j v hj)
 have hgs:∀ j v,[aK D.s1,aK D.s2,aK D.s3,aK D.s4][j]?=some v→aF Ga b2 (7+j)=some v:=fun j v hj=>oq hb2' 7 [aK D.s1,aK D.s2,aK D.s3,aK D.s4] rfl j v hj;have hgt:∀ j v,[aK E.s1,aK E.s2,aK E.s3,aK E.s4][j]?=some v→aF Ga b3 (7+j)=some v:=fun j v hj=>ay kN (oq sM 7 [aK E.s1,aK E.s2,aK E.s3,aK E.s4] rfl j v hj);have hx1:=(hD.fl.mono mZ).mono kN;have hy1:=(hE.fl.mono mZ).mono kN;have hx2:=(hD.hd.mono mZ).mono kN;have hy2:=(hE.hd.mono mZ).mono kN;have hx3:=(hv1.mono mZ).mono kN;have hy3:=(hv2.mono mZ).mono kN;have hx4:=(hD.st.mono mZ).mono kN;have hy4:=(hE.st.mono mZ).mono kN
 have hgr:aF Ga b2 6=some (.slice rA x.revs.length rc):=by have:=hga 6 _ rfl;rw [hr1] at this;exact this
 have Aq:aF Ga b3 6=some (.slice sA y.revs.length sc):=by have:=hge 6 _ rfl;rw [hr2] at this;exact this
 clear hD hE hv1 hv2;refine kP H (SC (Rf uM rfl (Rg jy rfl (hga 0 _ rfl) (Rf uM rfl (Rg jy rfl (hge 0 _ rfl) ?_)))));clear H;intro a H;refine s_call NV H wn rfl (XY _ _ H.ro x.flow y.flow _ _ hx1 hy1 (by omega)) rfl ?_;clear H;rintro v10 Kk a w ⟨b10,rfl,Hq⟩ vP H;refine kH H (Rn rfl (Rm rfl (Sp 12 rfl ?_ ?_))) <;> clear H
 ·intro h12 a H
  try have pF:=dT h12
  refine kH H (aQ h12 rfl (aQ h12 rfl (Pt h12 rfl (Rm rfl (aQ rfl rfl (aN rfl rfl (aN rfl rfl (Pt rfl rfl (Rm rfl (aQ rfl rfl (aQ rfl rfl (Pt rfl rfl (Kn K3 (Ct rfl rfl (SR fun _ K4=>aj K4 rfl ?_)))))))))))))));clear H K3 K4;intro a H;refine lr H results10 rfl ?_
  first
  | exact H.rt ⟨true,rfl,by rw [← he];exact ⟨fun _=>⟨⟨⟨JC,JD⟩,hls⟩,hss⟩,fun _=>rfl⟩⟩
  | exact H.rt ⟨false,rfl,by
    simp only [mD,false_iff]
    rintro rfl
    first
     | (simp at gK;done)
     | (simp_all;done)
     | fail⟩
 intro h12 a H
 try have pF:=dF h12
 refine kH H (YF Ak h12 rfl ?_);clear H;intro a H;refine aW lJ (cs:=[aK D.p,vi x.fin.marks.ins,vi x.fin.marks.move,aK D.d,aK D.y]) H (wg H rfl rfl h12) rfl rfl (fun j v hj=>H.hp.aF (ay vP (hgd j v hj))) rfl ?_;clear H;intro a H;refine kH H (YF Ak h12 rfl ?_);clear H;intro a H;refine aW lJ (cs:=[aK E.p,vi y.fin.marks.ins,vi y.fin.marks.move,aK E.d,aK E.y]) H (wg H rfl rfl h12) rfl rfl (fun j v hj=>H.hp.aF (ay vP (hgf j v hj))) rfl ?_;clear H;intro a H;refine s_call KR H (wg H rfl rfl h12) rfl (KW _ _ H.ro x.fin y.fin _ _ _ _ _ _ (hx2.mono vP) (hy2.mono vP)) rfl ?_;clear H;rintro v17 Cg a w rfl ou H;refine kH H (YN h12 rfl (Pf h12 rfl (Rm rfl (Sp 20 rfl ?_ ?_)))) <;> clear H
 ·intro h20 a H
  try have qW:=dT h20
  refine kH H (aQ h20 rfl (aN h20 rfl (aN h20 rfl (Pt h20 rfl (Rm rfl (aQ rfl rfl (aQ rfl rfl (Pt rfl rfl (Kn K3 (Ct rfl rfl (SR fun _ K5=>aj K5 rfl ?_)))))))))));clear H K3 K5;intro a H;refine lr H results10 rfl ?_
  first
  | exact H.rt ⟨true,rfl,by rw [← he];exact ⟨fun _=>⟨⟨⟨JC,JD⟩,hls⟩,hss⟩,fun _=>rfl⟩⟩
  | exact H.rt ⟨false,rfl,by
    simp only [mD,false_iff]
    rintro rfl
    first
     | (simp at gK;done)
     | (simp_all;done)
     | fail⟩
 intro h20 a H
 try have qW:=dF h20
 refine kH H (YF qM h20 rfl (YR ow h20 rfl (ay ou (ay vP hgr)) (YL mH h20 rfl (YF qM h20 rfl (YR ow h20 rfl (ay ou (ay vP Aq)) (YL mH h20 rfl (YC h20 rfl (Pf h20 rfl (Rm rfl (Sp 29 rfl ?_ ?_)))))))))) <;> clear H
 ·intro zq a H
  try have p29:=dT zq
  refine kH H (aQ zq rfl (aQ zq rfl (Pt zq rfl (Kn K3 (Ct rfl rfl (SR fun _ K6=>aj K6 rfl ?_))))));clear H K3 K6;intro a H;refine lr H results10 rfl ?_
  first
  | exact H.rt ⟨true,rfl,by rw [← he];exact ⟨fun _=>⟨⟨⟨JC,JD⟩,hls⟩,hss⟩,fun _=>rfl⟩⟩
  | exact H.rt ⟨false,rfl,by
    simp only [mD,false_iff]
    rintro rfl
    first
     | (simp at gK;done)
     | (simp_all;done)
     | fail⟩
 intro zq a H
 try have p29:=dF zq
 refine kH H (YF xQ zq rfl ?_);clear H;intro a H;refine aW tZ (cs:=[aK D.s1,aK D.s2,aK D.s3,aK D.s4]) H (wg H rfl rfl zq) rfl rfl (fun j v hj=>H.hp.aF (ay ou (ay vP (hgs j v hj)))) rfl ?_;clear H;intro a H;refine kH H (YF xQ zq rfl ?_);clear H;intro a H;refine aW tZ (cs:=[aK E.s1,aK E.s2,aK E.s3,aK E.s4]) H (wg H rfl rfl zq) rfl rfl (fun j v hj=>H.hp.aF (ay ou (ay vP (hgt j v hj)))) rfl ?_;clear H;intro a H;refine s_call agh H (wg H rfl rfl zq) rfl (agS _ _ H.ro x.gq y.gq _ _ _ _ _ _ _ _ ((hx4.mono vP).mono ou) ((hy4.mono vP).mono ou)) rfl ?_;clear H;rintro v34 Kl a w ⟨b34,rfl,aiy⟩ Oz H;refine kH H (YN zq rfl (Pf zq rfl (Kn K3 (Cd rfl ?_ ?_)))) <;> clear H K3
 ·intro CJ a H
  try have p36:=dT CJ
  refine kP H (SR fun _ K7=>aj K7 rfl ?_);clear H K7;intro a H;refine lr H results10 rfl ?_
  first
  | exact H.rt ⟨true,rfl,by rw [← he];exact ⟨fun _=>⟨⟨⟨JC,JD⟩,hls⟩,hss⟩,fun _=>rfl⟩⟩
  | exact H.rt ⟨false,rfl,by
    simp only [mD,false_iff]
    rintro rfl
    first
     | (simp at gK;done)
     | (simp_all;done)
     | fail⟩
 intro CJ a H
 try have p36:=dF CJ
 refine kP H (Kc K2 (SQ fun _ K8=>SQ fun _ K9=>?_));clear H K2;intro a H
 have hl1:x.revs.length=y.revs.length:=by omega
 have hss:x.gq=y.gq:=aiy.1 (by simp_all);have JC:x.flow=y.flow:=Hq.1 (by simp_all)
 have JD:x.fin=y.fin:=by simp_all
 have hmm:=fun b o h=>Oz b o (ou b o (vP b o h));replace hgr:=ay hmm hgr;replace Aq:=ay hmm Aq;replace hx3:=hx3.mono hmm;replace hy3:=hy3.mono hmm;refine kP H (SC (aO K9 rfl (SB ?_)));clear H K9;intro a H;skip;refine eH (ι:=Nat × GH) (Tc:=[(2,_),(3,_)]) (Lc:=[]) (fun gh=>[(5,vi gh.1)]) (fun gh=>[]) (fun gh=>gh.2) (fun gh=>gh.1≤x.revs.length∧x.revs.take gh.1=y.revs.take gh.1∧(∀ b o,Kl b=some o→gh.2 b=some o)) (fun gh=>x.revs.length - gh.1) ((0,Kl)) (by exact (H).sub ⟨rfl,rfl,rfl,aC⟩) ?_ ?_
 ·exact ⟨iF _,rfl,fun _ _ h=>h⟩
 clear H;intro gh a w hI H;obtain ⟨k,g⟩:=gh;dsimp only at hI H;obtain ⟨hk,hs,Ap⟩:=hI;dsimp only [lca,aV] at H;refine kP H (SQ fun _ aT=>SR fun _ bB=>Rm rfl (Rf qM rfl (Rg ow rfl (ay Ap hgr) (Rl mH rfl (Rc rfl (Kz bB (Cd rfl ?_ ?_))))))) <;> clear H bB
 ·intro kM a H
  try have p41:=dT kM
  have hk2:k < x.revs.length:=by omega
  have hk3:k < y.revs.length:=by omega
  obtain ⟨s1,t1,rfl,hw1⟩:=U8 (hx3.mono Ap) hk2;obtain ⟨s2,t2,rfl,hw2⟩:=U8 (hy3.mono Ap) hk3;refine kP H (Kc aT (SQ fun _ bC=>SB (SQ fun _ bK=>?_)));clear H aT;intro a H;refine dI hmx [[],[0],[],[0,1,2],(ra 0 4),[],[5],[],[5,6,7],(ra 5 4),(ra 0 10)] [] (by kernel_rfl) [_,_,_,_,.agg (dh.cells x.revs[k]).toArray,_,_,_,_,.agg (dh.cells y.revs[k]).toArray,.bool (!decide (x.revs[k]=y.revs[k]))] H (aG (Z0 rfl (Rf qM rfl)) (X1 0 44 rfl fun hG=>Rg ow rfl (ay hG (ay Ap hgr))) (Z0 rfl (Rm rfl)) (Z2 1 45 2 46 rfl (Ri mH nV rfl rfl)) (aG ?_ (Z0 rfl (Rf qM rfl)) (X1 5 49 rfl fun hG=>Rg ow rfl (ay hG (ay Ap Aq))) (Z0 rfl (Rm rfl)) (bq (Z2 6 50 7 51 rfl (Ri mH nV rfl rfl)) (bq ?_ (bq ?_ dD))))) ?_
  ·refine dN 3 47 rfl rfl fun _ a w G1 hG HT H fin=>?_;refine aW nV (cs:=dh.cells x.revs[k]) H wn rfl rfl (fun i v hi=>H.hp.aF (ay hG (hw1 i v hi))) rfl ?_;clear H;intro a H;exact fin H iJ rfl
  ·refine dN 8 52 rfl rfl fun _ a w G1 hG HT H fin=>?_;refine aW nV (cs:=dh.cells y.revs[k]) H wn rfl rfl (fun i v hi=>H.hp.aF (ay hG (hw2 i v hi))) rfl ?_;clear H;intro a H;exact fin H iJ rfl
  ·refine eu 4 48 9 53 rfl rfl fun _ a w G1 hG HT H fin=>?_;refine FE XV H wn rfl rfl rfl rfl ?_;clear H;intro a H;exact fin H iJ (aB (fun b=>Value.bool !b) (aaX _ _))
  clear H;intro a w G fH H hv;have H:=H.aZ (hv 10 54 rfl rfl) rfl;clear hv;refine aH ⟨rfl,?_⟩;refine bK _ _ ?_;clear bK;refine jX H rfl ?_ ?_
  ·intro gK
   try have p54:=dT gK
   refine kP H (SR fun _ bP=>aj bP rfl ?_);clear H bP;intro a H;refine lr H results10 rfl ?_
   first
   | exact H.rt ⟨true,rfl,by rw [← he];exact ⟨fun _=>⟨⟨⟨JC,JD⟩,hls⟩,hss⟩,fun _=>rfl⟩⟩
   | exact H.rt ⟨false,rfl,by
     simp only [mD,false_iff]
     rintro rfl
     first
      | (simp at gK;done)
      | (simp_all;done)
      | fail⟩
  intro gK
  try have p54:=dF gK
  refine kP H (Kc bC (SC (Rm rfl (Rd rfl (Ra rfl ?_)))));clear H bC;intro a H;refine aH ?_;refine dK ((k+1,_)) (by exact (H).sub ⟨rfl,rfl,rfl,aC⟩) ?_ ?_
  ·(try dsimp only);exact ⟨by omega,MX hk2 hk3 hs (by simpa using gK),fun b o h=>fH b o (Ap b o h)⟩
  first|omega|(dsimp only;omega)
 intro kM a H
 try have p41:=dF kM
 obtain rfl:k=x.revs.length:=by omega
 have hls:=MW hl1 hs;refine dW ?_;refine K8 _ _ ?_;clear K8;refine kP H (SR fun _ dx=>aj dx rfl ?_);clear H dx;intro a H;refine lr H results10 rfl ?_
 first
 | exact H.rt ⟨true,rfl,by rw [← he];exact ⟨fun _=>⟨⟨⟨JC,JD⟩,hls⟩,hss⟩,fun _=>rfl⟩⟩
 | exact H.rt ⟨false,rfl,by
   simp only [mD,false_iff]
   rintro rfl
   first
    | (simp at gK;done)
    | (simp_all;done)
    | fail⟩
end
section
open Go.RowKit
section
variable {N:Nat} {D:List Deferred} {w0:World} {F:Nat→Prop} {G0 G:GH} {L Lo:OL} {T:List (Nat × ak)}
variable {r:Option Nat} {P:Program} {ops:Array Oper} {Q:Exit→Act→World→Prop} {rest:List Oper} {a:Act} {w:World}
variable {d:Nat} {ty:TypeId} {pos:String} {aU:Array Edge} {g:Option (Nat × Bool)}
end
end
section
open Go.RowKit
theorem dO.ptr {e sz n c:Nat} {A:Option Addr} {xs:List ak} {Lo:OL} (h:dO e sz (.slice A n c) n xs Lo) (hn:0 < n):∃ b,A=some ⟨b,0,none⟩:=by
 rcases h.2 with ⟨_,h0,_⟩|⟨b,cap,cur,he,_⟩
 ·omega
 ·injection he with e1;exact ⟨b,e1⟩
theorem dO.at {w0 w:World} {F:Nat→Prop} {G0 G:GH} {L Lo:OL} {e sz n c b o:Nat} {xs:List ak} (h:dO e sz (.slice (some ⟨b,o,none⟩) n c) n xs Lo) (H:Hp w0 F G0 G L w) (hsub:∀ x∈Lo,x∈L) {i:Nat} {u:ak} (hi:xs[i]?=some u):w.cell? ⟨b,i,none⟩=some u:=by
 rcases h.2 with ⟨h1,_⟩|⟨b2,cap,cur,he,hl,h1,h2,h3,h4⟩
 ·cases h1
 ·injection he with e1
  injection e1 with e1
  injection e1 with e1
  subst e1
  refine H.aak (c:=cur) (e:=e) (fz:=(0,0)) (hsub _ (by rw [hl];exact List.mem_singleton_self _)) ?_
  have hx:i < xs.length:=(mq.1 hi).1
  rw [h.1] at hx
  rw [← h4,Af,av hx,Array.getElem?_toList] at hi
  exact hi
theorem flat_get {sz:Nat}:∀ {css:List (List ak)} {k:Nat} (hk:k < css.length) (h:∀ cs∈css,cs.length=sz) (j:Nat),j < sz→css.flatten[k*sz+j]?=css[k][j]?
 | c :: css,0,_,h,j,hj=>by
  rw [List.flatten_cons,Nat.zero_mul,lD,List.getElem_cons_zero,Dy (by rw [h c lW];exact hj)]
 | c :: css,k+1,hk,h,j,hj=>by
  have ih:=flat_get (css:=css) (k:=k) (by simpa using hk) (fun cs hc=>h cs (nE _ hc)) j hj
  rw [List.flatten_cons,List.getElem_cons_succ,Ag (by rw [h c lW,Nat.succ_mul];omega),h c lW,show (k+1)*sz+j - sz=k*sz+j by rw [Nat.succ_mul];omega]
  exact ih
theorem dG.at {G:GH} {sz:Nat} {rows:List (List Dat)} {xs:List ak} (h:dG G sz rows xs) {k:Nat} {r:List Dat} (hk:rows[k]?=some r):∃ cs,cs.length=sz∧(∀ j u,cs[j]?=some u→xs[k*sz+j]?=some u)∧bH G r cs:=by
 obtain ⟨css,rfl,h2,h3⟩:=h
 have hkl:k < css.length:=by rw [h2];exact (mq.1 hk).1
 obtain ⟨hr,hl⟩:=h3 k r css[k] hk (fT hkl)
 refine ⟨css[k],hl,fun j u hj=>?_,hr⟩
 rw [flat_get hkl (fun cs hc=>?_) j (by rw [← hl];exact (mq.1 hj).1)]
 ·exact hj
 ·obtain ⟨i,hi,rfl⟩:=List.getElem_of_mem hc
  exact (h3 i rows[i] css[i] (fT (by omega)) (fT hi)).2
end
section
open Go.RowKit
section
variable {N:Nat} {D:List Deferred} {w0:World} {F:Nat→Prop} {G0 G:GH} {L:OL} {T:List (Nat × ak)}
variable {r:Option Nat} {P:Program} {ops:Array Oper} {Q:Exit→Act→World→Prop} {rest:List Oper} {a:Act} {w:World}
variable {d:Nat} {ty:TypeId} {pos:String} {aU:Array Edge} {g:Option (Nat × Bool)}
end
theorem dO.set1 {e sz n cap b o:Nat} {xs:List ak} {Lo:OL} (h:dO e sz (.slice (some ⟨b,o,none⟩) n cap) n xs Lo) :
  ∃ cur:List ak,o=0∧Lo=[(b,.cells cur.toArray e (0,0))]∧n*sz≤cur.length∧∀ j v,dO e sz (.slice (some ⟨b,0,none⟩) n cap) n (xs.set j v) [(b,.cells (cur.set j v).toArray e (0,0))]:=by
 rcases h.2 with ⟨h1,_⟩|⟨b',cap',cur',h1,h2,h3,h4,h5,h6⟩
 ·cases h1
 ·cases h1
  refine ⟨cur'.toList,rfl,h2,?_,fun j v=>⟨by rw [List.length_set];exact h.1,.inr ⟨b,cap,_,rfl,rfl,h3,h4,by simpa using h5,?_⟩⟩⟩
  ·rw [yS,h5];exact Nat.mul_le_mul_right _ h3
  ·rw [List.toList_toArray,← h6,List.take_set]
theorem ako (A B:OL) (x:Nat × Obj):(A++(B++[x]))[A.length+B.length]?=some x:=by
 rw [Ag (by omega),QF,Ag (dJ _),Nat.sub_self];rfl
theorem amN (A B:OL) (x y:Nat × Obj):(A++(B++[x])).set (A.length+B.length) y=A++(B++[y]):=by
 rw [List.set_append_right _ _ (by omega),QF,List.set_append_right _ _ (dJ _),Nat.sub_self];rfl
end
section
open Go.RowKit
theorem adN (G:GH) (w0:World) (hO:ig G [] w0) (rows:List (List Dat)) (A:Option Addr) (n c:Nat) (hv:au G (.sl 3 rows) (.slice A n c)) (hz:rows.length≤4294967296) :
  Calls prog 33 #[.slice A n c] w0 (gy w0 G [] fun u G' L'=>∃ xs,dO 49 3 u rows.length xs L'∧dG G' 3 rows xs):=by
 obtain ⟨hn,hc1,hc2,hnil,hx⟩:=hv.cells;refine jB (N:=8) (T:=[(0,_)]) func33 rfl ntmps33 rfl rfl hO ?_;intro a H;refine kP H (SR fun _ K1=>aj K1 rfl (SQ fun _ K2=>SR fun _ K3=>Rm rfl ?_));clear H K1;intro a H;refine En mH H wn rfl rfl ?_;clear H;intro a H;refine K3 _ _ ?_;clear K3;refine jX H rfl ?_ ?_
 ·intro h4
  refine kP H (SR fun _ K4=>aj K4 rfl ?_);clear H K4;intro a H;refine lr H results33 rfl ?_;have hr0:=hnil (by simpa using h4);subst hr0;exact H.hp.eB ⟨[],dO.nil,dG.nil⟩
 intro h4
 try have p4:=dF h4
 refine fu ?_;refine K2 _ _ ?_;clear K2;refine aS (fun _ K5=>?_)
 have hA:¬ A=none:=by intro e;rw [e] at h4;cases h4
 refine nG ?_;refine Em mH nV H wn rfl ?_;clear H;intro b5 a w hb5 H;refine kH H (Rm rfl ?_);clear H;intro a H
 by_cases hr0:rows=[]
 ·have hn0:n=0:=by rw [hn,hr0];rfl
  subst hn0;refine Dh mH nV H wn rfl rfl (dJ _) rfl ?_;clear H;intro a H;refine kH H (aO K5 rfl ?_);clear H K5;intro a H;refine lr H results33 rfl ?_;subst hr0;exact H.hp.eB ⟨[],dO.empty,dG.nil⟩
 obtain ⟨b,o,xs,rfl,hxl,hxc,hx1,iK⟩:=hx hr0;refine tX (Li:=[]) (Lo:=[_]) (news:=xs) mH nV rfl rfl H wn rfl rfl dO.empty hxl (fun j u hj=>H.hp.aF (hxc j u hj)) hx1 (by omega) (by omega) rfl ?_;clear H;intro v7 Lo a w hrow H;dsimp only [List.nil_append] at H;exact kH H (aO K5 rfl (LR results33 rfl fun H=>H.hp.eB ⟨_,by rw [lD,hn] at hrow;exact hrow,iK⟩))
theorem adO (G:GH) (w0:World) (hO:ig G [] w0) (rows:List (List Dat)) (A:Option Addr) (n c:Nat) (hv:au G (.sl 6 rows) (.slice A n c)) (hz:rows.length≤4294967296) :
  Calls prog 94 #[.slice A n c] w0 (gy w0 G [] fun u G' L'=>∃ xs,dO 159 6 u rows.length xs L'∧dG G' 6 rows xs):=by
 obtain ⟨hn,hc1,hc2,hnil,hx⟩:=hv.cells;refine jB (N:=8) (T:=[(0,_)]) func94 rfl ntmps94 rfl rfl hO ?_;intro a H;refine kP H (SR fun _ K1=>aj K1 rfl (SQ fun _ K2=>SR fun _ K3=>Rm rfl ?_));clear H K1;intro a H;refine En ko H wn rfl rfl ?_;clear H;intro a H;refine K3 _ _ ?_;clear K3;refine jX H rfl ?_ ?_
 ·intro h4
  refine kP H (SR fun _ K4=>aj K4 rfl ?_);clear H K4;intro a H;refine lr H results94 rfl ?_;have hr0:=hnil (by simpa using h4);subst hr0;exact H.hp.eB ⟨[],dO.nil,dG.nil⟩
 intro h4
 try have p4:=dF h4
 refine fu ?_;refine K2 _ _ ?_;clear K2;refine aS (fun _ K5=>?_)
 have hA:¬ A=none:=by intro e;rw [e] at h4;cases h4
 refine nG ?_;refine Em ko iR H wn rfl ?_;clear H;intro b5 a w hb5 H;refine kH H (Rm rfl ?_);clear H;intro a H
 by_cases hr0:rows=[]
 ·have hn0:n=0:=by rw [hn,hr0];rfl
  subst hn0;refine Dh ko iR H wn rfl rfl (dJ _) rfl ?_;clear H;intro a H;refine kH H (aO K5 rfl ?_);clear H K5;intro a H;refine lr H results94 rfl ?_;subst hr0;exact H.hp.eB ⟨[],dO.empty,dG.nil⟩
 obtain ⟨b,o,xs,rfl,hxl,hxc,hx1,iK⟩:=hx hr0;refine tX (Li:=[]) (Lo:=[_]) (news:=xs) ko iR rfl rfl H wn rfl rfl dO.empty hxl (fun j u hj=>H.hp.aF (hxc j u hj)) hx1 (by omega) (by omega) rfl ?_;clear H;intro v7 Lo a w hrow H;dsimp only [List.nil_append] at H;exact kH H (aO K5 rfl (LR results94 rfl fun H=>H.hp.eB ⟨_,by rw [lD,hn] at hrow;exact hrow,iK⟩))
theorem adM (G:GH) (w0:World) (hO:ig G [] w0) (rows:List (List Dat)) (A:Option Addr) (n c:Nat) (hv:au G (.sl 2 rows) (.slice A n c)) (hz:rows.length≤4294967296) :
  Calls prog 95 #[.slice A n c] w0 (gy w0 G [] fun u G' L'=>∃ xs,dO 84 2 u rows.length xs L'∧dG G' 2 rows xs):=by
 obtain ⟨hn,hc1,hc2,hnil,hx⟩:=hv.cells;refine jB (N:=8) (T:=[(0,_)]) func95 rfl ntmps95 rfl rfl hO ?_;intro a H;refine kP H (SR fun _ K1=>aj K1 rfl (SQ fun _ K2=>SR fun _ K3=>Rm rfl ?_));clear H K1;intro a H;refine En jE H wn rfl rfl ?_;clear H;intro a H;refine K3 _ _ ?_;clear K3;refine jX H rfl ?_ ?_
 ·intro h4
  refine kP H (SR fun _ K4=>aj K4 rfl ?_);clear H K4;intro a H;refine lr H results95 rfl ?_;have hr0:=hnil (by simpa using h4);subst hr0;exact H.hp.eB ⟨[],dO.nil,dG.nil⟩
 intro h4
 try have p4:=dF h4
 refine fu ?_;refine K2 _ _ ?_;clear K2;refine aS (fun _ K5=>?_)
 have hA:¬ A=none:=by intro e;rw [e] at h4;cases h4
 refine nG ?_;refine Em jE jR H wn rfl ?_;clear H;intro b5 a w hb5 H;refine kH H (Rm rfl ?_);clear H;intro a H
 by_cases hr0:rows=[]
 ·have hn0:n=0:=by rw [hn,hr0];rfl
  subst hn0;refine Dh jE jR H wn rfl rfl (dJ _) rfl ?_;clear H;intro a H;refine kH H (aO K5 rfl ?_);clear H K5;intro a H;refine lr H results95 rfl ?_;subst hr0;exact H.hp.eB ⟨[],dO.empty,dG.nil⟩
 obtain ⟨b,o,xs,rfl,hxl,hxc,hx1,iK⟩:=hx hr0;refine tX (Li:=[]) (Lo:=[_]) (news:=xs) jE jR rfl rfl H wn rfl rfl dO.empty hxl (fun j u hj=>H.hp.aF (hxc j u hj)) hx1 (by omega) (by omega) rfl ?_;clear H;intro v7 Lo a w hrow H;dsimp only [List.nil_append] at H;exact kH H (aO K5 rfl (LR results95 rfl fun H=>H.hp.eB ⟨_,by rw [lD,hn] at hrow;exact hrow,iK⟩))
theorem adK (G:GH) (w0:World) (hO:ig G [] w0) (rows:List (List Dat)) (A:Option Addr) (n c:Nat) (hv:au G (.sl 6 rows) (.slice A n c)) (hz:rows.length≤4294967296) :
  Calls prog 96 #[.slice A n c] w0 (gy w0 G [] fun u G' L'=>∃ xs,dO 96 6 u rows.length xs L'∧dG G' 6 rows xs):=by
 obtain ⟨hn,hc1,hc2,hnil,hx⟩:=hv.cells;refine jB (N:=8) (T:=[(0,_)]) func96 rfl ntmps96 rfl rfl hO ?_;intro a H;refine kP H (SR fun _ K1=>aj K1 rfl (SQ fun _ K2=>SR fun _ K3=>Rm rfl ?_));clear H K1;intro a H;refine En nX H wn rfl rfl ?_;clear H;intro a H;refine K3 _ _ ?_;clear K3;refine jX H rfl ?_ ?_
 ·intro h4
  refine kP H (SR fun _ K4=>aj K4 rfl ?_);clear H K4;intro a H;refine lr H results96 rfl ?_;have hr0:=hnil (by simpa using h4);subst hr0;exact H.hp.eB ⟨[],dO.nil,dG.nil⟩
 intro h4
 try have p4:=dF h4
 refine fu ?_;refine K2 _ _ ?_;clear K2;refine aS (fun _ K5=>?_)
 have hA:¬ A=none:=by intro e;rw [e] at h4;cases h4
 refine nG ?_;refine Em nX oP H wn rfl ?_;clear H;intro b5 a w hb5 H;refine kH H (Rm rfl ?_);clear H;intro a H
 by_cases hr0:rows=[]
 ·have hn0:n=0:=by rw [hn,hr0];rfl
  subst hn0;refine Dh nX oP H wn rfl rfl (dJ _) rfl ?_;clear H;intro a H;refine kH H (aO K5 rfl ?_);clear H K5;intro a H;refine lr H results96 rfl ?_;subst hr0;exact H.hp.eB ⟨[],dO.empty,dG.nil⟩
 obtain ⟨b,o,xs,rfl,hxl,hxc,hx1,iK⟩:=hx hr0;refine tX (Li:=[]) (Lo:=[_]) (news:=xs) nX oP rfl rfl H wn rfl rfl dO.empty hxl (fun j u hj=>H.hp.aF (hxc j u hj)) hx1 (by omega) (by omega) rfl ?_;clear H;intro v7 Lo a w hrow H;dsimp only [List.nil_append] at H;exact kH H (aO K5 rfl (LR results96 rfl fun H=>H.hp.eB ⟨_,by rw [lD,hn] at hrow;exact hrow,iK⟩))
theorem adF (G:GH) (w0:World) (hG:Hold G w0) (rows:List (List Dat)) (A:Option Addr) (n c:Nat) (hv:au G (.sl 6 rows) (.slice A n c)) (hz:rows.length≤4294967296) :
  Calls prog 96 #[.slice A n c] w0 (bJ w0 G fun u G'=>au G' (.sl 6 rows) u):=Jc hG (adK G w0 (Az hG) rows A n c hv hz) rfl
theorem adP (G:GH) (w0:World) (hO:ig G [] w0) (rows:List (List Dat)) (A:Option Addr) (n c:Nat) (hv:au G (.sl 2 rows) (.slice A n c)) (hz:rows.length≤4294967296) :
  Calls prog 97 #[.slice A n c] w0 (gy w0 G [] fun u G' L'=>∃ xs,dO 99 2 u rows.length xs L'∧dG G' 2 rows xs):=by
 obtain ⟨hn,hc1,hc2,hnil,hx⟩:=hv.cells;refine jB (N:=8) (T:=[(0,_)]) func97 rfl ntmps97 rfl rfl hO ?_;intro a H;refine kP H (SR fun _ K1=>aj K1 rfl (SQ fun _ K2=>SR fun _ K3=>Rm rfl ?_));clear H K1;intro a H;refine En mX H wn rfl rfl ?_;clear H;intro a H;refine K3 _ _ ?_;clear K3;refine jX H rfl ?_ ?_
 ·intro h4
  refine kP H (SR fun _ K4=>aj K4 rfl ?_);clear H K4;intro a H;refine lr H results97 rfl ?_;have hr0:=hnil (by simpa using h4);subst hr0;exact H.hp.eB ⟨[],dO.nil,dG.nil⟩
 intro h4
 try have p4:=dF h4
 refine fu ?_;refine K2 _ _ ?_;clear K2;refine aS (fun _ K5=>?_)
 have hA:¬ A=none:=by intro e;rw [e] at h4;cases h4
 refine nG ?_;refine Em mX oQ H wn rfl ?_;clear H;intro b5 a w hb5 H;refine kH H (Rm rfl ?_);clear H;intro a H
 by_cases hr0:rows=[]
 ·have hn0:n=0:=by rw [hn,hr0];rfl
  subst hn0;refine Dh mX oQ H wn rfl rfl (dJ _) rfl ?_;clear H;intro a H;refine kH H (aO K5 rfl ?_);clear H K5;intro a H;refine lr H results97 rfl ?_;subst hr0;exact H.hp.eB ⟨[],dO.empty,dG.nil⟩
 obtain ⟨b,o,xs,rfl,hxl,hxc,hx1,iK⟩:=hx hr0;refine tX (Li:=[]) (Lo:=[_]) (news:=xs) mX oQ rfl rfl H wn rfl rfl dO.empty hxl (fun j u hj=>H.hp.aF (hxc j u hj)) hx1 (by omega) (by omega) rfl ?_;clear H;intro v7 Lo a w hrow H;dsimp only [List.nil_append] at H;exact kH H (aO K5 rfl (LR results97 rfl fun H=>H.hp.eB ⟨_,by rw [lD,hn] at hrow;exact hrow,iK⟩))
theorem adH (G:GH) (w0:World) (hG:Hold G w0) (rows:List (List Dat)) (A:Option Addr) (n c:Nat) (hv:au G (.sl 2 rows) (.slice A n c)) (hz:rows.length≤4294967296) :
  Calls prog 97 #[.slice A n c] w0 (bJ w0 G fun u G'=>au G' (.sl 2 rows) u):=Jc hG (adP G w0 (Az hG) rows A n c hv hz) rfl
theorem adL (G:GH) (w0:World) (hO:ig G [] w0) (rows:List (List Dat)) (A:Option Addr) (n c:Nat) (hv:au G (.sl 4 rows) (.slice A n c)) (hz:rows.length≤4294967296) :
  Calls prog 98 #[.slice A n c] w0 (gy w0 G [] fun u G' L'=>∃ xs,dO 87 4 u rows.length xs L'∧dG G' 4 rows xs):=by
 obtain ⟨hn,hc1,hc2,hnil,hx⟩:=hv.cells;refine jB (N:=8) (T:=[(0,_)]) func98 rfl ntmps98 rfl rfl hO ?_;intro a H;refine kP H (SR fun _ K1=>aj K1 rfl (SQ fun _ K2=>SR fun _ K3=>Rm rfl ?_));clear H K1;intro a H;refine En ru H wn rfl rfl ?_;clear H;intro a H;refine K3 _ _ ?_;clear K3;refine jX H rfl ?_ ?_
 ·intro h4
  refine kP H (SR fun _ K4=>aj K4 rfl ?_);clear H K4;intro a H;refine lr H results98 rfl ?_;have hr0:=hnil (by simpa using h4);subst hr0;exact H.hp.eB ⟨[],dO.nil,dG.nil⟩
 intro h4
 try have p4:=dF h4
 refine fu ?_;refine K2 _ _ ?_;clear K2;refine aS (fun _ K5=>?_)
 have hA:¬ A=none:=by intro e;rw [e] at h4;cases h4
 refine nG ?_;refine Em ru xu H wn rfl ?_;clear H;intro b5 a w hb5 H;refine kH H (Rm rfl ?_);clear H;intro a H
 by_cases hr0:rows=[]
 ·have hn0:n=0:=by rw [hn,hr0];rfl
  subst hn0;refine Dh ru xu H wn rfl rfl (dJ _) rfl ?_;clear H;intro a H;refine kH H (aO K5 rfl ?_);clear H K5;intro a H;refine lr H results98 rfl ?_;subst hr0;exact H.hp.eB ⟨[],dO.empty,dG.nil⟩
 obtain ⟨b,o,xs,rfl,hxl,hxc,hx1,iK⟩:=hx hr0;refine tX (Li:=[]) (Lo:=[_]) (news:=xs) ru xu rfl rfl H wn rfl rfl dO.empty hxl (fun j u hj=>H.hp.aF (hxc j u hj)) hx1 (by omega) (by omega) rfl ?_;clear H;intro v7 Lo a w hrow H;dsimp only [List.nil_append] at H;exact kH H (aO K5 rfl (LR results98 rfl fun H=>H.hp.eB ⟨_,by rw [lD,hn] at hrow;exact hrow,iK⟩))
theorem adG (G:GH) (w0:World) (hG:Hold G w0) (rows:List (List Dat)) (A:Option Addr) (n c:Nat) (hv:au G (.sl 4 rows) (.slice A n c)) (hz:rows.length≤4294967296) :
  Calls prog 98 #[.slice A n c] w0 (bJ w0 G fun u G'=>au G' (.sl 4 rows) u):=Jc hG (adL G w0 (Az hG) rows A n c hv hz) rfl
end
section
open Go.RowKit
def zW (x:Nat→ak × OL) (m:Nat) (y:ak × OL):Nat→ak × OL:=fun j=>if j=m then y else x j
theorem anN (x:Nat→ak × OL) (m:Nat) (y:ak × OL):zW x m y m=y:=av rfl
theorem abH {x:Nat→ak × OL} {m j:Nat} {y:ak × OL} (h:j≠m):zW x m y j=x j:=ah h
def rF (ms:List Nat) (S:Nat→Bool) (x:Nat→ak × OL):OL:=ms.flatMap fun m=>bif S m then (x m).2 else []
theorem Yf {S:Nat→Bool} {x:Nat→ak × OL} {y:ak × OL} {m:Nat}:∀ {ms:List Nat},m∉ms→rF ms (eO S m) (zW x m y)=rF ms S x
 | [],_=>rfl
 | k :: ms,h=>by
  have hk:k≠m:=fun e=>h (by simp [e])
  have ih:=Yf (S:=S) (x:=x) (y:=y) (ms:=ms) fun hm=>h (nE _ hm)
  unfold rF at ih ⊢
  rw [List.flatMap_cons,List.flatMap_cons,ih,abH hk,show eO S m k=S k from ah hk]
theorem Yg {S:Nat→Bool} {x:Nat→ak × OL} {y:ak × OL} {m:Nat} (hS:S m=false):∀ {ms:List Nat},ms.Nodup→m∈ms→(y.2++rF ms S x).Perm (rF ms (eO S m) (zW x m y))
 | k :: ms,hn,hm=>by
  rw [List.nodup_cons] at hn
  by_cases hk:k=m
  ·subst hk
   have e:=Yf (S:=S) (x:=x) (y:=y) hn.1
   unfold rF at e ⊢
   rw [List.flatMap_cons,List.flatMap_cons,e,anN,hS,show eO S k k=true from av rfl]
   exact List.Perm.refl _
  ·have ih:=Yg (S:=S) (x:=x) (y:=y) hS hn.2 (by
    rcases uo.1 hm with e|h
    ·exact absurd e.symm hk
    ·exact h)
   unfold rF at ih ⊢
   rw [List.flatMap_cons,List.flatMap_cons,abH hk,show eO S m k=S k from ah hk,← nN]
   refine (List.Perm.append_right _ vv).trans ?_
   rw [nN]
   exact List.Perm.append_left _ ih
section
variable {N:Nat} {D:List Deferred} {w0:World} {F:Nat→Prop} {G0 G G1 G2:GH} {L L1 L2:OL} {T Xs:List (Nat × ak)}
variable {r:Option Nat} {P:Program} {Q:Exit→Act→World→Prop} {l:List Oper} {a a':Act} {w w':World}
theorem WU {id:Nat} (ms:List Nat) (hm:P.follows .mixedOrders=true) (cZ:List (List Nat)) (B:List Nat) (hk:DJ l cZ=true) (hB:Ca l cZ B=true) (hnd:ms.Nodup) (hms:(ms.all fun m=>Nat.blt m l.length && !B.contains m)=true) (pr:(Nat→ak × OL)→Nat→ak→GH→Prop)
  (hp:∀ m,ms.contains m=true→∀ x y i v G,Nat.beq i m=false→(cZ.getD i []).contains m=false→pr x i v G→pr (zW x m y) i v G)
  (H:St N D w0 F G0 G L T a w)
  (hstep:allI (fun i o=>∀ x L' S a w G1,(∀ q,q∈L→q∈L')→B.contains i=false→ms.contains i=false→S i=false→(∀ j∈cZ.getD i [],S j=true)→(∀ k o,G k=some o→G1 k=some o)→St N D w0 F G0 G1 L' T a w→(∀ i d,S i=true→fG l i=some d→∃ v,a.tmps[d]?=some v∧pr x i v G1) →
   WL r P l.toArray (fun e a' w'=>e=.normal∧DX N D w0 F G0 G L' T l (pr x) (eO S i) a' w') [o] a w) 0 l)
  (hmid:allI (fun m o=>ms.contains m=true→∀ x L' S a w G1,(∀ q,q∈L→q∈L')→S m=false→(∀ j∈cZ.getD m [],S j=true)→(∀ k o,G k=some o→G1 k=some o)→St N D w0 F G0 G1 L' T a w→(∀ y i d,i≠m→S i=true→fG l i=some d→∃ v,a.tmps[d]?=some v∧pr (zW x m y) i v G1) →
   WL r P l.toArray (fun e a' w'=>e=.normal∧∃ y,DX N D w0 F G0 G (y.2++L') T l (pr (zW x m y)) (eO S m) a' w') [o] a w) 0 l)
  (hend:∀ x a w G1,(∀ k o,G k=some o→G1 k=some o)→St N D w0 F G0 G1 (rF ms (fun _=>true) x++L) T a w→(∀ i d,B.contains i=false→fG l i=some d→∃ v,a.tmps[d]?=some v∧pr x i v G1)→WL r P l.toArray (fun e a w=>e=.normal∧Q .normal a w) (sP l B) a w):WP r P (.region id l.toArray true) Q a w:=by
 refine QJ hm cZ B hk hB (fun S a w=>∃ x,DX N D w0 F G0 G (rF ms S x++L) T l (pr x) S a w)
  ⟨fun _=>(.bool false,[]),DX.perm (L1:=L) ⟨G,fun _ _ h=>h,H.move H.hp.drew,fun _ _ h=>absurd (show false=true from h) (by decide)⟩ (by
   have:∀ ms:List Nat,rF ms (fun _=>false) (fun _=>(.bool false,[]))=[]:=fun ms=>by
    induction ms with
    | nil=>rfl
    | cons k ms ih=>unfold rF at ih ⊢;rw [List.flatMap_cons,ih];rfl
   rw [this];exact List.Perm.refl _)⟩ ?_ ?_
 ·rintro i o S a w ho hb cB nS hdesc ⟨x,G1,hG,HS,hv⟩
  have hsub:∀ q,q∈L→q∈rF ms S x++L:=fun q hq=>List.mem_append_right _ hq
  have hno:∀ j,j < l.length→S j=true→(cZ.getD j []).contains i=false:=fun j hjl hj=>by
   cases hc:(cZ.getD j []).contains i with
   | false=>rfl
   | true =>
    have:=hdesc j hjl (by simpa using hc)
    rw [this] at hj;cases hj
  cases hi:ms.contains i with
  | true =>
   have h:=I7 hmid i o ho
   rw [lD] at h
   have h:=h hi x _ S a w G1 hsub cB nS hG HS fun y j d hj hSj hd=>by
    obtain ⟨v,hv1,hv2⟩:=hv j d hSj hd
    exact ⟨v,hv1,hp i hi x y j v _ (xK hj) (hno j (za hd) hSj) hv2⟩
   refine sZ (fun e a' w' ⟨he,y,hD⟩=>⟨he,zW x i y,hD.perm ?_⟩) h
   rw [← nN]
   exact List.Perm.append_right L (Yg cB hnd (by simpa using hi))
  | false =>
   have h:=I7 hstep i o ho
   rw [lD] at h
   have e:∀ ms:List Nat,i∉ms→rF ms (eO S i) x=rF ms S x:=fun ms hn=>by
    induction ms with
    | nil=>rfl
    | cons k ms ih =>
     have ih:=ih fun h=>hn (nE _ h)
     unfold rF at ih ⊢
     rw [List.flatMap_cons,List.flatMap_cons,ih,show eO S i k=S k from ah fun e=>hn (by simp [e])]
   refine sZ (fun e' a' w' ⟨he,hD⟩=>⟨he,x,?_⟩) (h x _ S a w G1 hsub hb hi cB nS hG HS hv)
   rw [e ms (by simpa using hi)]
   exact hD
 ·rintro S a w hall Zf ⟨x,G1,hG,HS,hv⟩
  have hS:∀ m∈ms,S m=true:=fun m hmm=>by
   have h:=oU.1 hms m hmm
   rw [oF] at h
   exact hall m (Eq.mp Nat.blt_eq h.1) (by simpa using h.2)
  have e:∀ ms:List Nat,(∀ m∈ms,S m=true)→rF ms S x=rF ms (fun _=>true) x:=fun ms h=>by
   induction ms with
   | nil=>rfl
   | cons k ms ih =>
    have ih:=ih fun m hm=>h m (nE _ hm)
    unfold rF at ih ⊢
    rw [List.flatMap_cons,List.flatMap_cons,ih,h k lW]
  replace e:=e ms hS
  rw [e] at HS
  exact hend x a w G1 hG HS fun j d hb hd=>hv j d (hall j (za hd) hb) hd
end
end
section
open Go.RowKit
theorem agB:∀ args w,(callFunc 94 args).run prog w=.ok (.enter 94 args) w:=enters func94 rfl (by kernel_rfl)
theorem agC:∀ args w,(callFunc 95 args).run prog w=.ok (.enter 95 args) w:=enters func95 rfl (by kernel_rfl)
theorem agD:∀ args w,(callFunc 96 args).run prog w=.ok (.enter 96 args) w:=enters func96 rfl (by kernel_rfl)
theorem agE:∀ args w,(callFunc 97 args).run prog w=.ok (.enter 97 args) w:=enters func97 rfl (by kernel_rfl)
theorem anm:uj prog 36 [(0,1),(1,1),(2,1),(3,1)] [.slice none 0 0,.slice none 0 0,.slice none 0 0,.slice none 0 0]:=⟨by kernel_rfl,by kernel_rfl⟩
theorem agF:∀ args w,(callFunc 98 args).run prog w=.ok (.enter 98 args) w:=enters func98 rfl (by kernel_rfl)
theorem bH.setAt {G:GH}:∀ {r:List Dat} {cs:List ak} {k:Nat} {d:Dat} {v:ak},bH G r cs→r[k]?=some d→au G d v→bH G r (cs.set k v)
 | [],_,_,_,_,_,h,_=>by simp at h
 | e :: r,cs,k,d,v,h,hk,hv=>by
  simp only [bH] at h ⊢
  obtain ⟨x,vs,rfl,h1,h2⟩:=h
  cases k with
  | zero =>
   simp only [Cn,nM] at hk
   subst hk;exact ⟨v,vs,rfl,hv,h2⟩
  | succ k=>exact ⟨x,vs.set k v,rfl,h1,bH.setAt h2 (by simpa using hk) hv⟩
theorem dG.setAt {G:GH} {sz:Nat}:∀ {rows:List (List Dat)} {xs:List ak} {i k:Nat} {r:List Dat} {d:Dat} {v:ak},dG G sz rows xs→rows[i]?=some r→r[k]?=some d→k < sz→au G d v→dG G sz rows (xs.set (i*sz+k) v)
 | [],_,_,_,_,_,_,_,h,_,_,_=>by simp at h
 | q :: rows,xs,i,k,r,d,v,h,hr,hk,hs,hv=>by
  obtain ⟨css,rfl,h2,h3⟩:=h
  cases css with
  | nil=>simp at h2
  | cons c css =>
   obtain ⟨h4,h5⟩:=h3 0 q c rfl rfl;have h6:dG G sz rows css.flatten:=⟨css,rfl,by simpa using h2,fun j r' cs hr' hc=>h3 (j+1) r' cs (by simpa using hr') (by simpa using hc)⟩
   have h7:∀ {c' x':List ak},bH G q c'→c'.length=sz→dG G sz rows x'→dG G sz (q :: rows) (c'++x'):=fun a b e=>by
    have h8:=((dG.nil (G:=G) (sz:=sz)).snoc a b).append e
    simpa using h8
   rw [List.flatten_cons]
   cases i with
   | zero =>
    simp only [Cn,nM] at hr
    subst hr;rw [Nat.zero_mul,lD,List.set_append_left _ _ (by omega)];exact h7 (h4.setAt hk hv) (by rw [List.length_set];exact h5) h6
   | succ i =>
    rw [List.set_append_right _ _ (by rw [h5,Nat.succ_mul];omega),h5,show (i+1)*sz+k - sz=i*sz+k by rw [Nat.succ_mul];omega];exact h7 h4 h5 (dG.setAt h6 (by simpa using hr) hk hs hv)
theorem anr {G:GH} {l:List bL} {xs:List ak} {k:Nat} (h:dG G 6 (l.map bL.dat) xs) (hk:k < l.length):∃ A c,xs[k*6+5]?=some (.slice A l[k].props.length c)∧au G (.sl 2 (l[k].props.map gV.dat)) (.slice A l[k].props.length c):=by
 obtain ⟨cs,hcl,hcx,hcr⟩:=h.at (k:=k) (r:=l[k].dat) (by simp [hk]);obtain ⟨A,c,rfl,hp⟩:=MV hcr;exact ⟨A,c,hcx 5 _ rfl,hp⟩
theorem akM {G:GH} {l:List dH} {xs:List ak} {k:Nat} (h:dG G 2 (l.map dH.dat) xs) (hk:k < l.length):∃ A n c,xs[k*2+1]?=some (.slice A n c)∧au G (.sl 4 (l[k].levels.map iY.dat)) (.slice A n c):=by
 obtain ⟨cs,hcl,hcx,hcr⟩:=h.at (k:=k) (r:=l[k].dat) (by simp [hk]);obtain ⟨v1,vs,rfl,-,v2,vs2,rfl,h2,-⟩:=hcr;obtain ⟨A,n,c,rfl⟩:=au.form h2;exact ⟨A,n,c,hcx 1 _ rfl,h2⟩
set_option maxHeartbeats 2000000 in
theorem adS (G:GH) (w0:World) (hG:Hold G w0) (s:rD) (a1 KH c1 d1:ak) (hR:tq G s a1 KH c1 d1) (z1:s.styles.length≤4294967296) (z2:s.lists.length≤4294967296) (z3:s.comments.length≤4294967296) (z4:s.vars.length≤4294967296) (z5:∀ x∈s.styles,x.props.length≤4294967296) (z6:∀ x∈s.lists,x.levels.length≤4294967296) :
  Calls prog 34 #[.agg #[a1,KH,c1,d1]] w0 (bJ w0 G fun u G'=>∃ a' b' c' d',u=.agg #[a',b',c',d']∧tq G' s a' b' c' d'):=by
 have hml:maxLen=9223372036854775807:=rfl;obtain ⟨aA,an,ac,rfl⟩:=hR.st.form;obtain ⟨bA,bn,bc,rfl⟩:=hR.li.form;obtain ⟨cA,cn,cc,rfl⟩:=hR.cm.form;obtain ⟨dA,dn,dc,rfl⟩:=hR.va.form;obtain ⟨hs1,hs2,hs3,hs4⟩:=hR;refine eN [(0,_)] func34 rfl ntmps34 rfl rfl hG ?_;intro a H;refine dw (fun _ K1=>?_);refine eD (cs:=[_,_,_,_]) H wn rfl rfl rfl ?_;clear H;intro b1 a w hb1 H;refine dU tZ H wn rfl ?_;clear H;intro b2 a w hb2 H;refine K1 _ _ ?_;clear K1;refine aS (fun _ K2=>?_);have H:=H.dS (Pl:=[_,_]) (dL:=[_,_]) [1,0] (by decide) rfl;obtain ⟨Ga,hma,hb1',H⟩:=H.eG;have hga:=fun j v hj=>oq hb1' 0 [.slice aA an ac,.slice bA bn bc,.slice cA cn cc,.slice dA dn dc] rfl j v hj;replace hs1:=hs1.mono hma;replace hs2:=hs2.mono hma;replace hs3:=hs3.mono hma;replace hs4:=hs4.mono hma
 have fB:∀ (bD:Nat→ak × OL) (cu:Nat) (v:ak) (G G':GH),(∀ k o,G k=some o→G' k=some o)→(fun (bD:Nat→ak × OL) (cu:Nat) (v:ak) (G:GH)=>match cu with|0=>v=(aM b1 0)|1=>v=.slice aA an ac|2=>v=(bD 2).1∧∃ xs,dO 159 6 v s.styles.length xs (bD 2).2∧dG G 6 (s.styles.map bL.dat) xs|3=>v=(aM b1 1)|4=>v=.slice bA bn bc|5=>v=(bD 5).1∧∃ xs,dO 84 2 v s.lists.length xs (bD 5).2∧dG G 2 (s.lists.map dH.dat) xs|6=>v=(aM b1 2)|7=>v=.slice cA cn cc|8=>au G (.sl 6 (s.comments.map fq.dat)) v|9=>v=(aM b1 3)|10=>v=.slice dA dn dc|11=>au G (.sl 2 (s.vars.map iE.dat)) v|12=>∃ c' d',v=.agg #[(bD 2).1,(bD 5).1,c',d']∧au G (.sl 6 (s.comments.map fq.dat)) c'∧au G (.sl 2 (s.vars.map iE.dat)) d'|13=>∃ b,v=(aM b 0)∧bD 13=((aM b 0),[(b,.cells #[.slice none 0 0,.slice none 0 0,.slice none 0 0,.slice none 0 0] 36 (0,0))])|_=>True) bD cu v G→(fun (bD:Nat→ak × OL) (cu:Nat) (v:ak) (G:GH)=>match cu with|0=>v=(aM b1 0)|1=>v=.slice aA an ac|2=>v=(bD 2).1∧∃ xs,dO 159 6 v s.styles.length xs (bD 2).2∧dG G 6 (s.styles.map bL.dat) xs|3=>v=(aM b1 1)|4=>v=.slice bA bn bc|5=>v=(bD 5).1∧∃ xs,dO 84 2 v s.lists.length xs (bD 5).2∧dG G 2 (s.lists.map dH.dat) xs|6=>v=(aM b1 2)|7=>v=.slice cA cn cc|8=>au G (.sl 6 (s.comments.map fq.dat)) v|9=>v=(aM b1 3)|10=>v=.slice dA dn dc|11=>au G (.sl 2 (s.vars.map iE.dat)) v|12=>∃ c' d',v=.agg #[(bD 2).1,(bD 5).1,c',d']∧au G (.sl 6 (s.comments.map fq.dat)) c'∧au G (.sl 2 (s.vars.map iE.dat)) d'|13=>∃ b,v=(aM b 0)∧bD 13=((aM b 0),[(b,.cells #[.slice none 0 0,.slice none 0 0,.slice none 0 0,.slice none 0 0] 36 (0,0))])|_=>True) bD cu v G':=by
  intro bD cu v G G' hm h
  match cu,h with
  | 0,h=>exact h
  | 1,h=>exact h
  | 2,h=>exact let ⟨h1,xs,h2,h3⟩:=h;⟨h1,xs,h2,h3.mono hm⟩
  | 3,h=>exact h
  | 4,h=>exact h
  | 5,h=>exact let ⟨h1,xs,h2,h3⟩:=h;⟨h1,xs,h2,h3.mono hm⟩
  | 6,h=>exact h
  | 7,h=>exact h
  | 8,h=>exact au.mono hm h
  | 9,h=>exact h
  | 10,h=>exact h
  | 11,h=>exact au.mono hm h
  | 12,h=>exact let ⟨c',d',h1,h2,h3⟩:=h;⟨c',d',h1,h2.mono hm,h3.mono hm⟩
  | 13,h=>exact h
  | 14,h=>exact trivial
  | _+15,h=>exact trivial
 refine WU [2,5,13] (hmx) [[],[0],[0,1],[],[3],(ra 0 5),[],[6],(ra 0 8),[],[9],(ra 0 11),(ra 0 12),[],(ra 0 14)] [14] (by kernel_rfl) (by kernel_rfl) (by decide) (by kernel_rfl) (fun (bD:Nat→ak × OL) (cu:Nat) (v:ak) (G:GH)=>match cu with|0=>v=(aM b1 0)|1=>v=.slice aA an ac|2=>v=(bD 2).1∧∃ xs,dO 159 6 v s.styles.length xs (bD 2).2∧dG G 6 (s.styles.map bL.dat) xs|3=>v=(aM b1 1)|4=>v=.slice bA bn bc|5=>v=(bD 5).1∧∃ xs,dO 84 2 v s.lists.length xs (bD 5).2∧dG G 2 (s.lists.map dH.dat) xs|6=>v=(aM b1 2)|7=>v=.slice cA cn cc|8=>au G (.sl 6 (s.comments.map fq.dat)) v|9=>v=(aM b1 3)|10=>v=.slice dA dn dc|11=>au G (.sl 2 (s.vars.map iE.dat)) v|12=>∃ c' d',v=.agg #[(bD 2).1,(bD 5).1,c',d']∧au G (.sl 6 (s.comments.map fq.dat)) c'∧au G (.sl 2 (s.vars.map iE.dat)) d'|13=>∃ b,v=(aM b 0)∧bD 13=((aM b 0),[(b,.cells #[.slice none 0 0,.slice none 0 0,.slice none 0 0,.slice none 0 0] 36 (0,0))])|_=>True) (fun m hm x y i v G hi hc h=>by
  have hm:m=2∨m=5∨m=13:=by simpa using hm
  rcases hm with rfl|rfl|rfl
  ·match i,hi,hc,h with
   | 0,_,_,h=>exact h
   | 1,_,_,h=>exact h
   | 2,hi,_,_=>exact absurd hi (by decide)
   | 3,_,_,h=>exact h
   | 4,_,_,h=>exact h
   | 5,_,hc,_=>exact absurd hc (by decide)
   | 6,_,_,h=>exact h
   | 7,_,_,h=>exact h
   | 8,_,hc,_=>exact absurd hc (by decide)
   | 9,_,_,h=>exact h
   | 10,_,_,h=>exact h
   | 11,_,hc,_=>exact absurd hc (by decide)
   | 12,_,hc,_=>exact absurd hc (by decide)
   | 13,_,_,h=>exact h
   | 14,_,hc,_=>exact absurd hc (by decide)
   | _+15,_,_,_=>exact trivial
  ·match i,hi,hc,h with
   | 0,_,_,h=>exact h
   | 1,_,_,h=>exact h
   | 2,_,_,h=>exact h
   | 3,_,_,h=>exact h
   | 4,_,_,h=>exact h
   | 5,hi,_,_=>exact absurd hi (by decide)
   | 6,_,_,h=>exact h
   | 7,_,_,h=>exact h
   | 8,_,hc,_=>exact absurd hc (by decide)
   | 9,_,_,h=>exact h
   | 10,_,_,h=>exact h
   | 11,_,hc,_=>exact absurd hc (by decide)
   | 12,_,hc,_=>exact absurd hc (by decide)
   | 13,_,_,h=>exact h
   | 14,_,hc,_=>exact absurd hc (by decide)
   | _+15,_,_,_=>exact trivial
  ·match i,hi,hc,h with
   | 0,_,_,h=>exact h
   | 1,_,_,h=>exact h
   | 2,_,_,h=>exact h
   | 3,_,_,h=>exact h
   | 4,_,_,h=>exact h
   | 5,_,_,h=>exact h
   | 6,_,_,h=>exact h
   | 7,_,_,h=>exact h
   | 8,_,_,h=>exact h
   | 9,_,_,h=>exact h
   | 10,_,_,h=>exact h
   | 11,_,_,h=>exact h
   | 12,_,_,h=>exact h
   | 13,hi,_,_=>exact absurd hi (by decide)
   | 14,_,hc,_=>exact absurd hc (by decide)
   | _+15,_,_,_=>exact trivial
  ) H ?_ ?_ ?_
 ·clear H;refine aG ?_ ?_ ?_ ?_ (aG ?_ ?_ ?_ ?_ (aG ?_ ?_ ?_ ?_ (bq ?_ (bq ?_ (bq ?_ dD)))))
  ·intro bD jv dz a w G1 jO _ _ cB hc hG HT hv;have H:=HT;clear cB;have Hb:=H.full;have H:=Hb;clear hc;refine kH H (Rf vI rfl ?_);clear H;intro a H;refine aH ⟨rfl,?_⟩;exact kC (by kernel_rfl) (fB bD) rfl rfl HT Hb hG hv (fun _ _ h=>h) (rfl) H
  ·intro bD jv dz a w G1 jO _ _ cB hc hG HT hv;have H:=HT;clear cB;have H:=H.aZ (hv 0 6 (hc 0 (by decide)) rfl) rfl;have Hb:=H.full;have H:=Hb;clear hc;refine kH H (Rg nu rfl (ay hG (hga 0 _ rfl)) ?_);clear H;intro a H;refine aH ⟨rfl,?_⟩;exact kC (by kernel_rfl) (fB bD) rfl rfl HT Hb hG hv (fun _ _ h=>h) (rfl) H
  ·intro _ _ _ _ _ _ _ _ hB;exact absurd hB (by decide)
  ·intro bD jv dz a w G1 jO _ _ cB hc hG HT hv;have H:=HT;clear cB;have Hb:=H.full;have H:=Hb;clear hc;refine kH H (Rf lX rfl ?_);clear H;intro a H;refine aH ⟨rfl,?_⟩;exact kC (by kernel_rfl) (fB bD) rfl rfl HT Hb hG hv (fun _ _ h=>h) (rfl) H
  ·intro bD jv dz a w G1 jO _ _ cB hc hG HT hv;have H:=HT;clear cB;have H:=H.aZ (hv 3 9 (hc 3 (by decide)) rfl) rfl;have Hb:=H.full;have H:=Hb;clear hc;refine kH H (Rg kR rfl (ay hG (hga 1 _ rfl)) ?_);clear H;intro a H;refine aH ⟨rfl,?_⟩;exact kC (by kernel_rfl) (fB bD) rfl rfl HT Hb hG hv (fun _ _ h=>h) (rfl) H
  ·intro _ _ _ _ _ _ _ _ hB;exact absurd hB (by decide)
  ·intro bD jv dz a w G1 jO _ _ cB hc hG HT hv;have H:=HT;clear cB;have Hb:=H.full;have H:=Hb;clear hc;refine kH H (Rf wJ rfl ?_);clear H;intro a H;refine aH ⟨rfl,?_⟩;exact kC (by kernel_rfl) (fB bD) rfl rfl HT Hb hG hv (fun _ _ h=>h) (rfl) H
  ·intro bD jv dz a w G1 jO _ _ cB hc hG HT hv;have H:=HT;clear cB;have H:=H.aZ (hv 6 12 (hc 6 (by decide)) rfl) rfl;have Hb:=H.full;have H:=Hb;clear hc;refine kH H (Rg rV rfl (ay hG (hga 2 _ rfl)) ?_);clear H;intro a H;refine aH ⟨rfl,?_⟩;exact kC (by kernel_rfl) (fB bD) rfl rfl HT Hb hG hv (fun _ _ h=>h) (rfl) H
  ·intro bD jv dz a w G1 jO _ _ cB hc hG HT hv;have H:=HT;clear cB;have H:=H.aZ (hv 7 13 (hc 7 (by decide)) rfl) rfl;have Hb:=H.full;have H:=Hb;clear hc;refine s_call agD H wn rfl (adF _ _ H.ro _ _ _ _ (hs3.mono hG) (by simpa using z3)) rfl ?_;clear H;rintro v14 IU a w vT DY H;refine aH ⟨rfl,?_⟩;exact kC (by kernel_rfl) (fB bD) rfl rfl HT Hb hG hv DY (vT) H
  ·intro bD jv dz a w G1 jO _ _ cB hc hG HT hv;have H:=HT;clear cB;have Hb:=H.full;have H:=Hb;clear hc;refine kH H (Rf wK rfl ?_);clear H;intro a H;refine aH ⟨rfl,?_⟩;exact kC (by kernel_rfl) (fB bD) rfl rfl HT Hb hG hv (fun _ _ h=>h) (rfl) H
  ·intro bD jv dz a w G1 jO _ _ cB hc hG HT hv;have H:=HT;clear cB;have H:=H.aZ (hv 9 15 (hc 9 (by decide)) rfl) rfl;have Hb:=H.full;have H:=Hb;clear hc;refine kH H (Rg oO rfl (ay hG (hga 3 _ rfl)) ?_);clear H;intro a H;refine aH ⟨rfl,?_⟩;exact kC (by kernel_rfl) (fB bD) rfl rfl HT Hb hG hv (fun _ _ h=>h) (rfl) H
  ·intro bD jv dz a w G1 jO _ _ cB hc hG HT hv;have H:=HT;clear cB;have H:=H.aZ (hv 10 16 (hc 10 (by decide)) rfl) rfl;have Hb:=H.full;have H:=Hb;clear hc;refine s_call agE H wn rfl (adH _ _ H.ro _ _ _ _ (hs4.mono hG) (by simpa using z4)) rfl ?_;clear H;rintro v17 Cg a w Mf ahN H;refine aH ⟨rfl,?_⟩;exact kC (by kernel_rfl) (fB bD) rfl rfl HT Hb hG hv ahN (Mf) H
  ·intro bD jv dz a w G1 jO _ _ cB hc hG HT hv;have H:=HT;clear cB;obtain ⟨u8,Ef,qz⟩:=hv 2 8 (hc 2 (by decide)) rfl;(try dsimp only at qz);obtain ⟨h8,Ql,Ee,Ov⟩:=qz;obtain ⟨sA,sc,rfl,-,-⟩:=Ee.shape;have H:=H.nA Ef;obtain ⟨Vs,Ia,yu⟩:=hv 5 11 (hc 5 (by decide)) rfl;(try dsimp only at yu);obtain ⟨h11,Kg,Au,Jz⟩:=yu;obtain ⟨lA,lc,rfl,-,-⟩:=Au.shape;have H:=H.nA Ia;obtain ⟨u14,Mk,vT⟩:=hv 8 14 (hc 8 (by decide)) rfl;(try dsimp only at vT);obtain ⟨VG,n14,c14,rfl⟩:=vT.form;have H:=H.nA Mk;obtain ⟨u17,ajV,Mf⟩:=hv 11 17 (hc 11 (by decide)) rfl;(try dsimp only at Mf);obtain ⟨A17,n17,c17,rfl⟩:=Mf.form;have H:=H.nA ajV;have Hb:=H.full;have H:=Hb;clear hc;refine nk anm [_,_,_,_] H wn rfl rfl rfl rfl ?_;clear H;intro a H;refine aH ⟨rfl,?_⟩;exact kC (by kernel_rfl) (fB bD) rfl rfl HT Hb hG hv (fun _ _ h=>h) (⟨_,_,by rw [← h8,← h11],vT,Mf⟩) H
  ·intro _ _ _ _ _ _ _ _ hB;exact absurd hB (by decide)
  intro _ _ _ _ _ _ _ hB;exact absurd hB (by decide)
 ·clear H;refine aG ?_ ?_ ?_ ?_ (aG ?_ ?_ ?_ ?_ (aG ?_ ?_ ?_ ?_ (bq ?_ (bq ?_ (bq ?_ dD)))))
  ·intro hB;exact absurd hB (by decide)
  ·intro hB;exact absurd hB (by decide)
  ·intro _ bD jv dz a w G1 jO _ hc hG HT hv;have H:=HT;have H:=H.aZ (hv (.bool false,[]) 1 7 (by decide) (hc 1 (by decide)) rfl) rfl;have Hb:=H.full;have H:=Hb;clear hc;refine gB agB (Li:=jv) (L:=[]) (H.cast (Ah _).symm) wn rfl (adO _ _ (Az H.ro) _ _ _ _ (hs1.mono hG) (by simpa using z1)) rfl ?_;clear H;rintro v8 G8 L8 a w ⟨Ql,Ee,Ov⟩ rG H;rw [bV] at Ee;have H:=H.perm vv;refine aH ⟨rfl,(v8,L8),?_⟩;exact Ji (by kernel_rfl) (fB (zW bD 2 (v8,L8))) rfl HT Hb hG (fun j e h1 h2 h3=>hv (v8,L8) j e h1 h2 h3) rG (⟨rfl,Ql,Ee,Ov⟩) H
  ·intro hB;exact absurd hB (by decide)
  ·intro hB;exact absurd hB (by decide)
  ·intro _ bD jv dz a w G1 jO _ hc hG HT hv;have H:=HT;have H:=H.aZ (hv (.bool false,[]) 4 10 (by decide) (hc 4 (by decide)) rfl) rfl;have Hb:=H.full;have H:=Hb;clear hc;refine gB agC (Li:=jv) (L:=[]) (H.cast (Ah _).symm) wn rfl (adM _ _ (Az H.ro) _ _ _ _ (hs2.mono hG) (by simpa using z2)) rfl ?_;clear H;rintro v11 wh Gj a w ⟨Kg,Au,Jz⟩ qQ H;rw [bV] at Au;have H:=H.perm vv;refine aH ⟨rfl,(v11,Gj),?_⟩;exact Ji (by kernel_rfl) (fB (zW bD 5 (v11,Gj))) rfl HT Hb hG (fun j e h1 h2 h3=>hv (v11,Gj) j e h1 h2 h3) qQ (⟨rfl,Kg,Au,Jz⟩) H
  ·intro hB;exact absurd hB (by decide)
  ·intro hB;exact absurd hB (by decide)
  ·intro hB;exact absurd hB (by decide)
  ·intro hB;exact absurd hB (by decide)
  ·intro hB;exact absurd hB (by decide)
  ·intro hB;exact absurd hB (by decide)
  ·intro hB;exact absurd hB (by decide)
  ·intro _ bD jv dz a w G1 jO _ hc hG HT hv;have H:=HT;have Hb:=H.full;have H:=Hb;clear hc;refine dU tZ H wn rfl ?_;clear H;intro b3 a w hb3 H;refine aH ⟨rfl,((aM b3 0),[(b3,.cells #[.slice none 0 0,.slice none 0 0,.slice none 0 0,.slice none 0 0] 36 (0,0))]),?_⟩;exact Ji (by kernel_rfl) (fB (zW bD 13 ((aM b3 0),[(b3,.cells #[.slice none 0 0,.slice none 0 0,.slice none 0 0,.slice none 0 0] 36 (0,0))]))) rfl HT Hb hG (fun j e h1 h2 h3=>hv ((aM b3 0),[(b3,.cells #[.slice none 0 0,.slice none 0 0,.slice none 0 0,.slice none 0 0] 36 (0,0))]) j e h1 h2 h3) (fun _ _ h=>h) (⟨b3,rfl,rfl⟩) H
  intro hB;exact absurd hB (by decide)
 clear H;intro bD a w G jY H hv
 simp only [rF,List.flatMap_cons,List.flatMap_nil,cond_true,Ah,nN] at H
 obtain ⟨u3,hu3,hp3⟩:=hv 13 3 (by decide) rfl;(try dsimp only at hp3);obtain ⟨b3,rfl,e13⟩:=hp3;have H:=H.nA hu3;obtain ⟨u8,Ef,qz⟩:=hv 2 8 (by decide) rfl;(try dsimp only at qz);obtain ⟨h8,Ql,Ee,Ov⟩:=qz;obtain ⟨sA,sc,rfl,-,-⟩:=Ee.shape;have H:=H.nA Ef;obtain ⟨Vs,Ia,yu⟩:=hv 5 11 (by decide) rfl;(try dsimp only at yu);obtain ⟨h11,Kg,Au,Jz⟩:=yu;obtain ⟨lA,lc,rfl,-,-⟩:=Au.shape;have H:=H.nA Ia;obtain ⟨u18,Ub,Mg⟩:=hv 12 18 (by decide) rfl;(try dsimp only at Mg);obtain ⟨apU,apV,rfl,hc18,YU⟩:=Mg;obtain ⟨eA,en,ec,rfl⟩:=hc18.form;obtain ⟨fA,fn,fc,rfl⟩:=YU.form;have H:=H.nA Ub;clear hv;obtain ⟨⟨vS,LS⟩,eS⟩:∃ y,y=bD 2:=⟨_,rfl⟩;obtain ⟨⟨vL,LL⟩,eL⟩:∃ y,y=bD 5:=⟨_,rfl⟩;rw [← eS,← eL,e13] at H;rw [← eS] at Ee h8;rw [← eL] at Au h11;dsimp only at H Ee Au h8 h11;subst h8;subst h11;rw [← nN] at H;have H:=H.perm (vv (l₁:=LS++LL) (l₂:=[_,_]));dsimp only [lca,aV] at H;refine bN tZ 0 (vs:=[_,_,_,_]) _ H wn rfl rfl rfl rfl rfl rfl rfl rfl ?_;clear H;intro w H;dsimp only [List.set,setRow] at H;refine aH ⟨rfl,?_⟩;refine K2 _ _ ?_;clear K2;refine kP H (SQ fun _ K3=>SR fun _ K4=>bg vI nu 0 rfl rfl (Rl ko rfl (Rm rfl (Kz K4 (SB ?_)))));clear H K4;intro a H;skip;refine eH (ι:=Nat × List ak × OL × GH) (Tc:=[(2,_),(3,_),(21,_)]) (Lc:=[(_,_),(_,_)]) (fun gh=>[(22,vi gh.1)]) (fun gh=>[]++(gh.2.2.1++LL)) (fun gh=>gh.2.2.2) (fun gh=>gh.1≤s.styles.length∧dO 159 6 (.slice sA s.styles.length sc) s.styles.length gh.2.1 gh.2.2.1∧dG gh.2.2.2 6 (s.styles.map bL.dat) gh.2.1∧(∀ b o,G b=some o→gh.2.2.2 b=some o)) (fun gh=>s.styles.length - gh.1) ((0,Ql,LS,G)) (by exact (H).sub ⟨rfl,rfl,rfl,rfl,aC⟩) ?_ ?_
 ·exact ⟨iF _,Ee,Ov,fun _ _ h=>h⟩
 clear H;intro gh a w hI H;obtain ⟨k,xs,Lo,g⟩:=gh;dsimp only at hI H;obtain ⟨hk,hrw,iK,hgm⟩:=hI;dsimp only [lca,aV] at H;refine kP H (SR fun _ K5=>Rc rfl (Kz K5 (SQ fun _ K6=>Cd rfl ?_ ?_))) <;> clear H K5
 ·intro h23 a H
  try have AA:=dT h23
  have hk2:k < s.styles.length:=by omega
  obtain ⟨bs,rfl⟩:=hrw.ptr (by omega);obtain ⟨pA,pc,hpx,hpr⟩:=anr iK hk2;obtain ⟨cur,-,rfl,hcur,hset⟩:=hrw.set1;have hpz:=z5 _ (jW hk2);refine kP H (Kc K6 (SQ fun _ K7=>SB (SR fun _ K8=>Rm rfl (aj K8 rfl ?_))));clear H K6 K8;intro a H
  have BI:∀ (cu:Nat) (v:ak) (G G':GH),(∀ k o,G k=some o→G' k=some o)→(fun (cu:Nat) (v:ak) (G:GH)=>match cu with|0=>v=(aM b3 0)|1=>v=.slice (some ⟨bs,0,none⟩) s.styles.length sc|2=>v=vi k|3=>v=(aM b3 0)|4=>v=.slice (some ⟨bs,0,none⟩) s.styles.length sc|5=>v=vi k|6=>v=(aM bs (0+k*6))|7=>v=(aM bs (0+k*6+5))|8=>v=.slice pA s.styles[k].props.length pc|9=>au G (.sl 2 (s.styles[k].props.map gV.dat)) v|_=>True) cu v G→(fun (cu:Nat) (v:ak) (G:GH)=>match cu with|0=>v=(aM b3 0)|1=>v=.slice (some ⟨bs,0,none⟩) s.styles.length sc|2=>v=vi k|3=>v=(aM b3 0)|4=>v=.slice (some ⟨bs,0,none⟩) s.styles.length sc|5=>v=vi k|6=>v=(aM bs (0+k*6))|7=>v=(aM bs (0+k*6+5))|8=>v=.slice pA s.styles[k].props.length pc|9=>au G (.sl 2 (s.styles[k].props.map gV.dat)) v|_=>True) cu v G':=by
   intro cu v G G' hm h
   match cu,h with
   | 0,h=>exact h
   | 1,h=>exact h
   | 2,h=>exact h
   | 3,h=>exact h
   | 4,h=>exact h
   | 5,h=>exact h
   | 6,h=>exact h
   | 7,h=>exact h
   | 8,h=>exact h
   | 9,h=>exact au.mono hm h
   | 10,h=>exact trivial
   | 11,h=>exact trivial
   | 12,h=>exact trivial
   | _+13,h=>exact trivial
  refine ER (hmx) [[],[0],[],[],[3],[],[3,4,5],(ra 3 4),(ra 3 5),(ra 3 6),(ra 0 10),(ra 0 11),(ra 0 12)] [10,11,12] (by kernel_rfl) (by kernel_rfl) (fun (cu:Nat) (v:ak) (G:GH)=>match cu with|0=>v=(aM b3 0)|1=>v=.slice (some ⟨bs,0,none⟩) s.styles.length sc|2=>v=vi k|3=>v=(aM b3 0)|4=>v=.slice (some ⟨bs,0,none⟩) s.styles.length sc|5=>v=vi k|6=>v=(aM bs (0+k*6))|7=>v=(aM bs (0+k*6+5))|8=>v=.slice pA s.styles[k].props.length pc|9=>au G (.sl 2 (s.styles[k].props.map gV.dat)) v|_=>True) BI H ?_ ?_
  ·clear H;refine aG ?_ ?_ ?_ ?_ (aG ?_ ?_ ?_ ?_ (aG ?_ ?_ (bY rfl) (bY rfl) (bq (bY rfl) dD)))
   ·refine fO [] rfl trivial (by kernel_rfl) BI rfl rfl ?_;intro dz a w G1 hG HT H fin;exact kH H (Rf vI rfl fun _ H=>fin H iJ rfl)
   ·refine fO [(0,25,_)] rfl ⟨fun _ _ h=>h,aC⟩ (by kernel_rfl) BI rfl rfl ?_;intro dz a w G1 hG HT H fin;exact kH H (Ro nu 0 rfl fun _ H=>fin H iJ rfl)
   ·refine fO [] rfl trivial (by kernel_rfl) BI rfl rfl ?_;intro dz a w G1 hG HT H fin;exact kH H (Rm rfl fun _ H=>fin H iJ rfl)
   ·refine fO [] rfl trivial (by kernel_rfl) BI rfl rfl ?_;intro dz a w G1 hG HT H fin;exact kH H (Rf vI rfl fun _ H=>fin H iJ rfl)
   ·refine fO [(3,28,_)] rfl ⟨fun _ _ h=>h,aC⟩ (by kernel_rfl) BI rfl rfl ?_;intro dz a w G1 hG HT H fin;exact kH H (Ro nu 0 rfl fun _ H=>fin H iJ rfl)
   ·refine fO [] rfl trivial (by kernel_rfl) BI rfl rfl ?_;intro dz a w G1 hG HT H fin;exact kH H (Rm rfl fun _ H=>fin H iJ rfl)
   ·refine fO [(4,29,_),(5,30,_)] rfl ⟨fun _ _ h=>h,fun _ _ h=>h,aC⟩ (by kernel_rfl) BI rfl rfl ?_;intro dz a w G1 hG HT H fin;exact kH H (Ri ko iR rfl rfl fun _ H=>fin H iJ rfl)
   ·refine fO [(6,31,_)] rfl ⟨fun _ _ h=>h,aC⟩ (by kernel_rfl) BI rfl rfl ?_;intro dz a w G1 hG HT H fin;exact kH H (Rf GV rfl fun _ H=>fin H iJ rfl)
   ·refine fO [(7,32,_)] rfl ⟨fun _ _ h=>h,aC⟩ (by kernel_rfl) BI rfl rfl ?_;intro dz a w G1 hG HT H fin;refine zT qY H wn rfl (hrw.at H.hp (fun x hx=>nE _ (nE _ (List.mem_append_left _ hx))) (by rw [lD];exact hpx)) rfl ?_;clear H;intro a H;exact fin H iJ rfl
   refine fO [(8,33,_)] rfl ⟨fun _ _ h=>h,aC⟩ (by kernel_rfl) BI rfl rfl ?_;intro dz a w G1 hG HT H fin;refine s_call XO H wn rfl (Xc _ _ H.ro _ _ _ _ (hpr.mono hG) (by simpa using hpz)) rfl ?_;clear H;rintro v34 Kl a w Mh ahT H;exact fin H ahT (Mh)
  clear H;intro a w G zy H hv;have H:=H.aZ (hv 1 26 rfl rfl) rfl;have H:=H.aZ (hv 2 27 rfl rfl) rfl;obtain ⟨u34,ajW,Mh⟩:=hv 9 34 (by decide) rfl;(try dsimp only at Mh);obtain ⟨FU,n34,c34,rfl⟩:=Mh.form;have H:=H.nA ajW;clear hv;refine kH H (Ri ko iR rfl rfl (Rf GV rfl ?_));clear H;intro a H;refine bN qY 2 (c:=cur) (vs:=[.slice FU n34 c34]) (cur.set (k*6+5) (.slice FU n34 c34)) H wn rfl rfl rfl rfl rfl rfl (by simp;omega) (by rw [lD];rfl) ?_;clear H;intro w H;dsimp only [List.set,List.cons_append,List.nil_append] at H;have hrwn:=hset (k*6+5) (.slice FU n34 c34);have aiR:=(iK.mono zy).setAt (i:=k) (k:=5) (r:=s.styles[k].dat) (v:=.slice FU n34 c34) (by simp [hk2]) rfl (by decide) Mh;refine aH ⟨rfl,?_⟩;refine K7 _ _ ?_;clear K7;refine kP H (SC (Rd rfl (Rm rfl ?_)));clear H;intro a H;refine aH ?_;refine dK ((k+1,xs.set (k*6+5) (.slice FU n34 c34),[(bs,.cells (cur.set (k*6+5) (.slice FU n34 c34)).toArray 159 (0,0))],_)) (by exact (H).sub ⟨rfl,rfl,rfl,rfl,aC⟩) ?_ ?_
  ·(try dsimp only);exact ⟨by omega,hrwn,aiR,fun b o h=>zy b o (hgm b o h)⟩
  first|omega|(dsimp only;omega)
 intro h23 a H
 try have AA:=dF h23
 obtain rfl:k=s.styles.length:=by omega
 refine dW ?_;refine K3 _ _ ?_;clear K3;refine kP H (SQ fun _ K9=>SR fun _ aT=>bg lX kR 0 rfl rfl (Rl jE rfl (Rm rfl (Kz aT (SB ?_)))));clear H aT;intro a H;skip;refine eH (ι:=Nat × List ak × OL × GH) (Tc:=[(2,_),(3,_),(40,_)]) (Lc:=[(_,_),(_,_)]) (fun gh=>[(41,vi gh.1)]) (fun gh=>[]++(Lo++gh.2.2.1)) (fun gh=>gh.2.2.2) (fun gh=>gh.1≤s.lists.length∧dO 84 2 (.slice lA s.lists.length lc) s.lists.length gh.2.1 gh.2.2.1∧dG gh.2.2.2 2 (s.lists.map dH.dat) gh.2.1∧(∀ b o,g b=some o→gh.2.2.2 b=some o)) (fun gh=>s.lists.length - gh.1) ((0,Kg,LL,g)) (by exact (H).sub ⟨rfl,rfl,rfl,rfl,aC⟩) ?_ ?_
 ·exact ⟨iF _,Au,Jz.mono hgm,fun _ _ h=>h⟩
 clear H;intro gh a w hI H;obtain ⟨k2,xs2,Lo2,g2⟩:=gh;dsimp only at hI H;obtain ⟨hk2,hrw2,Te,kG⟩:=hI;dsimp only [lca,aV] at H;refine kP H (SR fun _ bB=>Rc rfl (Kz bB (SQ fun _ bC=>Cd rfl ?_ ?_))) <;> clear H bB
 ·intro Br a H
  try have p42:=dT Br
  have hk3:k2 < s.lists.length:=by omega
  obtain ⟨bl,rfl⟩:=hrw2.ptr (by omega);obtain ⟨qA,qn,qc,hqx,hqr⟩:=akM Te hk3;obtain ⟨Jg,-,rfl,ajb,TV⟩:=hrw2.set1;have hqz:=z6 _ (jW hk3);refine kP H (Kc bC (SQ fun _ bK=>SB (SR fun _ bP=>Rm rfl (aj bP rfl ?_))));clear H bC bP;intro a H
  have BH:∀ (cu:Nat) (v:ak) (G G':GH),(∀ k o,G k=some o→G' k=some o)→(fun (cu:Nat) (v:ak) (G:GH)=>match cu with|0=>v=(aM b3 1)|1=>v=.slice (some ⟨bl,0,none⟩) s.lists.length lc|2=>v=vi k2|3=>v=(aM b3 1)|4=>v=.slice (some ⟨bl,0,none⟩) s.lists.length lc|5=>v=vi k2|6=>v=(aM bl (0+k2*2))|7=>v=(aM bl (0+k2*2+1))|8=>v=.slice qA qn qc|9=>au G (.sl 4 (s.lists[k2].levels.map iY.dat)) v|_=>True) cu v G→(fun (cu:Nat) (v:ak) (G:GH)=>match cu with|0=>v=(aM b3 1)|1=>v=.slice (some ⟨bl,0,none⟩) s.lists.length lc|2=>v=vi k2|3=>v=(aM b3 1)|4=>v=.slice (some ⟨bl,0,none⟩) s.lists.length lc|5=>v=vi k2|6=>v=(aM bl (0+k2*2))|7=>v=(aM bl (0+k2*2+1))|8=>v=.slice qA qn qc|9=>au G (.sl 4 (s.lists[k2].levels.map iY.dat)) v|_=>True) cu v G':=by
   intro cu v G G' hm h
   match cu,h with
   | 0,h=>exact h
   | 1,h=>exact h
   | 2,h=>exact h
   | 3,h=>exact h
   | 4,h=>exact h
   | 5,h=>exact h
   | 6,h=>exact h
   | 7,h=>exact h
   | 8,h=>exact h
   | 9,h=>exact au.mono hm h
   | 10,h=>exact trivial
   | 11,h=>exact trivial
   | 12,h=>exact trivial
   | _+13,h=>exact trivial
  refine ER (hmx) [[],[0],[],[],[3],[],[3,4,5],(ra 3 4),(ra 3 5),(ra 3 6),(ra 0 10),(ra 0 11),(ra 0 12)] [10,11,12] (by kernel_rfl) (by kernel_rfl) (fun (cu:Nat) (v:ak) (G:GH)=>match cu with|0=>v=(aM b3 1)|1=>v=.slice (some ⟨bl,0,none⟩) s.lists.length lc|2=>v=vi k2|3=>v=(aM b3 1)|4=>v=.slice (some ⟨bl,0,none⟩) s.lists.length lc|5=>v=vi k2|6=>v=(aM bl (0+k2*2))|7=>v=(aM bl (0+k2*2+1))|8=>v=.slice qA qn qc|9=>au G (.sl 4 (s.lists[k2].levels.map iY.dat)) v|_=>True) BH H ?_ ?_
  ·clear H;refine aG ?_ ?_ ?_ ?_ (aG ?_ ?_ ?_ ?_ (aG ?_ ?_ (bY rfl) (bY rfl) (bq (bY rfl) dD)))
   ·refine fO [] rfl trivial (by kernel_rfl) BH rfl rfl ?_;intro dz a w G1 hG HT H fin;exact kH H (Rf lX rfl fun _ H=>fin H iJ rfl)
   ·refine fO [(0,44,_)] rfl ⟨fun _ _ h=>h,aC⟩ (by kernel_rfl) BH rfl rfl ?_;intro dz a w G1 hG HT H fin;exact kH H (Ro kR 0 rfl fun _ H=>fin H iJ rfl)
   ·refine fO [] rfl trivial (by kernel_rfl) BH rfl rfl ?_;intro dz a w G1 hG HT H fin;exact kH H (Rm rfl fun _ H=>fin H iJ rfl)
   ·refine fO [] rfl trivial (by kernel_rfl) BH rfl rfl ?_;intro dz a w G1 hG HT H fin;exact kH H (Rf lX rfl fun _ H=>fin H iJ rfl)
   ·refine fO [(3,47,_)] rfl ⟨fun _ _ h=>h,aC⟩ (by kernel_rfl) BH rfl rfl ?_;intro dz a w G1 hG HT H fin;exact kH H (Ro kR 0 rfl fun _ H=>fin H iJ rfl)
   ·refine fO [] rfl trivial (by kernel_rfl) BH rfl rfl ?_;intro dz a w G1 hG HT H fin;exact kH H (Rm rfl fun _ H=>fin H iJ rfl)
   ·refine fO [(4,48,_),(5,49,_)] rfl ⟨fun _ _ h=>h,fun _ _ h=>h,aC⟩ (by kernel_rfl) BH rfl rfl ?_;intro dz a w G1 hG HT H fin;exact kH H (Ri jE jR rfl rfl fun _ H=>fin H iJ rfl)
   ·refine fO [(6,50,_)] rfl ⟨fun _ _ h=>h,aC⟩ (by kernel_rfl) BH rfl rfl ?_;intro dz a w G1 hG HT H fin;exact kH H (Rf xR rfl fun _ H=>fin H iJ rfl)
   ·refine fO [(7,51,_)] rfl ⟨fun _ _ h=>h,aC⟩ (by kernel_rfl) BH rfl rfl ?_;intro dz a w G1 hG HT H fin;refine zT yI H wn rfl (hrw2.at H.hp (fun x hx=>nE _ (nE _ (List.mem_append_right _ hx))) (by rw [lD];exact hqx)) rfl ?_;clear H;intro a H;exact fin H iJ rfl
   refine fO [(8,52,_)] rfl ⟨fun _ _ h=>h,aC⟩ (by kernel_rfl) BH rfl rfl ?_;intro dz a w G1 hG HT H fin;refine s_call agF H wn rfl (adG _ _ H.ro _ _ _ _ (hqr.mono hG) (by simpa using hqz)) rfl ?_;clear H;rintro v53 VY a w Mi LB H;exact fin H LB (Mi)
  clear H;intro a w G pW H hv;have H:=H.aZ (hv 1 45 rfl rfl) rfl;have H:=H.aZ (hv 2 46 rfl rfl) rfl;obtain ⟨u53,ajX,Mi⟩:=hv 9 53 (by decide) rfl;(try dsimp only at Mi);obtain ⟨IL,n53,c53,rfl⟩:=Mi.form;have H:=H.nA ajX;clear hv;refine kH H (Ri jE jR rfl rfl (Rf xR rfl ?_));clear H;intro a H;refine bN yI (2+Lo.length) (c:=Jg) (vs:=[.slice IL n53 c53]) (Jg.set (k2*2+1) (.slice IL n53 c53)) H wn rfl (ako [_,_] Lo _) rfl rfl rfl rfl (by simp;omega) (by rw [lD];rfl) ?_;clear H;intro w H;have H:=H.cast (amN [_,_] Lo _ _);have ajQ:=TV (k2*2+1) (.slice IL n53 c53);have aiS:=(Te.mono pW).setAt (i:=k2) (k:=1) (r:=s.lists[k2].dat) (v:=.slice IL n53 c53) (by simp [hk3]) rfl (by decide) Mi;refine aH ⟨rfl,?_⟩;refine bK _ _ ?_;clear bK;refine kP H (SC (Rd rfl (Rm rfl ?_)));clear H;intro a H;refine aH ?_;refine dK ((k2+1,xs2.set (k2*2+1) (.slice IL n53 c53),[(bl,.cells (Jg.set (k2*2+1) (.slice IL n53 c53)).toArray 84 (0,0))],_)) (by exact (H).sub ⟨rfl,rfl,rfl,rfl,aC⟩) ?_ ?_
  ·(try dsimp only);exact ⟨by omega,ajQ,aiS,fun b o h=>pW b o (kG b o h)⟩
  first|omega|(dsimp only;omega)
 intro Br a H
 try have p42:=dF Br
 obtain rfl:k2=s.lists.length:=by omega
 refine dW ?_;refine K9 _ _ ?_;clear K9;refine dw (fun _ dx=>?_);refine aW tZ (cs:=[_,_,_,_]) H wn rfl rfl (H.hp.dX 0 rfl rfl) rfl ?_;clear H;intro a H;refine bN tZ 1 (vs:=[_,_,_,_]) _ H wn rfl rfl rfl rfl rfl rfl rfl rfl ?_;clear H;intro w H;dsimp only [List.set,setRow] at H;refine dx _ _ ?_;clear dx;refine dR ?_;have H:=H.un (A:=[_,_]);obtain ⟨Gr,hmr,ajK,H⟩:=St.E5 (Li:=[_,_]++Lo) H hrw2 (rows:=s.lists.map dH.dat) (by simp) Te;obtain ⟨Gs,hms,TS,H⟩:=St.E5 (Li:=[_,_]) H hrw (rows:=s.styles.map bL.dat) (by simp) ((iK.mono kG).mono hmr);refine (leave1 H results34 (.cons (BS tZ (cs:=[_,_,_,_]) H rfl rfl (H.hp.dX 1 rfl rfl)) .nil) ?_).1;exact H.rt ⟨_,_,_,_,rfl,TS,ajK.mono hms,(((hc18.mono hgm).mono kG).mono hmr).mono hms,(((YU.mono hgm).mono kG).mono hmr).mono hms⟩
end
section
open Go.RowKit
theorem afX:∀ args w,(callFunc 33 args).run prog w=.ok (.enter 33 args) w:=enters func33 rfl (by kernel_rfl)
theorem afY:∀ args w,(callFunc 34 args).run prog w=.ok (.enter 34 args) w:=enters func34 rfl (by kernel_rfl)
theorem abk:uj prog 38 [(0,1),(1,5),(6,1),(7,4)] [.slice none 0 0,.slice none 0 0,.int .i64 0,.int .i64 0,.slice none 0 0,.slice none 0 0,.slice none 0 0,.slice none 0 0,.slice none 0 0,.slice none 0 0,.slice none 0 0]:=⟨by kernel_rfl,by kernel_rfl⟩
theorem adI (G:GH) (w0:World) (hO:ig G [] w0) (l:List aJ) (v:ak) (hv:au G (.sl 11 (l.map aJ.dat)) v) (hz:bU l≤4294967296) :
  Calls prog 31 #[v] w0 (gy w0 G [] fun u G' L'=>∃ xs,dO 47 11 u l.length xs L'∧dG G' 11 (l.map aJ.dat) xs):=by
 have ih:=QO 4294967297 (by omega);have hl:=FT l;refine jB (N:=5) (T:=[(0,_)]) func31 rfl ntmps31 rfl rfl hO ?_;intro a H;refine kP H (SR fun _ K1=>aj K1 rfl (SR fun _ K2=>Rm rfl ?_));clear H K1;intro a H;refine gB XM (Li:=[]) (L:=[]) H wn rfl (Xp (fun x=>x) _ _ (Az H.ro) l _ _ hv (by omega) (fun y hy=>Xb (n:=4294967296) (QO 4294967296 (by omega)) (by omega) y (by have:=M9 hy;omega))) rfl ?_;clear H;rintro v4 G4 L4 a w ⟨xs4,ajO,aiO⟩ OA H;dsimp only [List.nil_append] at H;exact kH H (aj K2 rfl (LR results31 rfl fun H=>H.hp.eB ⟨xs4,ajO,aiO⟩))
def acs (G:GH) (D:jS) (d:oC) (L:OL):Prop :=
 ∃ xf Lf xr Lr,L=Lf++Lr∧dO 47 11 (aK D.f) d.flow.length xf Lf∧dG G 11 (d.flow.map aJ.dat) xf∧dO 49 3 (aK D.r) d.revs.length xr Lr∧dG G 3 (d.revs.map dh.dat) xr ∧
  ku G d.fin (aK D.p) (aK D.d) (aK D.y)∧D.ins=d.fin.marks.ins∧D.move=d.fin.marks.move∧tq G d.gq (aK D.s1) (aK D.s2) (aK D.s3) (aK D.s4)
set_option maxHeartbeats 2000000 in
theorem aei (G:GH) (w0:World) (hO:ig G [] w0) (D:jS) (d:oC) (hR:qF G D d) (hz:Ey d) :
  Calls prog 8 #[D.val] w0 (gy w0 G [] fun u G' L'=>∃ D':jS,u=D'.val∧acs G' D' d L'):=by
 obtain ⟨hfl,hhd,hins,hmv,mU,hst⟩:=hR;obtain ⟨zf,zh,zr,zt,zs,Na⟩:=hz;refine jB (N:=16) (T:=[(0,_)]) func8 rfl ntmps8 rfl rfl hO ?_;intro a H;refine dw (fun _ K1=>?_);refine eD (cs:=[_,_,_,_,_,_,_,_,_,_,_]) H wn rfl rfl rfl ?_;clear H;intro b1 a w hb1 H;refine dU jQ H wn rfl ?_;clear H;intro b2 a w hb2 H;refine K1 _ _ ?_;clear K1;refine aS (fun _ K2=>?_);have H:=H.dS (Pl:=[_,_]) (dL:=[_,_]) [1,0] (by decide) rfl;obtain ⟨Ga,hma,hb1',H⟩:=H.eG;have hga:=fun j v hj=>oq hb1' 0 D.cells rfl j v hj;replace hfl:=hfl.mono hma;replace hhd:=hhd.mono hma;replace mU:=mU.mono hma;replace hst:=hst.mono hma
 have fB:∀ (bD:Nat→ak × OL) (cu:Nat) (v:ak) (G G':GH),(∀ k o,G k=some o→G' k=some o)→(fun (bD:Nat→ak × OL) (cu:Nat) (v:ak) (G:GH)=>match cu with|0=>v=(aM b1 0)|1=>v=aK D.f|2=>v=(bD 2).1∧∃ xs,dO 47 11 v d.flow.length xs (bD 2).2∧dG G 11 (d.flow.map aJ.dat) xs|3=>v=(aM b1 1)|4=>v=zD d.fin (aK D.p) (aK D.d) (aK D.y)|5=>∃ p y z,v=.agg #[p,vi d.fin.marks.ins,vi d.fin.marks.move,y,z]∧ku G d.fin p y z|6=>v=(aM b1 6)|7=>v=aK D.r|8=>v=(bD 8).1∧∃ xs,dO 49 3 v d.revs.length xs (bD 8).2∧dG G 3 (d.revs.map dh.dat) xs|9=>v=(aM b1 7)|10=>v=.agg #[aK D.s1,aK D.s2,aK D.s3,aK D.s4]|11=>∃ a' b' c' d',v=.agg #[a',b',c',d']∧tq G d.gq a' b' c' d'|_=>True) bD cu v G→(fun (bD:Nat→ak × OL) (cu:Nat) (v:ak) (G:GH)=>match cu with|0=>v=(aM b1 0)|1=>v=aK D.f|2=>v=(bD 2).1∧∃ xs,dO 47 11 v d.flow.length xs (bD 2).2∧dG G 11 (d.flow.map aJ.dat) xs|3=>v=(aM b1 1)|4=>v=zD d.fin (aK D.p) (aK D.d) (aK D.y)|5=>∃ p y z,v=.agg #[p,vi d.fin.marks.ins,vi d.fin.marks.move,y,z]∧ku G d.fin p y z|6=>v=(aM b1 6)|7=>v=aK D.r|8=>v=(bD 8).1∧∃ xs,dO 49 3 v d.revs.length xs (bD 8).2∧dG G 3 (d.revs.map dh.dat) xs|9=>v=(aM b1 7)|10=>v=.agg #[aK D.s1,aK D.s2,aK D.s3,aK D.s4]|11=>∃ a' b' c' d',v=.agg #[a',b',c',d']∧tq G d.gq a' b' c' d'|_=>True) bD cu v G':=by
  intro bD cu v G G' hm h
  match cu,h with
  | 0,h=>exact h
  | 1,h=>exact h
  | 2,h=>exact let ⟨h1,xs,h2,h3⟩:=h;⟨h1,xs,h2,h3.mono hm⟩
  | 3,h=>exact h
  | 4,h=>exact h
  | 5,h=>exact let ⟨p,y,z,h1,h2⟩:=h;⟨p,y,z,h1,h2.mono hm⟩
  | 6,h=>exact h
  | 7,h=>exact h
  | 8,h=>exact let ⟨h1,xs,h2,h3⟩:=h;⟨h1,xs,h2,h3.mono hm⟩
  | 9,h=>exact h
  | 10,h=>exact h
  | 11,h=>exact let ⟨p,q,y,z,h1,h2⟩:=h;⟨p,q,y,z,h1,h2.mono hm⟩
  | 12,h=>exact trivial
  | 13,h=>exact trivial
  | _+14,h=>exact trivial
 refine WU [2,8] (hmx) [[],[0],[0,1],[],[3],(ra 0 5),[],[6],(ra 0 8),[],[9],(ra 0 11),(ra 0 12),(ra 0 13)] [12,13] (by kernel_rfl) (by kernel_rfl) (by decide) (by kernel_rfl) (fun (bD:Nat→ak × OL) (cu:Nat) (v:ak) (G:GH)=>match cu with|0=>v=(aM b1 0)|1=>v=aK D.f|2=>v=(bD 2).1∧∃ xs,dO 47 11 v d.flow.length xs (bD 2).2∧dG G 11 (d.flow.map aJ.dat) xs|3=>v=(aM b1 1)|4=>v=zD d.fin (aK D.p) (aK D.d) (aK D.y)|5=>∃ p y z,v=.agg #[p,vi d.fin.marks.ins,vi d.fin.marks.move,y,z]∧ku G d.fin p y z|6=>v=(aM b1 6)|7=>v=aK D.r|8=>v=(bD 8).1∧∃ xs,dO 49 3 v d.revs.length xs (bD 8).2∧dG G 3 (d.revs.map dh.dat) xs|9=>v=(aM b1 7)|10=>v=.agg #[aK D.s1,aK D.s2,aK D.s3,aK D.s4]|11=>∃ a' b' c' d',v=.agg #[a',b',c',d']∧tq G d.gq a' b' c' d'|_=>True) (fun m hm x y i v G hi hc h=>by
  have hm:m=2∨m=8:=by simpa using hm
  rcases hm with rfl|rfl
  ·match i,hi,hc,h with
   | 0,_,_,h=>exact h
   | 1,_,_,h=>exact h
   | 2,hi,_,_=>exact absurd hi (by decide)
   | 3,_,_,h=>exact h
   | 4,_,_,h=>exact h
   | 5,_,hc,_=>exact absurd hc (by decide)
   | 6,_,_,h=>exact h
   | 7,_,_,h=>exact h
   | 8,_,hc,_=>exact absurd hc (by decide)
   | 9,_,_,h=>exact h
   | 10,_,_,h=>exact h
   | 11,_,hc,_=>exact absurd hc (by decide)
   | 12,_,hc,_=>exact absurd hc (by decide)
   | 13,_,hc,_=>exact absurd hc (by decide)
   | _+14,_,_,_=>exact trivial
  ·match i,hi,hc,h with
   | 0,_,_,h=>exact h
   | 1,_,_,h=>exact h
   | 2,_,_,h=>exact h
   | 3,_,_,h=>exact h
   | 4,_,_,h=>exact h
   | 5,_,_,h=>exact h
   | 6,_,_,h=>exact h
   | 7,_,_,h=>exact h
   | 8,hi,_,_=>exact absurd hi (by decide)
   | 9,_,_,h=>exact h
   | 10,_,_,h=>exact h
   | 11,_,hc,_=>exact absurd hc (by decide)
   | 12,_,hc,_=>exact absurd hc (by decide)
   | 13,_,hc,_=>exact absurd hc (by decide)
   | _+14,_,_,_=>exact trivial
  ) H ?_ ?_ ?_
 ·clear H;refine aG ?_ ?_ ?_ ?_ (aG ?_ ?_ ?_ ?_ (aG ?_ ?_ ?_ ?_ (bq ?_ (bq ?_ dD))))
  ·intro bD jv dz a w G1 jO _ _ cB hc hG HT hv;have H:=HT;clear cB;have Hb:=H.full;have H:=Hb;clear hc;refine kH H (Rf uM rfl ?_);clear H;intro a H;refine aH ⟨rfl,?_⟩;exact kC (by kernel_rfl) (fB bD) rfl rfl HT Hb hG hv (fun _ _ h=>h) (rfl) H
  ·intro bD jv dz a w G1 jO _ _ cB hc hG HT hv;have H:=HT;clear cB;have H:=H.aZ (hv 0 3 (hc 0 (by decide)) rfl) rfl;have Hb:=H.full;have H:=Hb;clear hc;refine kH H (Rg jy rfl (ay hG (hga 0 _ rfl)) ?_);clear H;intro a H;refine aH ⟨rfl,?_⟩;exact kC (by kernel_rfl) (fB bD) rfl rfl HT Hb hG hv (fun _ _ h=>h) (rfl) H
  ·intro _ _ _ _ _ _ _ _ hB;exact absurd hB (by decide)
  ·intro bD jv dz a w G1 jO _ _ cB hc hG HT hv;have H:=HT;clear cB;have Hb:=H.full;have H:=Hb;clear hc;refine kH H (Rf Ak rfl ?_);clear H;intro a H;refine aH ⟨rfl,?_⟩;exact kC (by kernel_rfl) (fB bD) rfl rfl HT Hb hG hv (fun _ _ h=>h) (rfl) H
  ·intro bD jv dz a w G1 jO _ _ cB hc hG HT hv;have H:=HT;clear cB;have H:=H.aZ (hv 3 6 (hc 3 (by decide)) rfl) rfl;have Hb:=H.full;have H:=Hb;clear hc;refine aW lJ (cs:=[aK D.p,vi d.fin.marks.ins,vi d.fin.marks.move,aK D.d,aK D.y]) H wn rfl rfl (fun j v hj=>H.hp.aF (ay hG (by rw [← hins,← hmv] at hj;exact oq hb1' 1 _ rfl j v hj))) rfl ?_;clear H;intro a H;refine aH ⟨rfl,?_⟩;exact kC (by kernel_rfl) (fB bD) rfl rfl HT Hb hG hv (fun _ _ h=>h) (rfl) H
  ·intro bD jv dz a w G1 jO _ _ cB hc hG HT hv;have H:=HT;clear cB;have H:=H.aZ (hv 4 7 (hc 4 (by decide)) rfl) rfl;have Hb:=H.full;have H:=Hb;clear hc;refine s_call NU H wn rfl (Nz _ _ H.ro d.fin _ _ _ _ _ _ _ _ _ (hhd.mono hG) zh) rfl ?_;clear H;rintro v8 G8 a w qz rG H;refine aH ⟨rfl,?_⟩;exact kC (by kernel_rfl) (fB bD) rfl rfl HT Hb hG hv rG (qz) H
  ·intro bD jv dz a w G1 jO _ _ cB hc hG HT hv;have H:=HT;clear cB;have Hb:=H.full;have H:=Hb;clear hc;refine kH H (Rf qM rfl ?_);clear H;intro a H;refine aH ⟨rfl,?_⟩;exact kC (by kernel_rfl) (fB bD) rfl rfl HT Hb hG hv (fun _ _ h=>h) (rfl) H
  ·intro bD jv dz a w G1 jO _ _ cB hc hG HT hv;have H:=HT;clear cB;have H:=H.aZ (hv 6 9 (hc 6 (by decide)) rfl) rfl;have Hb:=H.full;have H:=Hb;clear hc;refine kH H (Rg ow rfl (ay hG (hga 6 _ rfl)) ?_);clear H;intro a H;refine aH ⟨rfl,?_⟩;exact kC (by kernel_rfl) (fB bD) rfl rfl HT Hb hG hv (fun _ _ h=>h) (rfl) H
  ·intro _ _ _ _ _ _ _ _ hB;exact absurd hB (by decide)
  ·intro bD jv dz a w G1 jO _ _ cB hc hG HT hv;have H:=HT;clear cB;have Hb:=H.full;have H:=Hb;clear hc;refine kH H (Rf xQ rfl ?_);clear H;intro a H;refine aH ⟨rfl,?_⟩;exact kC (by kernel_rfl) (fB bD) rfl rfl HT Hb hG hv (fun _ _ h=>h) (rfl) H
  ·intro bD jv dz a w G1 jO _ _ cB hc hG HT hv;have H:=HT;clear cB;have H:=H.aZ (hv 9 12 (hc 9 (by decide)) rfl) rfl;have Hb:=H.full;have H:=Hb;clear hc;refine aW tZ (cs:=[aK D.s1,aK D.s2,aK D.s3,aK D.s4]) H wn rfl rfl (fun j v hj=>H.hp.aF (ay hG (oq hb1' 7 _ rfl j v hj))) rfl ?_;clear H;intro a H;refine aH ⟨rfl,?_⟩;exact kC (by kernel_rfl) (fB bD) rfl rfl HT Hb hG hv (fun _ _ h=>h) (rfl) H
  ·intro bD jv dz a w G1 jO _ _ cB hc hG HT hv;have H:=HT;clear cB;have H:=H.aZ (hv 10 13 (hc 10 (by decide)) rfl) rfl;have Hb:=H.full;have H:=Hb;clear hc;refine s_call afY H wn rfl (adS _ _ H.ro d.gq _ _ _ _ (hst.mono hG) zs Na.ln Na.cn Na.vn Na.pl Na.ll) rfl ?_;clear H;rintro v14 IU a w vT DY H;refine aH ⟨rfl,?_⟩;exact kC (by kernel_rfl) (fB bD) rfl rfl HT Hb hG hv DY (vT) H
  ·intro _ _ _ _ _ _ _ hB;exact absurd hB (by decide)
  intro _ _ _ _ _ _ _ hB;exact absurd hB (by decide)
 ·clear H;refine aG ?_ ?_ ?_ ?_ (aG ?_ ?_ ?_ ?_ (aG ?_ ?_ ?_ ?_ (bq ?_ (bq ?_ dD))))
  ·intro hB;exact absurd hB (by decide)
  ·intro hB;exact absurd hB (by decide)
  ·intro _ bD jv dz a w G1 jO _ hc hG HT hv;have H:=HT;have H:=H.aZ (hv (.bool false,[]) 1 4 (by decide) (hc 1 (by decide)) rfl) rfl;have Hb:=H.full;have H:=Hb;clear hc;refine gB Rt (Li:=jv) (L:=[]) (H.cast (Ah _).symm) wn rfl (adI _ _ (Az H.ro) d.flow _ (hfl.mono hG) (by omega)) rfl ?_;clear H;rintro v5 G5 L5 a w ⟨xs5,ajP,aiP⟩ zy H;have H:=H.perm vv;refine aH ⟨rfl,(v5,L5),?_⟩;exact Ji (by kernel_rfl) (fB (zW bD 2 (v5,L5))) rfl HT Hb hG (fun j e h1 h2 h3=>hv (v5,L5) j e h1 h2 h3) zy (⟨rfl,xs5,ajP,aiP⟩) H
  ·intro hB;exact absurd hB (by decide)
  ·intro hB;exact absurd hB (by decide)
  ·intro hB;exact absurd hB (by decide)
  ·intro hB;exact absurd hB (by decide)
  ·intro hB;exact absurd hB (by decide)
  ·intro _ bD jv dz a w G1 jO _ hc hG HT hv;have H:=HT;have H:=H.aZ (hv (.bool false,[]) 7 10 (by decide) (hc 7 (by decide)) rfl) rfl;have Hb:=H.full;have H:=Hb;clear hc;refine gB afX (Li:=jv) (L:=[]) (H.cast (Ah _).symm) wn rfl (adN _ _ (Az H.ro) _ _ _ _ (mU.mono hG) (by simpa using zr)) rfl ?_;clear H;rintro v11 wh Gj a w ⟨Kg,Au,Jz⟩ qQ H;rw [bV] at Au;have H:=H.perm vv;refine aH ⟨rfl,(v11,Gj),?_⟩;exact Ji (by kernel_rfl) (fB (zW bD 8 (v11,Gj))) rfl HT Hb hG (fun j e h1 h2 h3=>hv (v11,Gj) j e h1 h2 h3) qQ (⟨rfl,Kg,Au,Jz⟩) H
  ·intro hB;exact absurd hB (by decide)
  ·intro hB;exact absurd hB (by decide)
  ·intro hB;exact absurd hB (by decide)
  ·intro hB;exact absurd hB (by decide)
  intro hB;exact absurd hB (by decide)
 clear H;intro bD a w G jY H hv
 simp only [rF,List.flatMap_cons,List.flatMap_nil,cond_true,Ah,nN] at H
 obtain ⟨u5,Ml,wW⟩:=hv 2 5 (by decide) rfl;(try dsimp only at wW);obtain ⟨h5,xf,OT,aiQ⟩:=wW;obtain ⟨fA,fc,rfl,-,-⟩:=OT.shape;have H:=H.nA Ml;obtain ⟨u8,Ef,qz⟩:=hv 5 8 (by decide) rfl;(try dsimp only at qz);obtain ⟨p8,y8,z8,rfl,LU⟩:=qz;obtain ⟨a1,a2,a3,rfl⟩:=LU.props.form;obtain ⟨a4,a5,a6,rfl⟩:=LU.bR.form;obtain ⟨a7,a8,a9,rfl⟩:=LU.layers.form;have H:=H.nA Ef;obtain ⟨Vs,Ia,yu⟩:=hv 8 11 (by decide) rfl;(try dsimp only at yu);obtain ⟨h11,xr,OU,aiT⟩:=yu;obtain ⟨rA,rc,rfl,-,-⟩:=OU.shape;have H:=H.nA Ia;obtain ⟨u14,Mk,vT⟩:=hv 11 14 (by decide) rfl;(try dsimp only at vT);obtain ⟨jH,q14,y14,z14,rfl,Mj⟩:=vT;obtain ⟨c1,c2,c3,rfl⟩:=Mj.st.form;obtain ⟨c4,c5,c6,rfl⟩:=Mj.li.form;obtain ⟨c7,c8,c9,rfl⟩:=Mj.cm.form;obtain ⟨d1,d2,d3,rfl⟩:=Mj.va.form;have H:=H.nA Mk;clear hv;obtain ⟨⟨vF,LF⟩,eF⟩:∃ y,y=bD 2:=⟨_,rfl⟩;obtain ⟨⟨vR,LR⟩,eR⟩:∃ y,y=bD 8:=⟨_,rfl⟩;rw [← eF,← eR] at H;rw [← eF] at OT h5;rw [← eR] at OU h11;dsimp only at H OT OU h5 h11;subst h5;subst h11;rw [← nN] at H;have H:=H.perm (vv (l₁:=LF++LR) (l₂:=[_]));dsimp only [lca,aV] at H;refine nk abk [_,_,_,_,_,_,_,_,_,_,_] H wn rfl rfl rfl rfl ?_;clear H;intro a H;refine bN jQ 0 (vs:=[_,_,_,_,_,_,_,_,_,_,_]) _ H wn rfl rfl rfl rfl rfl rfl rfl rfl ?_;clear H;intro w H;dsimp only [List.set,setRow] at H;refine aH ⟨rfl,?_⟩;refine K2 _ _ ?_;clear K2;refine dR ?_;refine (leave1 H results8 (.cons (BS jQ (cs:=[_,_,_,_,_,_,_,_,_,_,_]) H rfl rfl (H.hp.dX 0 rfl rfl)) .nil) ?_).1;exact H.hp.cK (L':=LF++LR) (Co _ _) ⟨⟨(fA,d.flow.length,fc),(a1,a2,a3),(a4,a5,a6),(a7,a8,a9),(rA,d.revs.length,rc),(c1,c2,c3),(c4,c5,c6),(c7,c8,c9),(d1,d2,d3),d.fin.marks.ins,d.fin.marks.move⟩,rfl,xf,LF,xr,LR,rfl,OT,aiQ,OU,aiT,LU,rfl,rfl,Mj⟩
end
section
open Go.RowKit
theorem Rp:∀ args w,(callFunc 27 args).run prog w=.ok (.enter 27 args) w:=enters func27 rfl (by kernel_rfl)
theorem XD:∀ args w,(callFunc 28 args).run prog w=.ok (.enter 28 args) w:=enters func28 rfl (by kernel_rfl)
theorem XJ:∀ args w,(callFunc 76 args).run prog w=.ok (.enter 76 args) w:=enters func76 rfl (by kernel_rfl)
theorem ant {s:rD} (h:gI s.styles≠0):lF s=gI s.styles:=by rw [lF,bT,av h]
theorem Vl {s:rD} (h0:gI s.styles=0) (h:wF s.lists≠0):lF s=wF s.lists:=by rw [lF,bT,ah (by rw [h0];decide),bT,av h]
theorem Iy {s:rD} (h0:gI s.styles=0) (h1:wF s.lists=0) (h:uE s.comments≠0):lF s=uE s.comments:=by rw [lF,bT,ah (by rw [h0];decide),bT,ah (by rw [h1];decide),bT,av h]
theorem J5 {s:rD} (h0:gI s.styles=0) (h1:wF s.lists=0) (h2:uE s.comments=0):lF s=Aj s.vars:=by
 rw [lF,bT,ah (by rw [h0];decide),bT,ah (by rw [h1];decide),bT,ah (by rw [h2];decide),bT,bT]
 split
 ·rfl
 rename_i h;exact (gH.1 h).symm
theorem Pk {E:Nat→Int} {n m:Nat} (h:(m:Int) < n):bT [bQ (decide ((m:Int) < (n:Int))) 9,iI E (min n m)]=9:=by
 rw [gW h];rfl
theorem Pj {E:Nat→Int} {n m:Nat} (h:¬ (m:Int) < n):bT [bQ (decide ((m:Int) < (n:Int))) 9,iI E (min n m)]=iI E n:=by
 rw [fZ h,bT,ah (by decide),bT,bT,show min n m=n by omega]
 split
 ·rfl
 rename_i h;exact (gH.1 h).symm
theorem yU {E:Nat→Int} {n k:Nat} (hk:k < n) (he:bT (((List.range n).map E).drop k)=iI E n) (h:E k≠0):iI E n=E k:=by
 rw [← he,qJ hk,av h]
theorem Nr {E:Nat→Int} {n k:Nat} (hk:k < n) (he:bT (((List.range n).map E).drop k)=iI E n) (h:E k=0):bT (((List.range n).map E).drop (k+1))=iI E n:=by
 rw [← he,qJ hk,ah (by rw [h];decide)]
theorem Nq {E:Nat→Int} {n k:Nat} (hk:n≤k) (he:bT (((List.range n).map E).drop k)=iI E n):iI E n=0:=by
 rw [← he,iw (by simpa using hk)];rfl
theorem wM {l:List Int} {e:Int} (h:e≠0):bT (e :: l)=e:=by rw [bT,av h]
theorem jc {l:List Int} {e:Int} (h:e=0):bT (e :: l)=bT l:=by rw [bT,ah (by rw [h];decide)]
theorem abf {α:Type} {l:List α} {p:α→Bool} {j:Nat} (h:j < l.length):((l.take (j+1)).findIdx? p).isSome=(((l.take j).findIdx? p).isSome || p l[j]):=by
 rw [iG h,List.findIdx?_append]
 cases (l.take j).findIdx? p <;> simp [List.findIdx?_cons] <;> split <;> simp_all
set_option maxHeartbeats 4000000 in
theorem ald (G:GH) (w0:World) (hG:Hold G w0) (s:rD) (a b c d:ak) (hR:tq G s a b c d) (hz:KE s) :
  Calls prog 26 #[.agg #[a,b,c,d]] w0 (bJ w0 G fun u G'=>u=vi (lF s)):=by
 obtain ⟨sA,sc,rfl,-,-,-⟩:=hR.st.slice;obtain ⟨lA,lc,rfl,-,hlc,-⟩:=hR.li.slice;obtain ⟨cA,cc,rfl,-,hcc,-⟩:=hR.cm.slice;obtain ⟨vA,vc,rfl,-,ZC,-⟩:=hR.va.slice;have hml:maxLen=9223372036854775807:=rfl;have hl1:=hz.ln;have hl2:=hz.cn;have hl3:=hz.vn;refine eN [(0,_)] func26 rfl ntmps26 rfl rfl hG ?_;intro a H;refine dw (fun _ K1=>?_);refine eD (cs:=[_,_,_,_]) H wn rfl rfl rfl ?_;clear H;intro b1 a w hb1 H;refine kH H (aj K1 rfl (SQ fun _ K2=>SQ fun _ K3=>?_));clear H K1;intro a H;obtain ⟨Ga,hma,hb1',H⟩:=H.eG
 simp only [bV] at hb1' hR
 have hc0:aF Ga b1 0=some (.slice sA s.styles.length sc):=by unfold aF;rw [hb1'];rfl
 have hc1:aF Ga b1 1=some (.slice lA s.lists.length lc):=by unfold aF;rw [hb1'];rfl
 have hc2:aF Ga b1 2=some (.slice cA s.comments.length cc):=by unfold aF;rw [hb1'];rfl
 have hc3:aF Ga b1 3=some (.slice vA s.vars.length vc):=by unfold aF;rw [hb1'];rfl
 have wS:=hR.li.mono hma;have hcm:=hR.cm.mono hma;have hva:=hR.va.mono hma;refine kP H (SC (Rf vI rfl (Rg nu rfl (by assumption) ?_)));clear H;intro a H;refine s_call XH H wn rfl (W9 _ _ H.ro s.styles _ (hR.st.mono hma) hz.sn) rfl ?_;clear H;rintro v19 VO a w rfl HZ H;replace hc1:=ay HZ hc1;replace hc2:=ay HZ hc2;replace hc3:=ay HZ hc3;replace wS:=wS.mono HZ;replace hcm:=hcm.mono HZ;replace hva:=hva.mono HZ;refine kH H (aO K3 rfl (SR fun _ K4=>Rm rfl (Rc rfl (Kz K4 (Cd rfl ?_ ?_))))) <;> clear H K3 K4
 ·intro h21 a H
  try have oM:=dT h21
  refine aS (fun _ K5=>?_);have e:lF s=gI s.styles:=ant oM;exact kP H (SC (Rm rfl (aO K5 rfl (LR results26 rfl fun H=>H.rt (aB vi e.symm)))))
 intro h21 a H
 try have oM:=dF h21
 have e0:gI s.styles=0:=gH.1 oM;refine kP H (Kc K2 (SQ fun _ K6=>SR fun _ K7=>Rf lX rfl (Rg kR rfl (by assumption) ?_)));clear H K2;intro a H;refine kH H (Rl jE rfl (Rc rfl (Kz K7 (Cd rfl ?_ ?_)))) <;> clear H K7
 ·intro fI a H
  try have p26:=dT fI
  refine aS (fun _ K8=>?_)
  have e:lF s=9:=by
   have h:wF s.lists=9:=Pk (m:=64) (by omega);rw [Vl e0 (by rw [h];decide),h]
  exact kP H (SC (aO K8 rfl (LR results26 rfl fun H=>H.rt (aB vi e.symm))))
 intro fI a H
 try have p26:=dF fI
 have CK:wF s.lists=iI (yx s.lists) s.lists.length:=Pj (m:=64) (by omega);refine kP H (Kc K6 (SQ fun _ K9=>SR fun _ aT=>aj aT rfl (SB ?_)));clear H K6 aT;intro a H;skip;refine eH (ι:=Nat × GH) (Tc:=[(1,_)]) (Lc:=[]) (fun gh=>[(4,vi gh.1)]) (fun gh=>[]) (fun gh=>gh.2) (fun gh=>gh.1≤s.lists.length∧bT (((List.range s.lists.length).map (yx s.lists)).drop gh.1)=iI (yx s.lists) s.lists.length∧(∀ b o,VO b=some o→gh.2 b=some o)) (fun gh=>s.lists.length - gh.1) ((0,VO)) (by exact (H).sub ⟨rfl,rfl,aC⟩) ?_ ?_
 ·exact ⟨iF _,rfl,fun _ _ h=>h⟩
 clear H;intro gh a w hI H;obtain ⟨k,g⟩:=gh;dsimp only at hI H;obtain ⟨hk,he,hgm⟩:=hI;have aiJ:=ay hgm hc1;have Y5:=wS.mono hgm;dsimp only [lca,aV] at H;refine kP H (SQ fun _ bB=>SR fun _ bC=>Rm rfl (Rf lX rfl (Rg kR rfl (by assumption) ?_)));clear H;intro a H;refine kH H (Rl jE rfl (Rc rfl (Kz bC (Cd rfl ?_ ?_)))) <;> clear H bC
 ·intro h31 a H
  try have p31:=dT h31
  have hk2:k < s.lists.length:=by omega
  have hk1:k - 1 < s.lists.length:=by omega
  obtain ⟨lb,lo,B,d,rfl,hrow,hlv⟩:=Ik Y5 hk2;obtain ⟨_,_,_,_,Hz,hrow',-⟩:=Ik Y5 hk1
  injection Hz with Hz
  injection Hz with e1 e2
  subst e1;subst e2
  have hek:yx s.lists k=bT [kY (fun k=>(s.lists[k]?.map dH.id).getD 0) k,eX s.lists[k].levels]:=by unfold yx;rw [fT hk2];rfl
  have hinc:wY s.lists[k].id s.lists[k - 1].id (decide ((k:Int)=0))=kY (fun k=>(s.lists[k]?.map dH.id).getD 0) k:=by
   rw [← Um];(try dsimp only);rw [fT hk2,fT hk1];simp
  refine kP H (Kc bB (SQ fun _ bK=>SB (SR fun _ bP=>Rf lX rfl (Rg kR rfl (by assumption) ?_))));clear H bB;intro a H;refine kH H (Rm rfl (Ri jE jR rfl rfl ?_));clear H;intro a H;refine aW jR (cs:=[vi s.lists[k].id,.slice B s.lists[k].levels.length d]) H wn rfl rfl (fun j v hj=>H.hp.aF (hrow j v hj)) rfl ?_;clear H;intro a H;refine dU jR H wn rfl ?_;clear H;intro b5 a w hb5 H;refine bN jR 0 (vs:=[_,_]) _ H wn rfl rfl rfl rfl rfl rfl rfl rfl ?_;clear H;intro w H;dsimp only [List.set,setRow] at H;refine bP _ _ ?_;clear bP;refine aS (fun _ dx=>?_);refine aS (fun _ dP=>?_);refine dI hmx [[],[0],[],[2],[],[4],[4,5],(ra 2 5),(ra 2 6),(ra 2 7),[],[10],(ra 0 12),(ra 0 13)] [13] (by kernel_rfl) [_,vi s.lists[k].id,_,_,_,_,vi ((k - 1:Nat):Int),_,_,_,_,_,vi (kY (fun k=>(s.lists[k]?.map dH.id).getD 0) k)] H (aG (Z0 rfl (Rf zl rfl)) (Z1 0 39 rfl (Ro aD 0 rfl)) (Z0 rfl (Rf lX rfl)) (X1 2 41 rfl fun hG=>Rg kR rfl (ay hG aiJ)) (aG (Z0 rfl (Rm rfl)) (Z1 4 43 rfl (Rs rfl)) ?_ (Z2 3 42 6 45 rfl (Ri jE jR rfl rfl)) (aG (Z1 7 46 rfl (Rf zl rfl)) (X1 8 47 rfl fun hG=>Rg aD rfl (ay hG (hrow' 0 _ rfl))) (Z0 rfl (Rm rfl)) (Z1 10 49 rfl (Rc rfl)) (bq ?_ (bq (bY rfl) dD))))) ?_
  ·refine dN 5 44 rfl rfl fun _ a w G1 hG HT H fin=>?_;refine FD H wn rfl rfl rfl ?_;clear H;intro a H;exact fin H iJ (aB vi (by omega))
  ·refine rC 1 40 9 48 11 50 rfl rfl fun _ a w G1 hG HT H fin=>?_;refine s_call Rp H wn rfl (Un _ _ H.ro s.lists[k].id s.lists[k - 1].id (decide ((k:Int)=0))) rfl ?_;clear H;rintro v51 G51 a w ⟨rfl,-⟩ aib H;exact fin H aib (aB vi hinc)
  clear H;intro a w G pW H hv;have H:=H.aZ (hv 12 51 rfl rfl) rfl;clear hv;refine kH H (Ra rfl ?_);clear H;intro a H;refine aH ⟨rfl,?_⟩;refine dP _ _ ?_;clear dP;refine kP H (SR fun _ dB=>Rm rfl (Rc rfl (Kz dB (Cd rfl ?_ ?_)))) <;> clear H dB
  ·intro fC a H
   try have p53:=dT fC
   refine aS (fun _ dY=>?_)
   have e:lF s=kY (fun k=>(s.lists[k]?.map dH.id).getD 0) k:=by
    have h1:yx s.lists k=kY (fun k=>(s.lists[k]?.map dH.id).getD 0) k:=by rw [hek,wM p53]
    have h2:wF s.lists=kY (fun k=>(s.lists[k]?.map dH.id).getD 0) k:=by rw [CK,yU hk2 he (by rw [h1];exact p53),h1]
    rw [Vl e0 (by rw [h2];exact p53),h2]
   exact kP H (SC (Rm rfl (aO dY rfl (LR results26 rfl fun H=>H.rt (aB vi e.symm)))))
  intro fC a H
  try have p53:=dF fC
  refine kP H (Kc dx (SR fun _ eP=>bg xR yI 0 rfl rfl ?_));clear H dx;intro a H;refine s_call XI H wn rfl (WZ _ _ H.ro s.lists[k].levels _ (hlv.mono pW) (hz.lt _ (jW hk2))) rfl ?_;clear H;rintro v57 G57 a w rfl ajv H;refine kH H (aj eP rfl (SR fun _ dZ=>Rm rfl (Rc rfl (Kz dZ (Cd rfl ?_ ?_))))) <;> clear H eP dZ
  ·intro jl a H
   try have p59:=dT jl
   refine aS (fun _ eU=>?_)
   have e:lF s=eX s.lists[k].levels:=by
    have h1:yx s.lists k=eX s.lists[k].levels:=by rw [hek,jc (gH.1 p53),wM p59]
    have h2:wF s.lists=eX s.lists[k].levels:=by rw [CK,yU hk2 he (by rw [h1];exact p59),h1]
    rw [Vl e0 (by rw [h2];exact p59),h2]
   exact kP H (SC (Rm rfl (aO eU rfl (LR results26 rfl fun H=>H.rt (aB vi e.symm)))))
  intro jl a H
  try have p59:=dF jl
  refine kP H (Kc bK (SC (Rm rfl (Rd rfl (Ra rfl ?_)))));clear H bK;intro a H;refine aH ?_;refine dK ((k+1,G57)) (by exact (H.dS (Pl:=[_]) (dL:=[]) [] (by decide) rfl).sub ⟨rfl,rfl,aC⟩) ?_ ?_
  ·(try dsimp only);exact ⟨by omega,Nr hk2 he (by rw [hek,jc (gH.1 p53),jc (gH.1 p59)];rfl),fun b o h=>ajv b o (pW b o (hgm b o h))⟩
  first|omega|(dsimp only;omega)
 intro h31 a H
 try have p31:=dF h31
 refine dW ?_;refine K9 _ _ ?_;clear K9;refine aS (fun _ fK=>?_);refine aS (fun _ gM=>?_)
 have zB:wF s.lists=0:=by rw [CK,Nq (by omega) he]
 have aiK:=ay hgm hc2;have aiM:=ay hgm hc3;replace hcm:=hcm.mono hgm;replace hva:=hva.mono hgm;refine kP H (SC (Rf wJ rfl (Rg rV rfl (by assumption) ?_)));clear H;intro a H;refine kH H (Rl nX rfl (Rc rfl (Kn gM (Cd rfl ?_ ?_)))) <;> clear H gM
 ·intro h64 a H
  try have p64:=dT h64
  refine aS (fun _ iC=>?_)
  have e:lF s=9:=by
   have h:uE s.comments=9:=Pk (m:=1024) (by omega);rw [Iy e0 zB (by rw [h];decide),h]
  exact kP H (SC (aO iC rfl (LR results26 rfl fun H=>H.rt (aB vi e.symm))))
 intro h64 a H
 try have p64:=dF h64
 have Hg:uE s.comments=iI (uF s.comments) s.comments.length:=Pj (m:=1024) (by omega);refine kP H (Kc fK (SQ fun _ gu=>SR fun _ iX=>aj iX rfl (SB ?_)));clear H fK iX;intro a H;skip;refine eH (ι:=Nat × GH) (Tc:=[(1,_)]) (Lc:=[]) (fun gh=>[(8,vi gh.1)]) (fun gh=>[]) (fun gh=>gh.2) (fun gh=>gh.1≤s.comments.length∧bT (((List.range s.comments.length).map (uF s.comments)).drop gh.1)=iI (uF s.comments) s.comments.length∧(∀ b o,g b=some o→gh.2 b=some o)) (fun gh=>s.comments.length - gh.1) ((0,g)) (by exact (H).sub ⟨rfl,rfl,aC⟩) ?_ ?_
 ·exact ⟨iF _,rfl,fun _ _ h=>h⟩
 clear H;intro gh a w hI H;obtain ⟨i,g2⟩:=gh;dsimp only at hI H;obtain ⟨hi,hce,kG⟩:=hI;have YJ:=ay kG aiK;have Tg:=hcm.mono kG;dsimp only [lca,aV] at H;refine kP H (SQ fun _ jo=>SR fun _ iN=>Rm rfl (Rf wJ rfl (Rg rV rfl (by assumption) ?_)));clear H;intro a H;refine kH H (Rl nX rfl (Rc rfl (Kz iN (Cd rfl ?_ ?_)))) <;> clear H iN
 ·intro gY a H
  try have p69:=dT gY
  have hi2:i < s.comments.length:=by omega
  have hi1:i - 1 < s.comments.length:=by omega
  obtain ⟨cb,co,rfl,YT,-⟩:=Je Tg hi2;obtain ⟨_,_,Ti,aiZ,-⟩:=Je Tg hi1
  injection Ti with Ti
  injection Ti with e1 e2
  subst e1;subst e2;have hte:=hz.ct _ (jW hi2);obtain ⟨x,hx⟩:∃ x,x=s.comments[i]:=⟨_,rfl⟩
  have Hw:uF s.comments i=Ba s.comments i x:=by unfold uF;rw [fT hi2,hx]
  have ajk:wY x.id s.comments[i - 1].id (decide ((i:Int)=0))=kY (fun k=>(s.comments[k]?.map fq.id).getD 0) i:=by
   rw [← Um];(try dsimp only);rw [fT hi2,fT hi1,hx];simp
  rw [← hx] at YT hte;refine kP H (Kc jo (SQ fun _ kJ=>SB (SR fun _ kK=>Rf wJ rfl (Rg rV rfl (by assumption) ?_))));clear H jo;intro a H;refine kH H (Rm rfl (Ri nX oP rfl rfl ?_));clear H;intro a H;refine aW oP (cs:=x.cells) H wn rfl rfl (fun j v hj=>H.hp.aF (YT j v hj)) rfl ?_;clear H;intro a H;refine dU oP H wn rfl ?_;clear H;intro b9 a w rH H;refine bN oP 0 (vs:=[_,_,_,_,_,_]) _ H wn rfl rfl rfl rfl rfl rfl rfl rfl ?_;clear H;intro w H;dsimp only [List.set,setRow] at H;refine kK _ _ ?_;clear kK;refine aS (fun _ jA=>?_);refine aS (fun _ kT=>?_);refine dI hmx [[],[0],[],[2],[],[4],[4,5],(ra 2 5),(ra 2 6),(ra 2 7),[],[10],(ra 0 12),(ra 0 13)] [13] (by kernel_rfl) [_,vi x.id,_,_,_,_,vi ((i - 1:Nat):Int),_,_,_,_,_,vi (kY (fun k=>(s.comments[k]?.map fq.id).getD 0) i)] H (aG (Z0 rfl (Rf Lj rfl)) (Z1 0 77 rfl (Ro aD 0 rfl)) (Z0 rfl (Rf wJ rfl)) (X1 2 79 rfl fun hG=>Rg rV rfl (ay hG YJ)) (aG (Z0 rfl (Rm rfl)) (Z1 4 81 rfl (Rs rfl)) ?_ (Z2 3 80 6 83 rfl (Ri nX oP rfl rfl)) (aG (Z1 7 84 rfl (Rf Lj rfl)) (X1 8 85 rfl fun hG=>Rg aD rfl (ay hG (aiZ 0 _ rfl))) (Z0 rfl (Rm rfl)) (Z1 10 87 rfl (Rc rfl)) (bq ?_ (bq (bY rfl) dD))))) ?_
  ·refine dN 5 82 rfl rfl fun _ a w G1 hG HT H fin=>?_;refine FD H wn rfl rfl rfl ?_;clear H;intro a H;exact fin H iJ (aB vi (by omega))
  ·refine rC 1 78 9 86 11 88 rfl rfl fun _ a w G1 hG HT H fin=>?_;refine s_call Rp H wn rfl (Un _ _ H.ro x.id s.comments[i - 1].id (decide ((i:Int)=0))) rfl ?_;clear H;rintro v89 G89 a w ⟨rfl,-⟩ aii H;exact fin H aii (aB vi ajk)
  clear H;intro a w G xW H hv;have H:=H.aZ (hv 12 89 rfl rfl) rfl;clear hv;refine kH H (Ra rfl ?_);clear H;intro a H;refine aH ⟨rfl,?_⟩;refine kT _ _ ?_;clear kT;refine kP H (SR fun _ kU=>Rm rfl (Rc rfl (Kz kU (Cd rfl ?_ ?_)))) <;> clear H kU
  ·intro Am a H
   try have zQ:=dT Am
   refine aS (fun _ lM=>?_)
   have e:lF s=kY (fun k=>(s.comments[k]?.map fq.id).getD 0) i:=by
    have h1:uF s.comments i=kY (fun k=>(s.comments[k]?.map fq.id).getD 0) i:=by rw [Hw,Ba,wM zQ]
    have h2:uE s.comments=kY (fun k=>(s.comments[k]?.map fq.id).getD 0) i:=by rw [Hg,yU hi2 hce (by rw [h1];exact zQ),h1]
    rw [Iy e0 zB (by rw [h2];exact zQ),h2]
   exact kP H (SC (Rm rfl (aO lM rfl (LR results26 rfl fun H=>H.rt (aB vi e.symm)))))
  intro Am a H
  try have zQ:=dF Am
  refine kP H (Kc jA (SR fun _ lN=>bg N8 aD 0 rfl rfl (Rc rfl (aj lN rfl (SQ fun _ lQ=>SR fun _ mo=>aj mo rfl (SB ?_))))));clear H jA lN mo;intro a H;skip;refine eH (ι:=Nat × Bool × GH) (Tc:=[(1,_),(8,_),(9,_)]) (Lc:=[(_,_)]) (fun gh=>[(11,.bool gh.2.1),(12,vi gh.1)]) (fun gh=>[]) (fun gh=>gh.2.2) (fun gh=>gh.1≤i∧gh.2.1=(decide (x.parent=0) || ((s.comments.take gh.1).findIdx? fun y=>decide (y.id=x.parent)).isSome)∧(∀ b o,g2 b=some o→gh.2.2 b=some o)) (fun gh=>i - gh.1) ((0,decide (x.parent=0),_)) (by exact (H).sub ⟨rfl,rfl,rfl,rfl,rfl,aC⟩) ?_ ?_
  ·exact ⟨iF _,by simp,xW⟩
  clear H;intro gh a w hI H;obtain ⟨j,fb,g3⟩:=gh;dsimp only at hI H;obtain ⟨hj,Tm,rO⟩:=hI;have aiL:=ay rO YJ;dsimp only [lca,aV] at H;refine kP H (SQ fun _ rz=>SR fun _ wm=>Rm rfl (Rm rfl (Rc rfl (Kz wm (Cd rfl ?_ ?_))))) <;> clear H wm
  ·intro oI a H
   try have MK:=dT oI
   have hj2:j < i:=by omega
   have hj1:j < s.comments.length:=by omega
   obtain ⟨_,_,Tj,aja,-⟩:=Je (Tg.mono rO) hj1
   injection Tj with Tj
   injection Tj with e1 e2
   subst e1;subst e2;refine kP H (Kc rz (SQ fun _ lS=>SB ?_));clear H rz;intro a H
   by_cases f0:fb=true
   ·skip;refine dI hmx [[],[0],[0,1],[0,1,2],[0,1],(ra 0 5),(ra 0 6),(ra 0 7),[0,1],[0,1,8],(ra 0 10),(ra 0 11),(ra 0 12)] [12] (by kernel_rfl) [_,.bool (decide (fb=true)),undef,undef,undef,undef,undef,undef,undef,undef,undef,.bool (fb || decide (s.comments[j].id=x.parent))] H (aG (Z0 rfl (Rm rfl)) ?_ (aX (j:=1) (by kernel_rfl) (fun _ _ _ _ _ h=>h) rfl rfl rfl rfl rfl (fun _ _ h=>aY h (aL (aI f0))) rfl (fun _=>rfl)) (aX (j:=1) (by kernel_rfl) (fun _ _ _ _ _ h=>h) rfl rfl rfl rfl rfl (fun _ _ h=>aY h (aL (aI f0))) rfl (fun _=>rfl)) (aG (aX (j:=1) (by kernel_rfl) (fun _ _ _ _ _ h=>h) rfl rfl rfl rfl rfl (fun _ _ h=>aY h (aL (aI f0))) rfl (fun _=>rfl)) (aX (j:=1) (by kernel_rfl) (fun _ _ _ _ _ h=>h) rfl rfl rfl rfl rfl (fun _ _ h=>aY h (aL (aI f0))) rfl (fun _=>rfl)) (aX (j:=1) (by kernel_rfl) (fun _ _ _ _ _ h=>h) rfl rfl rfl rfl rfl (fun _ _ h=>aY h (aL (aI f0))) rfl (fun _=>rfl)) (aX (j:=1) (by kernel_rfl) (fun _ _ _ _ _ h=>h) rfl rfl rfl rfl rfl (fun _ _ h=>aY h (aL (aI f0))) rfl (fun _=>rfl)) (aG (aX (j:=1) (by kernel_rfl) (fun _ _ _ _ _ h=>h) rfl rfl rfl rfl rfl (fun _ _ h=>aY h (aL (aI f0))) rfl (fun _=>rfl)) (aX (j:=1) (by kernel_rfl) (fun _ _ _ _ _ h=>h) rfl rfl rfl rfl rfl (fun _ _ h=>aY h (aL (aI f0))) rfl (fun _=>rfl)) (aX (j:=1) (by kernel_rfl) (fun _ _ _ _ _ h=>h) rfl rfl rfl rfl rfl (fun _ _ h=>aY h (aL (aI f0))) rfl (fun _=>rfl)) ?_ (bq (bY rfl) dD)))) ?_
    ·refine dN 0 101 rfl rfl fun _ a w G1 hG HT H fin=>?_;refine kH H (Rm rfl ?_);clear H;intro a H;exact fin H iJ (by show _=_;simp)
    ·refine eu 1 102 10 111 rfl rfl fun _ a w G1 hG HT H fin=>?_;refine kH H (Pt (aI f0) rfl ?_);clear H;intro a H;exact fin H iJ (aL (by first|(rw [f0];rfl)|(rw [Bool.eq_false_iff.2 f0];rfl)))
    clear H;intro a w G Ho H hv;have H:=H.aZ (hv 11 112 rfl rfl) rfl;clear hv;refine kH H (Ra rfl ?_);clear H;intro a H;refine aH ⟨rfl,?_⟩;refine lS _ _ ?_;clear lS;refine kP H (SC (Rm rfl (Rd rfl (Ra rfl ?_))));clear H;intro a H;refine aH ?_;refine dK ((j+1,_,_)) (by exact (H).sub ⟨rfl,rfl,rfl,rfl,rfl,aC⟩) ?_ ?_
    ·try dsimp only
     exact ⟨by omega,by rw [abf hj1,← Bool.or_assoc,← Tm];cases fb <;> rfl,fun b o h=>Ho b o (rO b o h)⟩
    first|omega|(dsimp only;omega)
   skip;refine dI hmx [[],[0],[0,1],[0,1,2],[0,1],(ra 0 5),(ra 0 6),(ra 0 7),[0,1],[0,1,8],(ra 0 10),(ra 0 11),(ra 0 12)] [12] (by kernel_rfl) [_,.bool (decide (fb=true)),_,_,_,_,_,_,_,vi x.parent,_,.bool (fb || decide (s.comments[j].id=x.parent))] H (aG (Z0 rfl (Rm rfl)) ?_ (Z1 1 102 rfl (YF wJ (aR f0) rfl)) (X2 2 103 1 102 rfl fun hG=>YR rV (aR f0) rfl (ay hG aiL)) (aG (Z1 1 102 rfl (YM (aR f0) rfl)) (Z3 3 104 4 105 1 102 rfl (YI nX oP (aR f0) rfl rfl)) (Z2 5 106 1 102 rfl (YF Lj (aR f0) rfl)) (X2 6 107 1 102 rfl fun hG=>YR aD (aR f0) rfl (ay hG (aja 0 _ rfl))) (aG (Z1 1 102 rfl (YF N8 (aR f0) rfl)) (Z2 8 109 1 102 rfl (YO aD 0 (aR f0) rfl)) (Z3 7 108 9 110 1 102 rfl (YC (aR f0) rfl)) ?_ (bq (bY rfl) dD)))) ?_
   ·refine dN 0 101 rfl rfl fun _ a w G1 hG HT H fin=>?_;refine kH H (Rm rfl ?_);clear H;intro a H;exact fin H iJ (by show _=_;simp)
   ·refine eu 1 102 10 111 rfl rfl fun _ a w G1 hG HT H fin=>?_;refine kH H (Pf (aR f0) rfl ?_);clear H;intro a H;exact fin H iJ (aL (by first|(rw [f0];rfl)|(rw [Bool.eq_false_iff.2 f0];rfl)))
   clear H;intro a w G Ho H hv;have H:=H.aZ (hv 11 112 rfl rfl) rfl;clear hv;refine kH H (Ra rfl ?_);clear H;intro a H;refine aH ⟨rfl,?_⟩;refine lS _ _ ?_;clear lS;refine kP H (SC (Rm rfl (Rd rfl (Ra rfl ?_))));clear H;intro a H;refine aH ?_;refine dK ((j+1,_,_)) (by exact (H).sub ⟨rfl,rfl,rfl,rfl,rfl,aC⟩) ?_ ?_
   ·try dsimp only
    exact ⟨by omega,by rw [abf hj1,← Bool.or_assoc,← Tm];cases fb <;> rfl,fun b o h=>Ho b o (rO b o h)⟩
   first|omega|(dsimp only;omega)
  intro oI a H
  try have MK:=dF oI
  refine dW ?_;refine lQ _ _ ?_;clear lQ;refine kP H (SQ fun _ yQ=>SB (SQ fun _ wo=>?_));clear H;intro a H
  have hbef:fb=EP s.comments i x:=by rw [Tm,show j=i by omega];rfl
  refine kP H (SC (Rm rfl (Rn rfl (aO wo rfl (Cd rfl ?_ ?_))))) <;> clear H wo
  ·intro oZ a H
   refine aS (fun _ EC=>?_)
   have e:lF s=8:=by
    have h1:uF s.comments i=8:=by rw [Hw,Ba,jc (gH.1 zQ),← hbef,show (!fb)=true from oZ];rfl
    have h2:uE s.comments=8:=by rw [Hg,yU hi2 hce (by rw [h1];decide),h1]
    rw [Iy e0 zB (by rw [h2];decide),h2]
   exact kP H (SC (aO EC rfl (LR results26 rfl fun H=>H.rt (aB vi e.symm))))
  intro oZ a H
  try have Db:=dF oZ
  have w8:bQ (!EP s.comments i x) 8=0:=by rw [← hbef,show (!fb)=false from oZ];rfl
  refine kP H (SR fun _ Ch=>bg Yb gD 0 rfl rfl ?_);clear H;intro a H;refine s_call XD H wn rfl (WI _ _ H.ro x.author hte.1) rfl ?_;clear H;rintro apH _ a w ⟨rfl,rfl⟩ - H;refine kH H (Rn rfl (aj Ch rfl (Cd rfl ?_ ?_))) <;> clear H Ch
  ·intro h116 a H
   refine aS (fun _ AX=>?_)
   have e:lF s=39:=by
    have h1:uF s.comments i=39:=by rw [Hw,Ba,jc (gH.1 zQ),jc w8,show (!qm x.author)=true from h116];rfl
    have h2:uE s.comments=39:=by rw [Hg,yU hi2 hce (by rw [h1];decide),h1]
    rw [Iy e0 zB (by rw [h2];decide),h2]
   exact kP H (SC (aO AX rfl (LR results26 rfl fun H=>H.rt (aB vi e.symm))))
  intro h116 a H
  try have Px:=dF h116
  have FN:bQ (!qm x.author) 39=0:=by rw [show (!qm x.author)=false from h116];rfl
  refine kP H (SR fun _ Ac=>bg RG aD 0 rfl rfl (Rc rfl (Rm rfl (Sp 125 rfl ?_ ?_)))) <;> clear H
  ·intro xS a H
   try have aau:=dT xS
   refine kH H (aQ xS rfl (Pt xS rfl (aj Ac rfl (Ct rfl rfl (SQ fun _ Dt=>?_)))));clear H Ac;intro a H
   have e:lF s=40:=by
    have h1:uF s.comments i=40:=by rw [Hw,Ba,jc (gH.1 zQ),jc w8,jc FN,fZ (by omega)];rfl
    have h2:uE s.comments=40:=by rw [Hg,yU hi2 hce (by rw [h1];decide),h1]
    rw [Iy e0 zB (by rw [h2];decide),h2]
   exact kP H (SC (aO Dt rfl (LR results26 rfl fun H=>H.rt (aB vi e.symm))))
  intro xS a H
  try have aau:=dF xS
  refine kH H (YF RG xS rfl (YO aD 0 xS rfl (YC xS rfl (Pf xS rfl (aj Ac rfl (Cd rfl ?_ ?_)))))) <;> clear H Ac
  ·intro R3 a H
   try have alr:=dT R3
   refine aS (fun _ Du=>?_)
   have e:lF s=40:=by
    have h1:uF s.comments i=40:=by rw [Hw,Ba,jc (gH.1 zQ),jc w8,jc FN,fZ (by omega)];rfl
    have h2:uE s.comments=40:=by rw [Hg,yU hi2 hce (by rw [h1];decide),h1]
    rw [Iy e0 zB (by rw [h2];decide),h2]
   exact kP H (SC (aO Du rfl (LR results26 rfl fun H=>H.rt (aB vi e.symm))))
  intro R3 a H
  try have alr:=dF R3
  refine fu ?_;refine yQ _ _ ?_;clear yQ;refine aS (fun _ Ci=>?_)
  have Qh:bQ (!decide (0≤x.time∧x.time≤1099511627776)) 40=0:=by rw [gW (by omega)];rfl
  refine kP H (SC (bg Yc gD 0 rfl rfl ?_));clear H;intro a H;refine s_call XJ H wn rfl (abt _ _ H.ro x.text hte.2) rfl ?_;clear H;rintro apL _ a w ⟨rfl,rfl⟩ - H;refine kH H (aO Ci rfl (SR fun _ F5=>Rm rfl (Rc rfl (Kz F5 (Cd rfl ?_ ?_))))) <;> clear H Ci F5
  ·intro R6 a H
   try have ME:=dT R6
   refine aS (fun _ F6=>?_)
   have e:lF s=sU x.text:=by
    have h1:uF s.comments i=sU x.text:=by rw [Hw,Ba,jc (gH.1 zQ),jc w8,jc FN,jc Qh,wM ME]
    have h2:uE s.comments=sU x.text:=by rw [Hg,yU hi2 hce (by rw [h1];exact ME),h1]
    rw [Iy e0 zB (by rw [h2];exact ME),h2]
   exact kP H (SC (Rm rfl (aO F6 rfl (LR results26 rfl fun H=>H.rt (aB vi e.symm)))))
  intro R6 a H
  try have ME:=dF R6
  refine kP H (Kc kJ (SC (Rm rfl (Rd rfl (Ra rfl ?_)))));clear H kJ;intro a H;refine aH ?_;refine dK ((i+1,g3)) (by exact (H.dS (Pl:=[_]) (dL:=[]) [] (by decide) rfl).sub ⟨rfl,rfl,aC⟩) ?_ ?_
  ·(try dsimp only);exact ⟨by omega,Nr hi2 hce (by rw [Hw,Ba,jc (gH.1 zQ),jc w8,jc FN,jc Qh,jc (gH.1 ME)];rfl),fun b o h=>rO b o (kG b o h)⟩
  first|omega|(dsimp only;omega)
 intro gY a H
 try have p69:=dF gY
 refine dW ?_;refine gu _ _ ?_;clear gu;refine aS (fun _ uZ=>?_);refine aS (fun _ ED=>?_)
 have Ju:uE s.comments=0:=by rw [Hg,Nq (by omega) hce]
 have aiN:=ay kG aiM;replace hva:=hva.mono kG;refine kP H (SC (Rf wK rfl (Rg oO rfl (by assumption) ?_)));clear H;intro a H;refine kH H (Rl mX rfl (Rc rfl (Kn ED (Cd rfl ?_ ?_)))) <;> clear H ED
 ·intro R8 a H
  try have alx:=dT R8
  refine aS (fun _ F7=>?_)
  have e:lF s=9:=by
   have h:Aj s.vars=9:=Pk (m:=128) (by omega);rw [J5 e0 zB Ju,h]
  exact kP H (SC (aO F7 rfl (LR results26 rfl fun H=>H.rt (aB vi e.symm))))
 intro R8 a H
 try have alx:=dF R8
 have LJ:Aj s.vars=iI (xw s.vars) s.vars.length:=Pj (m:=128) (by omega);refine kP H (Kc uZ (SQ fun _ qj=>SR fun _ EF=>aj EF rfl (SB ?_)));clear H uZ EF;intro a H;skip;refine eH (ι:=Nat × GH) (Tc:=[(1,_)]) (Lc:=[]) (fun gh=>[(14,vi gh.1)]) (fun gh=>[]) (fun gh=>gh.2) (fun gh=>gh.1≤s.vars.length∧bT (((List.range s.vars.length).map (xw s.vars)).drop gh.1)=iI (xw s.vars) s.vars.length∧(∀ b o,g2 b=some o→gh.2 b=some o)) (fun gh=>s.vars.length - gh.1) ((0,g2)) (by exact (H).sub ⟨rfl,rfl,aC⟩) ?_ ?_
 ·exact ⟨iF _,rfl,fun _ _ h=>h⟩
 clear H;intro gh a w hI H;obtain ⟨n,g4⟩:=gh;dsimp only at hI H;obtain ⟨hn,hne,vO⟩:=hI;have YK:=ay vO aiN;have ZB:=hva.mono vO;dsimp only [lca,aV] at H;refine kP H (SQ fun _ xE=>SR fun _ EG=>Rm rfl (Rf wK rfl (Rg oO rfl (by assumption) ?_)));clear H;intro a H;refine kH H (Rl mX rfl (Rc rfl (Kz EG (Cd rfl ?_ ?_)))) <;> clear H EG
 ·intro mR a H
  try have MF:=dT mR
  have hn2:n < s.vars.length:=by omega
  have hn1:n - 1 < s.vars.length:=by omega
  obtain ⟨vb,vo,rfl,ZG⟩:=Qf ZB hn2;obtain ⟨_,_,Tk,Ue⟩:=Qf ZB hn1
  injection Tk with Tk
  injection Tk with e1 e2
  subst e1;subst e2;have hte:=hz.vt _ (jW hn2);obtain ⟨x,hx⟩:∃ x,x=s.vars[n]:=⟨_,rfl⟩;obtain ⟨y,hy⟩:∃ y,y=s.vars[n - 1]:=⟨_,rfl⟩
  have Mq:xw s.vars n=FK n x y.name:=by unfold xw;rw [fT hn2,fT hn1,hx,hy];rfl
  rw [← hx] at ZG hte;rw [← hy] at Ue;refine kP H (Kc xE (SQ fun _ F8=>SB (SR fun _ EH=>Rf wK rfl (Rg oO rfl (by assumption) ?_))));clear H xE;intro a H;refine kH H (Rm rfl (Ri mX oQ rfl rfl ?_));clear H;intro a H;refine aW oQ (cs:=x.cells) H wn rfl rfl (fun j v hj=>H.hp.aF (ZG j v hj)) rfl ?_;clear H;intro a H;refine dU oQ H wn rfl ?_;clear H;intro b15 a w SX H;refine bN oQ 0 (vs:=[_,_]) _ H wn rfl rfl rfl rfl rfl rfl rfl rfl ?_;clear H;intro w H;dsimp only [List.set,setRow] at H;refine EH _ _ ?_;clear EH;refine qL (ι:=GH) (Tc:=[(1,_),(14,_),(15,_)]) (Lc:=[]) (fun gh=>[]) (fun gh=>[(b15,.cells x.cells.toArray 99 (0,0))]) (fun gh=>gh) (fun gh=>bQ (!pO x.name) 13=0∧bQ (decide (0 < (n:Int)) && (x.name.toList == y.name.toList)) 7=0∧bQ (decide (0 < (n:Int)) && Op.bytesLess x.name.toList y.name.toList) 6=0∧(∀ b o,g4 b=some o→gh b=some o)) (by exact (H).sub ⟨rfl,rfl,rfl,aC⟩) ?_ ?_
  ·skip;refine kP H (SB (SR fun _ F9=>bg Bg gD 0 rfl rfl ?_));clear H;intro a H;refine s_call KT H wn rfl (KL _ _ H.ro x.name hte.1) rfl ?_;clear H;rintro apO _ a w ⟨rfl,rfl⟩ - H;refine kH H (Rn rfl (aj F9 rfl (Cd rfl ?_ ?_))) <;> clear H F9
   ·intro Og a H
    refine aS (fun _ AY=>?_)
    have e:lF s=13:=by
     have h1:xw s.vars n=13:=by rw [Mq,FK,show (!pO x.name)=true from Og];rfl
     have h2:Aj s.vars=13:=by rw [LJ,yU hn2 hne (by rw [h1];decide),h1]
     rw [J5 e0 zB Ju,h2]
    exact kP H (SC (aO AY rfl (LR results26 rfl fun H=>H.rt (aB vi e.symm))))
   intro Og a H
   try have apy:=dF Og
   have II:bQ (!pO x.name) 13=0:=by rw [show (!pO x.name)=false from Og];rfl
   refine aS (fun _ uh=>?_)
   by_cases c0:0 < (n:Int)
   ·skip;refine dI hmx [[],[0],[0,1],[0,1,2],(ra 0 4),[0,1,2],[0,1,2,5],[0,1,2],[0,1,2,7],[0,1,2,5,6,7,8],[0,1,2,5,6,7,8,9],([0,1,2]++ra 5 6),(ra 0 12),(ra 0 13),(ra 0 14)] [] (by kernel_rfl) [_,_,_,_,.string x.name,_,_,_,vi ((n - 1:Nat):Int),_,_,_,.bool ((x.name.toList == y.name.toList)),_,_] H (aG (Z0 rfl (Rm rfl)) (Z1 0 158 rfl (Rc rfl)) (Z1 1 159 rfl (Rm rfl)) (Z1 2 160 rfl (YF Bg (aI c0) rfl)) (aG (Z2 3 161 2 160 rfl (YO gD 0 (aI c0) rfl)) (Z1 2 160 rfl (YF wK (aI c0) rfl)) (X2 5 163 2 160 rfl fun hG=>YR oO (aI c0) rfl (ay hG YK)) (Z1 2 160 rfl (YM (aI c0) rfl)) (aG ?_ (Z3 6 164 8 166 2 160 rfl (YI mX oQ (aI c0) rfl rfl)) (Z2 9 167 2 160 rfl (YF Bg (aI c0) rfl)) (X2 10 168 2 160 rfl fun hG=>YR gD (aI c0) rfl (ay hG (Ue 0 _ rfl))) (bq ?_ (bq (Z2 2 160 12 170 rfl (Pt (aI c0) rfl)) (bq (Z1 13 171 rfl (Ra rfl)) dD)))))) ?_
    ·refine eu 7 165 2 160 rfl rfl fun _ a w G1 hG HT H fin=>?_;refine nU _ H (wg H rfl rfl (aI c0)) rfl rfl rfl (by omega) (by omega) rfl ?_;clear H;intro a H;exact fin H iJ (by show _=_;first|rfl|exact aB vi (by omega))
    ·refine rC 4 162 11 169 2 160 rfl rfl fun _ a w G1 hG HT H fin=>?_;refine Eo H (wg H rfl rfl (aI c0)) rfl rfl rfl ?_;clear H;intro a H;exact fin H iJ rfl
    clear H;intro a w G D5 H hv;have H:=H.aZ (hv 14 157 rfl rfl) rfl;clear hv;refine aH ⟨rfl,?_⟩;refine uh _ _ ?_;clear uh;refine jX H rfl ?_ ?_
    ·intro Ll
     refine aS (fun _ Dw=>?_)
     have e:lF s=7:=by
      have h1:xw s.vars n=7:=by rw [Mq,FK,jc II,gW c0,vg,Ll];rfl
      have h2:Aj s.vars=7:=by rw [LJ,yU hn2 hne (by rw [h1];decide),h1]
      rw [J5 e0 zB Ju,h2]
     exact kP H (SC (aO Dw rfl (LR results26 rfl fun H=>H.rt (aB vi e.symm))))
    intro Ll
    try have apA:=dF Ll
    refine aS (fun _ Gd=>?_)
    have z7:bQ (decide (0 < (n:Int)) && (x.name.toList == y.name.toList)) 7=0:=by first|(rw [gW c0,vg,Ll];rfl)|(rw [fZ c0,uw];rfl)
    have c1:0 < (n:Int):=c0;refine dI hmx [[],[0],[0,1],[0,1,2],(ra 0 4),[0,1,2],[0,1,2,5],[0,1,2],[0,1,2,7],[0,1,2,5,6,7,8],[0,1,2,5,6,7,8,9],([0,1,2]++ra 5 6),(ra 0 12),(ra 0 13),(ra 0 14)] [] (by kernel_rfl) [_,_,_,_,.string x.name,_,_,_,vi ((n - 1:Nat):Int),_,_,_,.bool (Op.bytesLess x.name.toList y.name.toList),_,_] H (aG (Z0 rfl (Rm rfl)) (Z1 0 173 rfl (Rc rfl)) (Z1 1 174 rfl (Rm rfl)) (Z1 2 175 rfl (YF Bg (aI c1) rfl)) (aG (Z2 3 176 2 175 rfl (YO gD 0 (aI c1) rfl)) (Z1 2 175 rfl (YF wK (aI c1) rfl)) (X2 5 178 2 175 rfl fun hG=>YR oO (aI c1) rfl (ay hG (ay D5 YK))) (Z1 2 175 rfl (YM (aI c1) rfl)) (aG ?_ (Z3 6 179 8 181 2 175 rfl (YI mX oQ (aI c1) rfl rfl)) (Z2 9 182 2 175 rfl (YF Bg (aI c1) rfl)) (X2 10 183 2 175 rfl fun hG=>YR gD (aI c1) rfl (ay hG (ay D5 (Ue 0 _ rfl)))) (bq ?_ (bq (Z2 2 175 12 185 rfl (Pt (aI c1) rfl)) (bq (Z1 13 186 rfl (Ra rfl)) dD)))))) ?_
    ·refine eu 7 180 2 175 rfl rfl fun _ a w G1 hG HT H fin=>?_;refine nU _ H (wg H rfl rfl (aI c1)) rfl rfl rfl (by omega) (by omega) rfl ?_;clear H;intro a H;exact fin H iJ (by show _=_;first|rfl|exact aB vi (by omega))
    ·refine rC 4 177 11 184 2 175 rfl rfl fun _ a w G1 hG HT H fin=>?_;refine aaO H (wg H rfl rfl (aI c1)) rfl rfl rfl ?_;clear H;intro a H;exact fin H iJ rfl
    clear H;intro a w G Sq H hv;have H:=H.aZ (hv 14 172 rfl rfl) rfl;clear hv;refine aH ⟨rfl,?_⟩;refine Gd _ _ ?_;clear Gd;refine jX H rfl ?_ ?_
    ·intro Lm
     refine aS (fun _ Gf=>?_)
     have e:lF s=6:=by
      have h1:xw s.vars n=6:=by rw [Mq,FK,jc II,jc z7,gW c0,vg,Lm];rfl
      have h2:Aj s.vars=6:=by rw [LJ,yU hn2 hne (by rw [h1];decide),h1]
      rw [J5 e0 zB Ju,h2]
     exact kP H (SC (aO Gf rfl (LR results26 rfl fun H=>H.rt (aB vi e.symm))))
    intro Lm
    try have apC:=dF Lm
    refine fu ?_;refine ⟨_,by exact (H).sub ⟨rfl,rfl,rfl,aC⟩,?_⟩;exact ⟨II,z7,by first|(rw [gW c0,vg,Lm];rfl)|(rw [fZ c0,uw];rfl),fun b o h=>Sq b o (D5 b o h)⟩
   skip;refine dI hmx [[],[0],[0,1],[0,1,2],(ra 0 4),[0,1,2],[0,1,2,5],[0,1,2],[0,1,2,7],[0,1,2,5,6,7,8],[0,1,2,5,6,7,8,9],([0,1,2]++ra 5 6),(ra 0 12),(ra 0 13),(ra 0 14)] [] (by kernel_rfl) [_,_,_,undef,undef,undef,undef,undef,undef,undef,undef,undef,undef,_,_] H (aG (Z0 rfl (Rm rfl)) (Z1 0 158 rfl (Rc rfl)) (Z1 1 159 rfl (Rm rfl)) (aX (j:=2) (by kernel_rfl) (fun _ _ _ _ _ h=>h) rfl rfl rfl rfl rfl (fun _ _ h=>aY h (aL (aR c0))) rfl (fun _=>rfl)) (aG (aX (j:=2) (by kernel_rfl) (fun _ _ _ _ _ h=>h) rfl rfl rfl rfl rfl (fun _ _ h=>aY h (aL (aR c0))) rfl (fun _=>rfl)) (aX (j:=2) (by kernel_rfl) (fun _ _ _ _ _ h=>h) rfl rfl rfl rfl rfl (fun _ _ h=>aY h (aL (aR c0))) rfl (fun _=>rfl)) (aX (j:=2) (by kernel_rfl) (fun _ _ _ _ _ h=>h) rfl rfl rfl rfl rfl (fun _ _ h=>aY h (aL (aR c0))) rfl (fun _=>rfl)) (aX (j:=2) (by kernel_rfl) (fun _ _ _ _ _ h=>h) rfl rfl rfl rfl rfl (fun _ _ h=>aY h (aL (aR c0))) rfl (fun _=>rfl)) (aG (aX (j:=2) (by kernel_rfl) (fun _ _ _ _ _ h=>h) rfl rfl rfl rfl rfl (fun _ _ h=>aY h (aL (aR c0))) rfl (fun _=>rfl)) (aX (j:=2) (by kernel_rfl) (fun _ _ _ _ _ h=>h) rfl rfl rfl rfl rfl (fun _ _ h=>aY h (aL (aR c0))) rfl (fun _=>rfl)) (aX (j:=2) (by kernel_rfl) (fun _ _ _ _ _ h=>h) rfl rfl rfl rfl rfl (fun _ _ h=>aY h (aL (aR c0))) rfl (fun _=>rfl)) (aX (j:=2) (by kernel_rfl) (fun _ _ _ _ _ h=>h) rfl rfl rfl rfl rfl (fun _ _ h=>aY h (aL (aR c0))) rfl (fun _=>rfl)) (bq (aX (j:=2) (by kernel_rfl) (fun _ _ _ _ _ h=>h) rfl rfl rfl rfl rfl (fun _ _ h=>aY h (aL (aR c0))) rfl (fun _=>rfl)) (bq (Z2 2 160 12 170 rfl (Pf (aR c0) rfl)) (bq (Z1 13 171 rfl (Ra rfl)) dD)))))) ?_
   clear H;intro a w G D5 H hv;have H:=H.aZ (hv 14 157 rfl rfl) rfl;clear hv;refine aH ⟨rfl,?_⟩;refine uh _ _ ?_;clear uh;refine om H rfl rfl ?_;refine aS (fun _ EI=>?_)
   have z7:bQ (decide (0 < (n:Int)) && (x.name.toList == y.name.toList)) 7=0:=by first|(rw [gW c0,vg,Ll];rfl)|(rw [fZ c0,uw];rfl)
   have c1:¬ (0 < (n:Int)):=c0;refine dI hmx [[],[0],[0,1],[0,1,2],(ra 0 4),[0,1,2],[0,1,2,5],[0,1,2],[0,1,2,7],[0,1,2,5,6,7,8],[0,1,2,5,6,7,8,9],([0,1,2]++ra 5 6),(ra 0 12),(ra 0 13),(ra 0 14)] [] (by kernel_rfl) [_,_,_,undef,undef,undef,undef,undef,undef,undef,undef,undef,undef,_,_] H (aG (Z0 rfl (Rm rfl)) (Z1 0 173 rfl (Rc rfl)) (Z1 1 174 rfl (Rm rfl)) (aX (j:=2) (by kernel_rfl) (fun _ _ _ _ _ h=>h) rfl rfl rfl rfl rfl (fun _ _ h=>aY h (aL (aR c1))) rfl (fun _=>rfl)) (aG (aX (j:=2) (by kernel_rfl) (fun _ _ _ _ _ h=>h) rfl rfl rfl rfl rfl (fun _ _ h=>aY h (aL (aR c1))) rfl (fun _=>rfl)) (aX (j:=2) (by kernel_rfl) (fun _ _ _ _ _ h=>h) rfl rfl rfl rfl rfl (fun _ _ h=>aY h (aL (aR c1))) rfl (fun _=>rfl)) (aX (j:=2) (by kernel_rfl) (fun _ _ _ _ _ h=>h) rfl rfl rfl rfl rfl (fun _ _ h=>aY h (aL (aR c1))) rfl (fun _=>rfl)) (aX (j:=2) (by kernel_rfl) (fun _ _ _ _ _ h=>h) rfl rfl rfl rfl rfl (fun _ _ h=>aY h (aL (aR c1))) rfl (fun _=>rfl)) (aG (aX (j:=2) (by kernel_rfl) (fun _ _ _ _ _ h=>h) rfl rfl rfl rfl rfl (fun _ _ h=>aY h (aL (aR c1))) rfl (fun _=>rfl)) (aX (j:=2) (by kernel_rfl) (fun _ _ _ _ _ h=>h) rfl rfl rfl rfl rfl (fun _ _ h=>aY h (aL (aR c1))) rfl (fun _=>rfl)) (aX (j:=2) (by kernel_rfl) (fun _ _ _ _ _ h=>h) rfl rfl rfl rfl rfl (fun _ _ h=>aY h (aL (aR c1))) rfl (fun _=>rfl)) (aX (j:=2) (by kernel_rfl) (fun _ _ _ _ _ h=>h) rfl rfl rfl rfl rfl (fun _ _ h=>aY h (aL (aR c1))) rfl (fun _=>rfl)) (bq (aX (j:=2) (by kernel_rfl) (fun _ _ _ _ _ h=>h) rfl rfl rfl rfl rfl (fun _ _ h=>aY h (aL (aR c1))) rfl (fun _=>rfl)) (bq (Z2 2 175 12 185 rfl (Pf (aR c1) rfl)) (bq (Z1 13 186 rfl (Ra rfl)) dD)))))) ?_
   clear H;intro a w G Sq H hv;have H:=H.aZ (hv 14 172 rfl rfl) rfl;clear hv;refine aH ⟨rfl,?_⟩;refine EI _ _ ?_;clear EI;refine om H rfl rfl ?_;refine fu ?_;refine ⟨_,by exact (H).sub ⟨rfl,rfl,rfl,aC⟩,?_⟩;exact ⟨II,z7,by first|(rw [gW c0,vg,Lm];rfl)|(rw [fZ c0,uw];rfl),fun b o h=>Sq b o (D5 b o h)⟩
  clear H;intro gh a w hI H;obtain ⟨g5,hgh⟩:∃ x,x=gh:=⟨_,rfl⟩;subst hgh;obtain ⟨II,z7,z6,aji⟩:=hI;dsimp only [lca,aV] at H;refine kP H (SR fun _ EJ=>bg RH gD 0 rfl rfl ?_);clear H;intro a H;refine s_call XJ H wn rfl (abt _ _ H.ro x.value hte.2) rfl ?_;clear H;rintro apR _ a w ⟨rfl,rfl⟩ - H;refine kH H (aj EJ rfl (SR fun _ EK=>Rm rfl (Rc rfl (Kz EK (Cd rfl ?_ ?_))))) <;> clear H EJ EK
  ·intro Sg a H
   try have PD:=dT Sg
   refine aS (fun _ IY=>?_)
   have e:lF s=sU x.value:=by
    have h1:xw s.vars n=sU x.value:=by rw [Mq,FK,jc II,jc z7,jc z6,wM PD]
    have h2:Aj s.vars=sU x.value:=by rw [LJ,yU hn2 hne (by rw [h1];exact PD),h1]
    rw [J5 e0 zB Ju,h2]
   exact kP H (SC (Rm rfl (aO IY rfl (LR results26 rfl fun H=>H.rt (aB vi e.symm)))))
  intro Sg a H
  try have PD:=dF Sg
  refine kP H (Kc F8 (SC (Rm rfl (Rd rfl (Ra rfl ?_)))));clear H F8;intro a H;refine aH ?_;refine dK ((n+1,g5)) (by exact (H.dS (Pl:=[_]) (dL:=[]) [] (by decide) rfl).sub ⟨rfl,rfl,aC⟩) ?_ ?_
  ·(try dsimp only);exact ⟨by omega,Nr hn2 hne (by rw [Mq,FK,jc II,jc z7,jc z6,jc (gH.1 PD)];rfl),fun b o h=>aji b o (vO b o h)⟩
  first|omega|(dsimp only;omega)
 intro mR a H
 try have MF:=dF mR
 refine dW ?_;refine qj _ _ ?_;clear qj;refine aS (fun _ Gg=>?_)
 have e:lF s=0:=by rw [J5 e0 zB Ju,LJ,Nq (by omega) hne]
 exact kP H (SC (aO Gg rfl (LR results26 rfl fun H=>H.rt (aB vi e.symm))))
end
end Go.Proofs.YtdacibabefnabaaGreat
